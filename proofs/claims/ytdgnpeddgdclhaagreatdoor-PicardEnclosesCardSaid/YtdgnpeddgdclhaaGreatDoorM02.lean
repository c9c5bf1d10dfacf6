/- Texts: Pq Wa Wb Wc Wd We Wf Wg Wh Ti Wi Wj Wk Wl Wm Wn Wo Wp Wq St Num Tj Nc Wt Wu Wv Kd Pr Tt Pt Mu Pv Ad Ae Af Ps Rn Rs Rk Rl Ke Sm Pw Iv Iw Ix Ey Ip. -/
import Derived.Test.YtdgnpeddgdclhaaGreatDoorM01
import Derived.Deep.DeepCutAuto
set_option linter.unusedSimpArgs false
set_option linter.unusedVariables false
set_option maxHeartbeats 4000000
namespace Go.Proofs.YtdgnpeddgdclhaaGreatDoor.Pu
open Go.RowKit
def rW:List Prop->Prop
 | []=>True
 | p::l=>p/\rW l
theorem rW.mem{l:List Prop}(h:rW l):∀ q,q ∈ l->q:=by
 induction l with
 | nil=>intro q hq;simp at hq
 | cons p l ih =>
  intro q hq;rcases List.mem_cons.1 hq with hq|hq
  .subst hq;exact h.1
  .exact ih h.2 q hq
def r6(P:Program):List TI->Prop
 | []=>True
 | x::l=>(P.underlying x.id=some x.d/\P.info? x.id=some x.i)/\r6 P l
theorem r6.ok{P:Program}{T:List TI}(h:r6 P T):cD P T:=by
 induction T with
 | nil=>intro x hx;simp at hx
 | cons y l ih =>
  intro x hx;rcases List.mem_cons.1 hx with hx|hx
  .subst hx;exact h.1
  .exact ih h.2 x hx
theorem Sp.run{P:Program}{K:World->Prop}{T:List TI}(hT:cD P T)(hm:P.follows .mixedOrders=true){c:Code}{σ τ:PS}{e:Ex}{aM:List Prop}(O:eu)(lo:Lo)(h:gR P K T O lo c σ=some (e,τ,aM))(ho:rW aM):Sp P K c σ (fun e' τ'=>e'=e/\τ'=τ) :=
 Ci hT hm h ho.mem
def E.le(p q:E):Prop:=∀ (bs br:Nat->Prop) (w:World) (v:Value),ax bs br w p v->ax bs br w q v
theorem E.le.refl(p:E):E.le p p:=fun _ _ _ _ h=>h
theorem E.le.of_eq{p q:E}(h:p=q):E.le p q:=h▸E.le.refl p
theorem E.le.trans{p q r:E}(h:E.le p q)(k:E.le q r):E.le p r:=fun _ _ _ _ x=>k _ _ _ _ (h _ _ _ _ x)
theorem PV.le.e{p q:E}(h:E.le p q):PV.le (.e p) (.e q):=fun bs br _ w v k=>h bs br w v k
theorem PV.le.bool{a b:Bool}(h:a=b):PV.le (.e (.v (.bool a))) (.e (.v (.bool b))):=PV.le.e (.of_eq (by rw[h]))
theorem PV.le.int{k:IntKind}{a b:Int}(h:a=b):PV.le (.e (.v (.int k a))) (.e (.v (.int k b))):=PV.le.e (.of_eq (by rw[h]))
theorem PV.le.any(p:PV):PV.le p (.e .any):=fun _ _ _ _ _ _=>.any _
inductive iu:List E->List E->Prop
 | nil:iu [] []
 | cons {p q:E} {l m:List E} (h:E.le p q) (k:iu l m):iu (p::l) (q::m)
theorem iu.refl:∀ l:List E,iu l l
 | []=>.nil
 | p::l=>.cons (.refl p) (iu.refl l)
theorem iu.uk{l m:List E}(h:iu l m){bs br:Nat->Prop}{w:World}{vs:List Value}(k:bE bs br w l vs):bE bs br w m vs:=by
 induction h generalizing vs with
 | nil=>exact k
 | cons h _ ih =>
  obtain⟨x,ys,rfl,h1,h2⟩:=k.cK;exact .cons (h _ _ _ _ h1) (ih h2)
theorem E.le.agg{l m:List E}(h:iu l m):E.le (.agg l) (.agg m):=fun _ _ _ _ k=>by
 obtain⟨vs,rfl,hr⟩:=ax.ot k;exact(h.uk hr).agg
theorem E.le.aq{l m:List E}(h:iu l m):E.le (.aq l) (.aq m):=fun _ _ _ _ k=>by
 obtain⟨vs,rfl,hr⟩:=ax.Gy k;exact(h.uk hr).aq
theorem E.le.nil(nl:Bool)(sz:Nat)(el:Nat->Nat->E):E.le (.v (.slice none 0 0)) (.sl nl 0 sz el):=fun _ _ _ _ k=>by
 obtain rfl:=ax.bQ k;exact .sl nl 0 sz el none 0 (fun _ _=>undef) (Nat.le_refl _) (by decide) (fun _=>rfl) (fun i j h=>absurd h (Nat.not_lt_zero i)) (fun i j h=>absurd h (Nat.not_lt_zero i)) (fun i j h=>absurd h (Nat.not_lt_zero i)) (fun i j h=>absurd h (Nat.not_lt_zero i))
theorem E.le.sl{nl:Bool}{n sz:Nat}{el el':Nat->Nat->E}(h:∀ i j,i<n->j<sz->E.le (el i j) (el' i j)/\(el' i j).nr 2=true):E.le (.sl nl n sz el) (.sl nl n sz el'):=fun bs br w v k=>by
 cases k with
 | sl _ _ _ _ A c f hc hm h0 hl hr cell kk =>
  exact .sl nl n sz el' A c f hc hm h0 hl (fun i j hi hj=>(h i j hi hj).2) cell fun i j hi hj=>(h i j hi hj).1 _ _ _ _ (kk i j hi hj)
theorem PC.le{P:Program}{K:World->Prop}{f:FuncId}{args args':List E}{res res':E}(h:PC P K f args res)(ha:iu args' args)(hr:E.le res res'):PC P K f args' res' :=
 ⟨h.call,fun w B vs hK hB hrep=>(h.run w B vs hK hB (ha.uk hrep)).mono fun _ _ ⟨v,h1,h2,h3⟩=>⟨v,h1,h2,hr _ _ _ _ h3⟩⟩
theorem PC.res{P:Program}{K:World->Prop}{f:FuncId}{args:List E}{res res':E}(h:PC P K f args res)(hr:E.le res res'):PC P K f args res':=h.le (iu.refl _) hr
end Go.Proofs.YtdgnpeddgdclhaaGreatDoor.Pu
namespace Go.Proofs.YtdgnpeddgdclhaaGreatDoor
open Go.RowKit Fp
theorem iV(A:Option Addr)(c:Nat)(L:List Nat)(w:World)(hs:Sl w A c L) :
  Calls Tryz.prog 167 #[.slice A L.length c] w fun e w'=>e = .returned (.slice A (aw L).length c)/\w=w':=by
 have hc:=hs.cap;have hl:=hs.fz;go_enter Tryz.func167,Tryz.ntmps167;go_wp2;go_loop [3] (fun i=>∃ k:Nat,k<=L.length/\i = .int .i64 k/\cN L=cN (L.take k)) (fun i=>(intOf i).toNat)
 case atStart=>exact⟨L.length,Nat.le_refl _,rfl,by simp⟩
 case round =>
  obtain⟨k,hk,rfl,ht⟩:=hrel;have HT:=Lib.hid ht;clear ht;by_cases h0:0<k
  .obtain ⟨ab,ao,rfl,hb,h1⟩:=hs.at_ (i:=k-1) (by omega)
   have e1:((k:Int)-1).toNat=k-1:=by omega
   have Z:=Lib.hid (zg L (k-1) (by omega));have NZ:=Lib.hid (zf L (k-1) (by omega));rw[Nat.sub_add_cancel h0]at Z NZ;generalize L[k-1]=x at *
   by_cases hx:x=0
   .have Hx:=Lib.hid hx;clear hx
    have hb:((x:Int)==0)=true:=by have:=Hx.out;simp;omega
    go_wp2;go_round
    case rel=>exact⟨k-1,by omega,by go_num,by rw[HT.out,Z.out Hx.out]⟩
    case measure=>simp[intOf];omega
   .have hb:((x:Int)==0)=false:=by simp;omega
    go_wp2;go_ret;exact⟨uq (by show _=cN L;rw[HT.out,NZ.out hx]),rfl⟩
  .go_wp2
   go_ret;have:k=0:=by omega
   subst this;exact⟨uq (by show _=cN L;rw[HT.out];rfl),rfl⟩
theorem KX(A:Option Addr)(c:Nat)(L:List Nat)(w:World)(hs:Sl w A c L) :
  Calls Tryz.prog 125 #[.slice A L.length c] w fun e w'=>e = .returned (.slice A (aw L).length c)/\w=w':=by
 have hc:=hs.cap;have hl:=hs.fz;go_enter Tryz.func125,Tryz.ntmps125;go_wp2;go_loop [3] (fun i=>∃ k:Nat,k<=L.length/\i = .int .i64 k/\cN L=cN (L.take k)) (fun i=>(intOf i).toNat)
 case atStart=>exact⟨L.length,Nat.le_refl _,rfl,by simp⟩
 case round =>
  obtain⟨k,hk,rfl,ht⟩:=hrel;have HT:=Lib.hid ht;clear ht;by_cases h0:0<k
  .obtain ⟨ab,ao,rfl,hb,h1⟩:=hs.at_ (i:=k-1) (by omega)
   have e1:((k:Int)-1).toNat=k-1:=by omega
   have Z:=Lib.hid (zg L (k-1) (by omega));have NZ:=Lib.hid (zf L (k-1) (by omega));rw[Nat.sub_add_cancel h0]at Z NZ;generalize L[k-1]=x at *
   by_cases hx:x=0
   .have Hx:=Lib.hid hx;clear hx
    have hb:((x:Int)==0)=true:=by have:=Hx.out;simp;omega
    go_wp2;go_round
    case rel=>exact⟨k-1,by omega,by go_num,by rw[HT.out,Z.out Hx.out]⟩
    case measure=>simp[intOf];omega
   .have hb:((x:Int)==0)=false:=by simp;omega
    go_wp2;go_ret;exact⟨uq (by show _=cN L;rw[HT.out,NZ.out hx]),rfl⟩
  .go_wp2
   go_ret;have:k=0:=by omega
   subst this;exact⟨uq (by show _=cN L;rw[HT.out];rfl),rfl⟩
theorem Sl.trim{w:World}{A:Option Addr}{c:Nat}{L:List Nat}(h:Sl w A c L):Sl w A c (aw L):=(h.take (cN L)).eqv (uK L).symm
def IV:Go.Shelf.Ren:=⟨fun|128=>230|n=>n,fun|51=>79|3=>3|4=>4|46=>124|5=>5|9=>9|n=>n,fun|n=>n⟩
theorem IP:Go.Proofs.Lays.n128 Tryz.prog IV:={
 mixed:=by kernel_rfl
 f128:=Tryz.func230.trans (congrArg some (by kernel_rfl))
 t3:=Tryz.underlying3
 a3:=Tryz.isAgg3
 z3:=Tryz.sizeOf3
 v3:=Tryz.zeroValue3
 t4:=Tryz.underlying4
 a4:=Tryz.isAgg4
 z4:=Tryz.sizeOf4
 v4:=Tryz.zeroValue4
 t5:=Tryz.underlying5
 a5:=Tryz.isAgg5
 z5:=Tryz.sizeOf5
 v5:=Tryz.zeroValue5
 t9:=Tryz.underlying9
 a9:=Tryz.isAgg9
 z9:=Tryz.sizeOf9
 v9:=Tryz.zeroValue9
 t46:=Tryz.underlying124
 a46:=Tryz.isAgg124
 z46:=Tryz.sizeOf124
 v46:=Tryz.zeroValue124
 t51:=Tryz.underlying79
 a51:=Tryz.isAgg79
 z51:=Tryz.sizeOf79
 v51:=Tryz.zeroValue79 }
theorem Dd(x:Nat)(hx:x<4294967296)(w:World) :
  Calls Tryz.prog 230 #[.int .u32 x] w fun e w'=>e = .returned (.int .i64 (ak x))/\w=w':=by
 refine(Any.bits_Len32 IP x w (by omega) (by omega)).mono ?_;rintro e w' ⟨rfl,rfl⟩;rw[Int.toNat_natCast,IK x hx];exact⟨rfl,rfl⟩
theorem tz32_core(x k idx:Nat)(w:World)(hx0:((x:Int)==0)=false)
  (key:bits BinOp.and IntKind.u32 (x:Int) (-(x:Int)%4294967296)*125613361%4294967296/134217728=(idx:Int))
  (hi:idx<32) (hk:k<32) (hcell:w.cell? ⟨0,idx,none⟩=some (.int .u8 k)) :
  Calls Tryz.prog 163 #[.int .u32 x] w fun e w'=>e = .returned (.int .i64 k)/\w=w':=by
 go_enter Tryz.func163,Tryz.ntmps163;go_wp2_with (simp only[key])
 go_ret;exact⟨rfl,rfl⟩
theorem S6(x:Nat)(h0:x≠0)(hx:x<4294967296)(w:World)(hT:Tb w) :
  Calls Tryz.prog 163 #[.int .u32 x] w fun e w'=>e = .returned (.int .i64 (aY x))/\w=w':=by
 rw[<-Ko x h0 hx];obtain⟨hlow,hk⟩:=Lib.lowest_bit 32 x h0 hx;obtain⟨hi,htab⟩:=Lib.deBruijn32_at _ hk;have hcell:=hT _ hi;rw[htab]at hcell;exact tz32_core x _ _ w (by simp;omega) (tz32_key x _ hx h0 hlow) hi hk hcell
open Go.RowKit Fp
theorem i64_in(n:Int)(h0:-9223372036854775808<=n)(h1:n<=9223372036854775807):IntKind.i64.wrap n=n:=by rw[IntKind.wrap_i64];omega
theorem AW{L M:List Nat}{n:Nat}(hs:ay L)(hM:aw L=M)(hn:M.length=n+1) :
  ∃ x,M[n]? = some x/\x<4294967296/\(32*(n:Int)+(ak x:Int))=(ak (val L):Int)/\ak x<=32:=by
 have hk:ay M:=hM▸hs.aw;have ht:Trim M:=hM▸lM L;rcases List.eq_nil_or_concat M with rfl|⟨l,x,rfl⟩
 .simp at hn
 .simp only[List.concat_eq_append,List.length_append,List.length_singleton,Nat.add_right_cancel_iff]at hn hk ht hM ⊢
  subst hn;have hx:x≠0:=by simpa using(mV _).1 ht (by simp)
  have hlt:x<4294967296:=hk x (by simp);refine⟨x,by simp,hlt,?_,cv.2 hlt⟩;have:=IU hk hx;rw[<-hM,eP]at this;omega
theorem DP(A:Option Addr)(c:Nat)(L:List Nat)(w:World)(hs:Sl w A c L)(hlen:L.length<=100000000) :
  Calls Tryz.prog 194 #[.slice A L.length c] w fun e w'=>e = .returned (.int .i64 (ak (val L)))/\w=w':=by
 have hT:=Lib.hid (iV A c L w hs);have hs2:=hs.trim;have hl2:=eD L;unfold cN at hl2;generalize hM:aw L=M at *
 obtain⟨n,hn⟩:∃ n,n=M.length:=⟨_,rfl⟩
 rw[<-hn]at hT hl2;rcases n with _|n
 .have hv:ak (val L)=0:=by rw[<-eP,hM,List.eq_nil_of_length_eq_zero hn.symm];rfl
  have HV:=Lib.hid hv;clear hv hM hn;go_enter Tryz.func194,Tryz.ntmps194;go_wp2_with (go_at_call 167;refine hT.out.mono ?_;rintro e w' ⟨rfl,rfl⟩)
  go_ret;exact⟨by rw[HV.out];rfl,rfl⟩
 .obtain ⟨x,hx,hlt,hb,hb32⟩:=AW hs.ok hM hn.symm
  obtain⟨ab,ao,rfl,_,hcell⟩:=hs2.cell _ _ hx;have HB:=Lib.hid hb;clear hb hM hn hx;go_enter Tryz.func194,Tryz.ntmps194;go_wp2_with (first|(go_at_call 167;refine hT.out.mono ?_;rintro e w' ⟨rfl,rfl⟩)|(go_at_call 230;refine(Dd x hlt _).mono ?_;rintro e w' ⟨rfl,rfl⟩))
  go_ret;exact⟨dU HB.out,rfl⟩
theorem IS{x:Nat}(h:x≠0):ak x=ak (x/2)+1:=by
 by_cases h1:x/2=0
 .have:x=1:=by omega
  subst this;rfl
 .have e1:=iq h1
  have e2:=gi (x/2);have e3:=dX h1;generalize ak (x/2)=k at *
  obtain⟨j,rfl⟩:∃ j,k=j+1:=⟨k-1,by omega⟩
  rw[Nat.add_sub_cancel]at e1;refine kR ?_ ?_
  .rw [Nat.pow_succ];omega
  .rw [Nat.pow_succ];omega
theorem Fc(A:Option Addr)(c:Nat)(L:List Nat)(w:World)(hs:Sl w A c L)(ht:Trim L)(hlen:L.length<=100000000) :
  Calls Tryz.prog 94 #[.slice A L.length c] w fun e w'=>e = .returned (.int .i64 (ak (val L)))/\w=w':=by
 obtain⟨n,hn⟩:∃ n,n=L.length:=⟨_,rfl⟩
 rcases n with _|n
 .have hv:ak (val L)=0:=by rw[List.eq_nil_of_length_eq_zero hn.symm];rfl
  have HV:=Lib.hid hv;rw[<-hn];clear hv ht hn;go_enter Tryz.func94,Tryz.ntmps94;go_wp2;go_ret;exact⟨by rw[HV.out];rfl,rfl⟩
 .obtain ⟨x,hx,hlt,hb,hb32⟩:=AW hs.ok ht hn.symm
  obtain⟨ab,ao,rfl,_,hcell⟩:=hs.cell _ _ hx;have HB:=Lib.hid hb;rw[<-hn]at hlen ⊢;clear hb ht hn hx;go_enter Tryz.func94,Tryz.ntmps94;go_wp2;go_loop [3,4] (fun m y=>∃ (k z:Nat),z<4294967296/\y = .int .u32 z/\m = .int .i64 k/\k<=10000000000/\k+ak z=ak (val L)) (fun _ y=>(intOf y).toNat)
  case atStart=>exact⟨32*n,x,hlt,rfl,by go_num,by omega,by have:=HB.out;omega⟩
  case round =>
   obtain⟨k,z,hz,rfl,rfl,hk,he⟩:=hrel;have HE:=Lib.hid he;clear he;by_cases h0:0<z
   .have hh:=Lib.hid (IS (x:=z) (by omega))
    have hk2:k<=3300000000:=by have:=HE.out;have:=HB.out;omega
    go_wp2;go_round
    case rel=>exact⟨k+1,z/2,by omega,by go_num,by go_num,by omega,by rw[<-HE.out,hh.out];omega⟩
    case measure=>simp[intOf];omega
   .obtain rfl:z=0:=by omega
    go_wp2;go_ret;exact⟨dU (by rw[<-HE.out];rfl),rfl⟩
theorem Bv{L M:List Nat}(hL:ay L)(h:(aw L).length<(aw M).length):bH (val L) (val M) = -1:=by
 have:=uP hL.aw (lM M) h;rw[eP,eP]at this;unfold bH;rw[if_pos this]
theorem Bu{L M:List Nat}(hM:ay M)(h:(aw M).length<(aw L).length):bH (val L) (val M)=1:=by
 have:=uP hM.aw (lM L) h;rw[eP,eP]at this;unfold bH;rw[if_neg (by omega),if_pos this]
theorem sH{M N:List Nat}(hM:ay M){k x y:Nat}(hl:M.length=N.length)(hx:M[k]? = some x)(hy:N[k]? = some y)(hd:M.drop (k+1)=N.drop (k+1))(h:x<y):val M<val N:=by
 obtain⟨h1,rfl⟩:=List.getElem?_eq_some_iff.1 hx;obtain⟨h2,rfl⟩:=List.getElem?_eq_some_iff.1 hy;exact Tf hM k h1 hl hd h
theorem BT{M N:List Nat}{k x:Nat}(hx:M[k]? = some x)(hy:N[k]? = some x)(hd:M.drop (k+1)=N.drop (k+1)):M.drop k=N.drop k:=by
 obtain⟨h1,e1⟩:=List.getElem?_eq_some_iff.1 hx;obtain⟨h2,e2⟩:=List.getElem?_eq_some_iff.1 hy;rw[List.drop_eq_getElem_cons h1,List.drop_eq_getElem_cons h2,e1,e2,hd]
theorem qO(A B:Option Addr)(c d:Nat)(L M:List Nat)(w:World)(hs:Sl w A c L)(hr:Sl w B d M)(h1:L.length<=100000000)(_h2:M.length<=100000000) :
  Calls Tryz.prog 131 #[.slice A L.length c,.slice B M.length d] w fun e w'=>e = .returned (.int .i64 (bH (val L) (val M)))/\Ext w w':=by
 have hT:=Lib.hid (iV A c L w hs);have hU:=Lib.hid (iV B d M w hr);have hs2:=hs.trim;have hr2:=hr.trim;have hl2:=eD L;have hm2:=eD M;unfold cN at hl2 hm2;by_cases hlt:(aw L).length<(aw M).length
 .have HV:=Lib.hid (Bv hs.ok hlt)
  have hne:((((aw L).length:Nat):Int) != ((aw M).length:Nat))=true:=by simp;omega
  generalize (aw L).length=n at *
  generalize (aw M).length=m at *
  clear hs2 hr2;go_enter Tryz.func131,Tryz.ntmps131;go_wp2_with fail;refine hT.out.mono ?_;rintro e w' ⟨rfl,rfl⟩;go_wp2_with fail;refine hU.out.mono ?_;rintro e w' ⟨rfl,rfl⟩;go_wp2;go_ret;exact⟨dU (by rw[HV.out]),Ext.refl _⟩
 .by_cases hgt:(aw M).length<(aw L).length
  .have HV:=Lib.hid (Bu hr.ok hgt)
   have hne:((((aw L).length:Nat):Int) != ((aw M).length:Nat))=true:=by simp;omega
   generalize (aw L).length=n at *
   generalize (aw M).length=m at *
   clear hs2 hr2;go_enter Tryz.func131,Tryz.ntmps131;go_wp2_with fail;refine hT.out.mono ?_;rintro e w' ⟨rfl,rfl⟩;go_wp2_with fail;refine hU.out.mono ?_;rintro e w' ⟨rfl,rfl⟩;go_wp2;go_ret;exact⟨dU (by rw[HV.out]),Ext.refl _⟩
  .have hl:(aw L).length=(aw M).length:=by omega
   have HL:=Lib.hid hl;rw[<-hl]at hU hm2;have e1:=eP L;have e2:=eP M;generalize aw L=P at *
   generalize aw M=Q at *
   have E1:=Lib.hid e1;have E2:=Lib.hid e2;clear e1 e2 hl hgt hlt;obtain⟨n,hn⟩:∃ n,n=P.length:=⟨_,rfl⟩
   rw[<-hn]at hT hU hm2 hl2;have HN:=Lib.hid hn;clear hn;have hne:((n:Int) != (n:Int))=false:=by simp
   have okP:=hs2.ok;have nN:=hr2.ok;go_enter Tryz.func131,Tryz.ntmps131;go_wp2_with fail;refine hT.out.mono ?_;rintro e w' ⟨rfl,rfl⟩;go_wp2_with fail;refine hU.out.mono ?_;rintro e w' ⟨rfl,rfl⟩;go_wp2;go_loopw [5] (fun i wr=>∃ k:Nat,k<=n/\i = .int .i64 ((k:Int)-1)/\P.drop k=Q.drop k/\Ext w wr) (fun i _=>(intOf i+1).toNat)
   case atStart=>exact⟨n,Nat.le_refl _,rfl,by rw[List.drop_eq_nil_of_le (by rw[<-HN.out];exact Nat.le_refl _),List.drop_eq_nil_of_le (by rw[<-HL.out,<-HN.out];exact Nat.le_refl _)],Ext.refl _⟩
   case round =>
    obtain⟨k,hk,rfl,hd,hb⟩:=hrel;have HD:=Lib.hid hd;clear hd;rcases k with _|k
    .go_wp2
     go_ret;have e:P=Q:=by simpa using HD.out
     exact⟨dU (by rw[<-E1.out,<-E2.out,e];unfold bH;simp),hb⟩
    .have hkP:k<P.length:=by have:=HN.out;omega
     have hkQ:k<Q.length:=by have:=HN.out;have:=HL.out;omega
     have HP:=Lib.hid (List.getElem?_eq_getElem hkP);have HQ:=Lib.hid (List.getElem?_eq_getElem hkQ);obtain⟨ab,ao,rfl,_,c1⟩:=(hs2.below hb).at_ hkP;obtain⟨bb,bo,rfl,_,c2⟩:=(hr2.below hb).at_ hkQ;have hkn:(k:Int)<n:=by omega
     have hk0:(0:Int)<=k:=by omega
     have x0:(0:Int)<=P[k]:=by omega
     have y0:(0:Int)<=Q[k]:=by omega
     generalize P[k]=x at *
     generalize Q[k]=y at *
     clear hkP hkQ;by_cases hxy:x<y
     .have hxy':(x:Int)<y:=by omega
      go_wp2;go_quiet (fail);go_wp2;go_ret;have h:=sH okP HL.out HP.out HQ.out HD.out hxy;rw[E1.out,E2.out]at h;exact⟨dU (by unfold bH;rw[if_pos h]),below_drewN hb _⟩
     .have hxy':¬(x:Int)<y:=by omega
      by_cases hyx:y<x
      .have hyx':(y:Int)<x:=by omega
       go_wp2;go_quiet (fail);go_wp2;go_quiet (fail);go_wp2;go_ret;have h:=sH nN HL.out.symm HQ.out HP.out HD.out.symm hyx;rw[E1.out,E2.out]at h;exact⟨dU (by unfold bH;rw[if_neg (by omega),if_pos h]),below_drewN (below_drewN hb _) _⟩
      .have hyx':¬(y:Int)<x:=by omega
       have HX:=Lib.hid (show x=y by omega);go_wp2;go_quiet (fail);go_wp2;go_quiet (fail);go_wp2;go_roundw
       case rel=>exact⟨k,by omega,by go_num,BT HP.out (by rw[HX.out];exact HQ.out) HD.out,by repeat (first|exact hb|refine below_drewN ?_ _)⟩
       case measure=>simp[intOf];try omega
theorem Ff(A B:Option Addr)(c d:Nat)(P Q:List Nat)(w:World)(hs2:Sl w A c P)(hr2:Sl w B d Q)(tP:Trim P)(tQ:Trim Q)(h1:P.length<=100000000)(_h2:Q.length<=100000000) :
  Calls Tryz.prog 150 #[.slice A P.length c,.slice B Q.length d] w fun e w'=>e = .returned (.int .i64 (bH (val P) (val Q)))/\Ext w w':=by
 have tP':aw P=P:=tP;have tQ':aw Q=Q:=tQ;by_cases hlt:P.length<Q.length
 .have HV:=Lib.hid (Bv (M:=Q) hs2.ok (by rw[tP',tQ'];exact hlt))
  have hne:(((P.length:Nat):Int) != (Q.length:Nat))=true:=by simp;omega
  generalize P.length=n at *
  generalize Q.length=m at *
  clear hs2 hr2 tP' tQ' tP tQ;go_enter Tryz.func150,Tryz.ntmps150;go_wp2;go_ret;exact⟨dU (by rw[HV.out]),Ext.refl _⟩
 .by_cases hgt:Q.length<P.length
  .have HV:=Lib.hid (Bu (L:=P) hr2.ok (by rw[tP',tQ'];exact hgt))
   have hne:(((P.length:Nat):Int) != (Q.length:Nat))=true:=by simp;omega
   generalize P.length=n at *
   generalize Q.length=m at *
   clear hs2 hr2 tP' tQ' tP tQ;go_enter Tryz.func150,Tryz.ntmps150;go_wp2;go_ret;exact⟨dU (by rw[HV.out]),Ext.refl _⟩
  .have hl:P.length=Q.length:=by omega
   have HL:=Lib.hid hl;rw[<-hl];clear hl hgt hlt tP' tQ' tP tQ _h2;obtain⟨n,hn⟩:∃ n,n=P.length:=⟨_,rfl⟩
   rw[<-hn]at h1 ⊢;have HN:=Lib.hid hn;clear hn;have hne:((n:Int) != (n:Int))=false:=by simp
   have okP:=hs2.ok;have nN:=hr2.ok;go_enter Tryz.func150,Tryz.ntmps150;go_wp2;go_loopw [5] (fun i wr=>∃ k:Nat,k<=n/\i = .int .i64 ((k:Int)-1)/\P.drop k=Q.drop k/\Ext w wr) (fun i _=>(intOf i+1).toNat)
   case atStart=>exact⟨n,Nat.le_refl _,rfl,by rw[List.drop_eq_nil_of_le (by rw[<-HN.out];exact Nat.le_refl _),List.drop_eq_nil_of_le (by rw[<-HL.out,<-HN.out];exact Nat.le_refl _)],Ext.refl _⟩
   case round =>
    obtain⟨k,hk,rfl,hd,hb⟩:=hrel;have HD:=Lib.hid hd;clear hd;rcases k with _|k
    .go_wp2
     go_ret;have e:P=Q:=by simpa using HD.out
     exact⟨dU (by rw[e];unfold bH;simp),hb⟩
    .have hkP:k<P.length:=by have:=HN.out;omega
     have hkQ:k<Q.length:=by have:=HN.out;have:=HL.out;omega
     have HP:=Lib.hid (List.getElem?_eq_getElem hkP);have HQ:=Lib.hid (List.getElem?_eq_getElem hkQ);obtain⟨ab,ao,rfl,_,c1⟩:=(hs2.below hb).at_ hkP;obtain⟨bb,bo,rfl,_,c2⟩:=(hr2.below hb).at_ hkQ;have hkn:(k:Int)<n:=by omega
     have hk0:(0:Int)<=k:=by omega
     have x0:(0:Int)<=P[k]:=by omega
     have y0:(0:Int)<=Q[k]:=by omega
     generalize P[k]=x at *
     generalize Q[k]=y at *
     clear hkP hkQ;by_cases hxy:x<y
     .have hxy':(x:Int)<y:=by omega
      go_wp2;go_quiet (fail);go_wp2;go_ret;have h:=sH okP HL.out HP.out HQ.out HD.out hxy;exact⟨dU (by unfold bH;rw[if_pos h]),below_drewN hb _⟩
     .have hxy':¬(x:Int)<y:=by omega
      by_cases hyx:y<x
      .have hyx':(y:Int)<x:=by omega
       go_wp2;go_quiet (fail);go_wp2;go_quiet (fail);go_wp2;go_ret;have h:=sH nN HL.out.symm HQ.out HP.out HD.out.symm hyx;exact⟨dU (by unfold bH;rw[if_neg (by omega),if_pos h]),below_drewN (below_drewN hb _) _⟩
      .have hyx':¬(y:Int)<x:=by omega
       have HX:=Lib.hid (show x=y by omega);go_wp2;go_quiet (fail);go_wp2;go_quiet (fail);go_wp2;go_roundw
       case rel=>exact⟨k,by omega,by go_num,BT HP.out (by rw[HX.out];exact HQ.out) HD.out,by repeat (first|exact hb|refine below_drewN ?_ _)⟩
       case measure=>simp[intOf];try omega
open Go.RowKit Fp
theorem vL(A:Option Addr)(c:Nat)(L:List Nat)(w:World)(hs:Sl w A c L) :
  Calls Tryz.prog 128 #[.slice A L.length c] w fun e w'=>e = .returned (.slice A L.length L.length)/\w=w':=by
 have hc:=hs.cap;have hl:=hs.fz;go_enter Tryz.func128,Tryz.ntmps128;go_wp2;go_ret;exact⟨rfl,rfl⟩
theorem Sl.clip{w:World}{A:Option Addr}{c:Nat}{L:List Nat}(h:Sl w A c L):Sl w A L.length L :=
 ⟨Nat.le_refl _,Nat.le_trans h.cap h.fz,h.ok,(fun e=>by have:=h.none_ e;have:=h.cap;omega),h.cell⟩
theorem vN(A:Option Addr)(c:Nat)(L:List Nat)(w:World)(hs:Sl w A c L)(hlen:L.length<=100000000) :
  Calls Tryz.prog 129 #[.slice A L.length c] w (iL w L):=by
 have hc:=hs.cap;have hl:=hs.fz;rcases A with _|ad
 .have h0:=hs.none_ rfl
  subst h0;have:L=[]:=List.eq_nil_of_length_eq_zero (by omega);subst this;have q:=fun(w:World) (n' c':Nat)=>Lib.run_eql_slice_nil (P:=Tryz.prog) w 29 _ none 0 0 n' c' Tryz.underlying29
  simp only[Option.isNone_none]at q;go_enter Tryz.func129,Tryz.ntmps129;go_wp2;go_ret;exact⟨none,0,rfl,Sl.nil _,Ext.refl _⟩
 .have q:=fun(w:World) (n' c':Nat)=>Lib.run_eql_slice_nil (P:=Tryz.prog) w 29 _ (some ad) L.length c n' c' Tryz.underlying29
  simp only[Option.isNone_some]at q;go_enter Tryz.func129,Tryz.ntmps129;have hsz:([]:List Nat).length+L.length<=10000000000:=by simp;omega
  have h1:=Ow.empty w w.heap.size (Nat.le_refl _);have h2:=hs.alloc (.cells #[] 79);have h3:=fR (w:=w) (Nat.le_refl _) (.cells #[] 79);go_wp2_with (at_builtin;go_must (refine gK (by rfl) _ _ (by rfl) w.heap.size _ [] (by rfl) h1 _ _ _ L (by rfl) (by rfl) h2 hsz h3 ?_);intro v' w' hown hg hat)
  obtain⟨A',c',rfl,hs'⟩:=hown.sl;go_ret;exact⟨A',c',rfl,hs',(Ext.alloc _ _).grown hg (fR (Nat.le_refl _) _) (fun k hk=>by simp[Value.ownBlock]at hk;omega)⟩
theorem pv(A:Option Addr)(c:Nat)(L:List Nat)(w:World)(hs:Sl w A c L)(hlen:L.length<=100000000) :
  Calls Tryz.prog 122 #[.slice A L.length c] w (iL w (aw L)):=by
 have hc:=hs.cap;have hl:=hs.fz;have fin:∀ k:Nat,k=(aw L).length->Hid (aw L=L.take k):=fun k hk=>by rw[hk];exact uK L
 go_enter Tryz.func122,Tryz.ntmps122;go_wp2;go_loop [3] (fun i=>∃ k:Nat,k<=L.length/\i = .int .i64 k/\cN L=cN (L.take k)) (fun i=>(intOf i).toNat)
 case atStart=>exact⟨L.length,Nat.le_refl _,rfl,by simp⟩
 case round =>
  obtain⟨k,hk,rfl,ht⟩:=hrel;have HT:=Lib.hid ht;clear ht;have hsz:([]:List Nat).length+(L.take k).length<=10000000000:=by rw[List.length_take];simp;omega
  have HK:=Lib.hid (show k=(L.take k).length by rw[List.length_take];omega);have h1:=Ow.empty w w.heap.size (Nat.le_refl _);have h2:=(hs.take k).alloc (.cells #[] 79);have h3:=fR (w:=w) (Nat.le_refl _) (.cells #[] 79);by_cases h0:0<k
  .obtain ⟨ab,ao,rfl,hb,hx1⟩:=hs.at_ (i:=k-1) (by omega)
   have e1:((k:Int)-1).toNat=k-1:=by omega
   have Z:=Lib.hid (zg L (k-1) (by omega));have NZ:=Lib.hid (zf L (k-1) (by omega));rw[Nat.sub_add_cancel h0]at Z NZ;generalize L[k-1]=x at *
   by_cases hx:x=0
   .have Hx:=Lib.hid hx;clear hx
    have hb:((x:Int)==0)=true:=by have:=Hx.out;simp;omega
    clear fin;go_wp2;go_round
    case rel=>exact⟨k-1,by omega,by go_num,by rw[HT.out,Z.out Hx.out]⟩
    case measure=>simp[intOf];omega
   .have hb:((x:Int)==0)=false:=by simp;omega
    have F:=fin k (by show k=cN L;rw[HT.out,NZ.out hx]);clear fin;go_wp2_with (at_builtin;go_must (refine gK (by rfl) _ _ (by rfl) w.heap.size _ [] (by rfl) h1 _ _ _ (L.take k) (by rfl) HK.out h2 hsz h3 ?_);intro v' w' hown hg hat)
    obtain⟨A',c',rfl,hs'⟩:=hown.sl;go_ret;rw[F.out];exact⟨A',c',rfl,hs',(Ext.alloc _ _).grown hg (fR (Nat.le_refl _) _) (fun k hk=>by simp[Value.ownBlock]at hk;omega)⟩
  .have:k=0:=by omega
   subst this;have F:=fin 0 (by show 0=cN L;rw[HT.out];rfl);clear fin;go_wp2_with (at_builtin;go_must (refine gK (by rfl) _ _ (by rfl) w.heap.size _ [] (by rfl) h1 _ _ _ (L.take 0) (by rfl) HK.out h2 hsz h3 ?_);intro v' w' hown hg hat)
   obtain⟨A',c',rfl,hs'⟩:=hown.sl;go_ret;rw[F.out];exact⟨A',c',rfl,hs',(Ext.alloc _ _).grown hg (fR (Nat.le_refl _) _) (fun k hk=>by simp[Value.ownBlock]at hk;omega)⟩
theorem Dm(A:Option Addr)(n c:Nat)(w:World) :
  Calls Tryz.prog 203 #[.slice A n c] w fun e w'=>e = .returned (.bool (decide (256<n)))/\w=w':=by
 by_cases h:256<n
 .have h':(256:Int)<n:=by omega
  go_enter Tryz.func203,Tryz.ntmps203;go_wp2;go_ret;exact⟨by simp[h],rfl⟩
 .have h':¬(256:Int)<n:=by omega
  go_enter Tryz.func203,Tryz.ntmps203;go_wp2;go_ret;exact⟨by simp,rfl⟩
def vc(w:World)(g:Nat)(xs:List (Option Addr×Nat×Nat)):Prop:=∀ i x,xs[i]? = some x->w.cell? ⟨g,i,none⟩=some (.slice x.1 x.2.1 x.2.2)
def j8(xs:List (Option Addr×Nat×Nat)):Bool:=xs.any fun x=>decide (256<x.2.1)
def G7(xs:List (Option Addr×Nat×Nat))(w:World)(e:Ending)(w':World):Prop :=
 ∃ n:Int,e = .returned (.int .i64 n)/\(0<=n↔j8 xs=true)/\w=w'
theorem Nx(g:Nat)(xs:List (Option Addr×Nat×Nat))(w:World)(hs:vc w g xs)(hn:xs.length<=1000) :
  Calls Tryz.prog 233 #[.slice (some ⟨g,0,none⟩) xs.length xs.length,.func (.func 203) #[] #[]] w (G7 xs w):=by
 go_enter Tryz.func233,Tryz.ntmps233;go_wp2;go_loop [8] (fun i=>∃ k:Nat,k<=xs.length/\i = .int .i64 k/\j8 (xs.take k)=false) (fun i=>xs.length-(intOf i).toNat)
 case atStart=>exact⟨0,Nat.zero_le _,rfl,rfl⟩
 case round =>
  obtain⟨k,hk,rfl,ht⟩:=hrel;have HT:=Lib.hid ht;clear ht;by_cases h0:k<xs.length
  .have hc:=hs k _ (List.getElem?_eq_getElem h0)
   have e1:((k:Int)).toNat=k:=by omega
   have ec:=Hk g k;have HX:=Lib.hid (show j8 (xs.take (k+1))=(j8 (xs.take k)||decide (256<xs[k].2.1))by
    unfold j8;rw[List.take_succ_eq_append_getElem h0,List.any_append];simp)
   have HM:=Lib.hid (List.getElem_mem h0);generalize xs[k]=x at *
   obtain⟨A,n,c⟩:=x;simp only at hc HX;by_cases hx:256<n
   .have hb:decide (256<n)=true:=by simp[hx]
    go_wp2_with (go_at_call 203;refine(Dm A n c _).mono ?_;rw[hb];rintro e w' ⟨rfl,rfl⟩)
    go_ret;refine⟨_,rfl,⟨fun _=>?_,fun _=>by omega⟩,rfl⟩;unfold j8;rw[List.any_eq_true];exact⟨_,HM.out,by simpa using hx⟩
   .have hb:decide (256<n)=false:=by simp;omega
    go_wp2_with (go_at_call 203;refine(Dm A n c _).mono ?_;rw[hb];rintro e w' ⟨rfl,rfl⟩)
    go_round
    case rel=>exact⟨k+1,by omega,by go_num,by rw[HX.out,HT.out,hb];rfl⟩
    case measure=>simp[intOf];omega
  .go_wp2
   go_ret;have e:xs.take k=xs:=List.take_of_length_le (by omega);have:=HT.out;rw[e]at this;exact⟨_,rfl,by rw[this];simp,rfl⟩
theorem Kk(g:Nat)(xs:List (Option Addr×Nat×Nat))(w:World)(hs:vc w g xs)(hn:xs.length<=1000) :
  Calls Tryz.prog 202 #[.slice (some ⟨g,0,none⟩) xs.length xs.length,.func (.func 203) #[] #[]] w fun e w'=>e = .returned (.bool (j8 xs))/\w=w':=by
 have H:=Lib.hid (Nx g xs w hs hn);go_enter Tryz.func202,Tryz.ntmps202;go_wp2_with fail;refine H.out.mono ?_;rintro e w' ⟨n,rfl,hn,rfl⟩;have HN:=Lib.hid hn;clear hn;go_wp2;go_ret;refine⟨um ?_,rfl⟩;have:=HN.out;cases h:j8 xs<;>simp[h]at this ⊢ <;> omega
theorem Dq(g:Nat)(xs:List (Option Addr×Nat×Nat))(w:World)(hs:vc w g xs)(hn:xs.length<=1000) :
  Calls Tryz.prog 164 #[.slice (some ⟨g,0,none⟩) xs.length xs.length] w fun e w'=>e = .returned (.bool (j8 xs))/\w=w':=by
 have H:=Lib.hid (Kk g xs w hs hn);go_enter Tryz.func164,Tryz.ntmps164;go_wp2_with fail;refine H.out.mono ?_;rintro e w' ⟨rfl,rfl⟩;go_wp2;go_ret;exact⟨rfl,rfl⟩
open Go.RowKit Fp
theorem xm(g:Nat)(A:Option Addr)(n c:Nat)(w:World)(b:Bool)(h:w.cell? ⟨g,0,none⟩=some (.slice A n c))(hb:b=decide (256<n)) :
  Calls Tryz.prog 164 #[.slice (some ⟨g,0,none⟩) 1 1] w fun e w'=>e = .returned (.bool b)/\w=w':=by
 have:=Dq g [(A,n,c)] w (fun i x hx=>by
  obtain⟨h1,h2⟩:=List.getElem?_eq_some_iff.1 hx;obtain rfl:i=0:=by simp at h1;omega
  simp at h2;subst h2;exact h) (by simp)
 simpa[j8,hb]using this
theorem Dp(g:Nat)(A B:Option Addr)(n c m d:Nat)(w:World)(b:Bool)(h:w.cell? ⟨g,0,none⟩=some (.slice A n c))(k:w.cell? ⟨g,1,none⟩=some (.slice B m d))(hb:b=(decide (256<n)||decide (256<m))) :
  Calls Tryz.prog 164 #[.slice (some ⟨g,0,none⟩) 2 2] w fun e w'=>e = .returned (.bool b)/\w=w':=by
 have:=Dq g [(A,n,c),(B,m,d)] w (fun i x hx=>by
  obtain⟨h1,h2⟩:=List.getElem?_eq_some_iff.1 hx;simp at h1;rcases i with _|_|i
  .simp at h2;subst h2;exact h
  .simp at h2;subst h2;exact k
  .omega) (by simp)
 simpa[j8,hb]using this
theorem qP(A:Option Addr)(c:Nat)(L:List Nat)(w:World)(hs:Sl w A c L)(hl:(aw L).length<=256) :
  Calls Tryz.prog 165 #[.slice A L.length c] w (oj w (aw L) 0):=by
 have hT:=Lib.hid (iV A c L w hs);have hs2:=hs.trim;have hC:=hs.cap;have hL:=hs.fz;have H2:=Lib.hid (fun w' (h:Sl w' A c (aw L))=>vL A c (aw L) w' h);generalize aw L=M at *
 obtain⟨n,hn⟩:∃ n,n=M.length:=⟨_,rfl⟩
 rw[<-hn]at hT hl H2;have HN:=Lib.hid hn;clear hn;go_enter Tryz.func165,Tryz.ntmps165;go_wp2_with fail;refine hT.out.mono ?_;rintro e w' ⟨rfl,rfl⟩;go_wp2_with fail;refine(xm _ A n c _ false ?_ (by simp;omega)).mono ?_
 .go_simp
 rintro e w' ⟨rfl,rfl⟩;go_wp2_with fail;refine(H2.out _ (hs2.alloc _)).mono ?_;rintro e w' ⟨rfl,rfl⟩;go_wp2;go_ret2;exact⟨A,n,by rw[HN.out];rfl,by have:=hs2.clip.alloc (.cells #[.slice A n c] 29);rw[HN.out]at this ⊢;exact this,Ext.alloc _ _⟩
theorem u64_or_nat(a b:Nat)(ha:a<18446744073709551616)(hb:b<18446744073709551616):bits .or .u64 (a:Int) (b:Int)=((a ||| b:Nat):Int):=by
 have hx:a ||| b<2^64:=Nat.or_lt_two_pow (by omega) (by omega)
 have h1:(BitVec.ofInt 64 (a:Int)).toNat=a:=by
  rw[BitVec.ofInt_natCast,BitVec.toNat_ofNat];exact Nat.mod_eq_of_lt (by omega)
 have h2:(BitVec.ofInt 64 (b:Int)).toNat=b:=by
  rw[BitVec.ofInt_natCast,BitVec.toNat_ofNat];exact Nat.mod_eq_of_lt (by omega)
 show IntKind.u64.wrap ((BitVec.ofInt 64 (a:Int) ||| BitVec.ofInt 64 (b:Int)).toNat:Int)=_;rw[BitVec.toNat_or,h1,h2,IntKind.wrap_u64];omega
theorem tX(a b k:Nat)(h:a<2^k):a ||| b*2^k=a+b*2^k:=by
 rw[Nat.mul_comm,Nat.or_comm,<-Nat.two_pow_add_eq_or_of_lt h];omega
theorem Sl.drop{w:World}{A:Option Addr}{c:Nat}{L:List Nat}(h:Sl w A c L)(k:Nat):Sl w (A.map (·.add k)) (c-k) (L.drop k) :=
 ⟨by have:=h.cap;rw[List.length_drop];omega,Nat.le_trans (Nat.sub_le _ _) h.fz,h.ok.drop k,(fun e=>by
  rcases A with _|ad
  .rw [h.none_ rfl];omega
  .cases e),fun i x hx=>by
  rw[List.getElem?_drop]at hx;obtain⟨b,o,rfl,h1,h2⟩:=h.cell _ _ hx;exact⟨b,o+k,by rw[Option.map_some,na],h1,by rw[Nat.add_assoc];exact h2⟩⟩
def part(T:List Nat)(k:Nat):List Nat:=T.take k++List.replicate (T.length-k) 0
theorem PK(T:List Nat):part T 0=List.replicate T.length 0:=by unfold part;simp
theorem PI(T:List Nat):part T T.length=T:=by unfold part;simp
theorem PJ(T:List Nat)(k:Nat)(h:k<T.length):(part T k)[k]? = some 0:=by
 unfold part;rw[List.getElem?_append_right (by rw[List.length_take];omega),List.length_take,List.getElem?_replicate,if_pos (by omega)]
theorem Eo(T:List Nat)(k x:Nat)(h:T[k]? = some x):(part T k).set k x=part T (k+1):=by
 obtain⟨h1,rfl⟩:=List.getElem?_eq_some_iff.1 h;unfold part;rw[List.set_append_right _ _ (by rw[List.length_take];omega),List.length_take,Nat.min_eq_left (by omega),Nat.sub_self,
  List.take_succ_eq_append_getElem h1,show T.length-k=(T.length-(k+1))+1 by omega,List.replicate_succ,List.set_cons_zero,List.append_assoc]
 rfl
theorem RX(x y s:Nat)(hx:x<4294967296)(hy:y<4294967296) :
  bits BinOp.or IntKind.u64 (x:Int) ((y:Int)*4294967296)/2^s%4294967296=(((x+4294967296*y)/2^s%4294967296:Nat):Int):=by
 have e:((y:Int)*4294967296)=((y*2^32:Nat):Int):=by simp
 rw[e,u64_or_nat x (y*2^32) (by omega) (by omega),tX x y 32 (by omega)];simp[Nat.mul_comm]
theorem RY(x s:Nat):(x:Int)/2^s%4294967296=(((x+4294967296*0)/2^s%4294967296:Nat):Int):=by
 simp
theorem xC(A:Option Addr)(c:Nat)(L:List Nat)(n:Nat)(w:World)(hs:Sl w A c L)(hlen:L.length<=100000000)(hn:n<=65536) :
  Calls Tryz.prog 166 #[.slice A L.length c,.int .i64 n] w (iL w (fj (n%32) ((aw L).drop (n/32)))):=by
 have hT:=Lib.hid (iV A c L w hs);have hs2:=hs.trim;have hl2:=eD L;have hC:=hs2.cap;have hL:=hs.fz;unfold cN at hl2;generalize aw L=M at *
 obtain⟨m,hm⟩:∃ m,m=M.length:=⟨_,rfl⟩
 rw[<-hm]at hT hl2 hC;have HM:=Lib.hid hm;clear hm;by_cases h0:m<=n/32
 .go_enter Tryz.func166,Tryz.ntmps166
  go_wp2_with fail;refine hT.out.mono ?_;rintro e w' ⟨rfl,rfl⟩;go_wp2;go_ret;have:M.drop (n/32)=[]:=List.drop_eq_nil_of_le (by rw[<-HM.out];exact h0);rw[this];exact⟨none,0,rfl,Sl.nil _,Ext.refl _⟩
 .obtain ⟨ab,ao,rfl,_,_⟩:=hs2.at_ (i:=0) (by have:=HM.out;omega)
  have hK:=hs2.drop (n/32);have hNK:=Lib.hid (show m-n/32=(M.drop (n/32)).length by rw[List.length_drop,HM.out]);have hcc:n/32<c:=by omega
  have hmk:=qG (m-n/32) (by omega);have hN0:0<m-n/32:=by omega
  have hN1:m-n/32<=100000000:=by omega
  generalize M.drop (n/32)=K at *
  simp only[Option.map_some,na]at hK;have hT2:=Lib.hid (uB (n%32) K);have hTg:=Lib.hid (FQ (n%32) K);have hTo:=Lib.hid (mF (n%32) K);generalize fj (n%32) K=T at *
  go_enter Tryz.func166,Tryz.ntmps166;go_wp2_with fail;refine hT.out.mono ?_;rintro e w' ⟨rfl,rfl⟩;go_wp2;go_loopw [25] (fun i wr=>∃ k:Nat,k<=m-n/32/\i = .int .i64 k/\Rw wr w.heap.size (part T k)/\Ext w wr) (fun i _=>m-n/32-(intOf i).toNat)
  case atStart =>
   refine⟨0,Nat.zero_le _,rfl,?_,Ext.alloc _ _⟩;rw[PK,hT2.out,<-hNK.out];exact Rw.made _ _
  case round =>
   obtain⟨k,hk,rfl,hR,hb⟩:=hrel;by_cases hlt:k<m-n/32
   .have hkK:k<K.length:=by have:=hNK.out;omega
    obtain⟨ab',ao',e',_,c1⟩:=(hK.below hb).at_ hkK;cases e';have hg:=hTg.out k hkK;have hx32:K[k]<4294967296:=hK.ok.get hkK;have HK:=Lib.hid (List.getElem?_eq_getElem hkK);have c3:=hR.cell (PJ T k (by have:=hT2.out;omega));have c4:=hR.frozen k;by_cases hlt2:k+1<m-n/32
    .have hkK2:k+1<K.length:=by have:=hNK.out;omega
     obtain⟨ab',ao',e',_,c2⟩:=(hK.below hb).at_ hkK2;cases e';have hy:K.getD (k+1) 0=K[k+1]:=by rw[List.getD_eq_getElem?_getD,List.getElem?_eq_getElem hkK2];rfl
     rw[hy]at hg;have hy32:K[k+1]<4294967296:=hK.ok.get hkK2;have HG:=Lib.hid hg;clear hg hy;generalize K[k]=x at *
     generalize K[k+1]=y at *
     clear hkK hkK2;go_wp2;go_roundw
     case rel =>
      rw[RX x y (n%32) hx32 hy32];exact⟨k+1,by omega,by go_num,by rw[<-Eo T k _ HG.out];exact hR.set k _,hb.setCell (Nat.le_refl _) _⟩
     case measure=>simp[intOf];omega
    .have hy:K.getD (k+1) 0=0:=by rw[List.getD_eq_getElem?_getD,List.getElem?_eq_none (by have:=hNK.out;omega)];rfl
     rw[hy]at hg;have HG:=Lib.hid hg;clear hg hy;generalize K[k]=x at *
     clear hkK;go_wp2;go_roundw
     case rel =>
      rw[RY x (n%32)];exact⟨k+1,by omega,by go_num,by rw[<-Eo T k _ HG.out];exact hR.set k _,hb.setCell (Nat.le_refl _) _⟩
     case measure=>simp[intOf];omega
   .go_wp2
    go_ret;obtain rfl:k=m-n/32:=by omega
    rw[hNK.out,<-hT2.out,PI]at hR;have:=hR.sl hTo.out (by have:=hT2.out;have:=hNK.out;omega);rw[hT2.out,<-hNK.out]at this;exact⟨_,_,by rw[hT2.out,<-hNK.out];rfl,this,hb⟩
theorem RW{L:List Nat}(h:ay L)(n:Nat):aw (fj (n%32) ((aw L).drop (n/32)))=af (val L/2^n):=by
 rw[fN (mF _ _),uQ h.aw,eP]
theorem zW(w:World)(A:Option Addr)(n c:Nat):(w.alloc (.cells #[.slice A n c] 29)).cell? ⟨w.heap.size,0,none⟩=some (.slice A n c):=by
 rw[World.cell?_alloc_at _ _ _ _ rfl];rfl
theorem zY(w:World)(A B:Option Addr)(n c m d:Nat):(w.alloc (.cells #[.slice A n c,.slice B m d] 29)).cell? ⟨w.heap.size,0,none⟩=some (.slice A n c):=by
 rw[World.cell?_alloc_at _ _ _ _ rfl];rfl
theorem zZ(w:World)(A B:Option Addr)(n c m d:Nat):(w.alloc (.cells #[.slice A n c,.slice B m d] 29)).cell? ⟨w.heap.size,1,none⟩=some (.slice B m d):=by
 rw[World.cell?_alloc_at _ _ _ _ rfl];rfl
theorem DZ(A:Option Addr)(c:Nat)(L:List Nat)(n:Nat)(w:World)(hs:Sl w A c L)(hlen:L.length<=256)(hn:n<=65536) :
  Calls Tryz.prog 127 #[.slice A L.length c,.int .i64 n] w (oj w (af (val L/2^n)) 0):=by
 have hf:decide (256<L.length)=false:=by simp;omega
 have h3:=Lib.hid (RW hs.ok n);have h4:(aw (fj (n%32) ((aw L).drop (n/32)))).length<=256:=by
  have h1:=eD (fj (n%32) ((aw L).drop (n/32)));unfold cN at h1;rw[uB,List.length_drop]at h1;have h2:=eD L;unfold cN at h2;omega
 have H1:=Lib.hid (fun w (h:Sl w A c L)=>xC A c L n w h (by omega) hn);generalize fj (n%32) ((aw L).drop (n/32))=T at *
 go_enter Tryz.func127,Tryz.ntmps127;go_wp2_with fail;refine(xm _ A _ c _ false (zW _ _ _ _) (by simp;omega)).mono ?_;rintro e w' ⟨rfl,rfl⟩;go_wp2_with fail;refine(H1.out _ (hs.alloc _)).mono ?_;rintro e w' ⟨A',c',rfl,hs',hb⟩;go_wp2_with fail;refine(qP A' c' T _ hs' h4).mono ?_;rintro e w'' ⟨A'',c'',rfl,hs'',hb'⟩;go_wp2;go_ret2;rw[<-h3.out]
 exact⟨A'',c'',rfl,hs'',(Ext.alloc _ _).trans (hb.trans hb')⟩
open Go.RowKit Fp
theorem xq(n c:Nat)(hc:n<=c)(hn:c<=10000000000)(w:World) :
  (Instr.makeSlice 29 (.int .i64 (n:Int)) (.int .i64 (c:Int))).run Tryz.prog w = .ok (.slice (some ⟨w.heap.size,0,none⟩) n c) (w.alloc (.cells (dQ (List.replicate c 0)).toArray 79)):=by
 obtain⟨i,hi,hz,h1,h2⟩:=info_parts wT;have hr:=run_make (P:=Tryz.prog) w 29 79 i _ Tryz.underlying29 hi hz .i64 .i64 n c (by omega) (by omega) (by rw[h2];omega) (by omega);rw[hr,Int.toNat_natCast,Int.toNat_natCast,h1,Nat.mul_one];refine congrArg (fun cs=>Result.ok (Value.slice (some ⟨w.heap.size,0,none⟩) n c) (w.alloc (.cells cs 79))) ?_;apply Array.ext
 .simp [madeCells,dQ]
 .intro i h1 h2
  simp[madeCells,dQ,Value.cells,Nat.mod_one]
theorem Ow.made(w:World)(base n c:Nat)(hb:base<=w.heap.size)(hc:n<=c)(hn:c<=10000000000) :
  Ow (w.alloc (.cells (dQ (List.replicate c 0)).toArray 79)) base (.slice (some ⟨w.heap.size,0,none⟩) n c) (List.replicate n 0) :=
 ⟨⟨by simp[dQ],.inr ⟨w.heap.size,c,_,by simp,hb,heap_alloc_new w _,by simpa using hc,by simp only[maxLen];omega,by simp[dQ],by
  simp[dQ,List.take_replicate,Nat.min_eq_left hc]⟩⟩,ay.py n⟩
theorem Ext.own{w w1 w2:World}(h:Ext w w1)(v:Value)(L:List Nat)(ho:Ow w1 w.heap.size v L)(hg:w1.grownBy w2 v.ownBlock):Ext w w2 :=
 h.grown hg h.size (fun k hk=>(ho.row.lt k hk).1)
theorem yR(x q s:Nat)(hx:x<4294967296)(hs:s<32)(hq:q<2^s) :
  bits BinOp.or IntKind.u64 (IntKind.u64.wrap ((x:Int)*2^s)) (q:Int)=((x*2^s+q:Nat):Int)/\x*2^s+q<18446744073709551616/\(x*2^s+q)/4294967296<2^s:=by
 have hp:2^s<=2^31:=Nat.pow_le_pow_right (by decide) (by omega);have e31:(2:Nat)^31=2147483648:=by decide
 have h1:(x+1)*2^s<=4294967296*2^s:=Nat.mul_le_mul_right _ hx;rw[Nat.add_mul,Nat.one_mul]at h1;have h2:x*2^s<4294967296*2^s:=Nat.mul_lt_mul_of_pos_right hx (Nat.pow_pos (by decide));refine⟨?_,by omega,by omega⟩;have e:((x:Int)*2^s)=((x*2^s:Nat):Int):=by simp
 rw[e,IntKind.wrap_u64,show((x*2^s:Nat):Int)%18446744073709551616=((x*2^s:Nat):Int)by omega,u64_or_nat _ _ (by omega) (by omega),Nat.or_comm,tX q x s hq,Nat.add_comm]
theorem D3(A:Option Addr)(c:Nat)(L:List Nat)(n:Nat)(w:World)(hs:Sl w A c L)(hlen:L.length<=100000000)(hn:n<=65536) :
  Calls Tryz.prog 204 #[.slice A L.length c,.int .i64 n] w (fun e w'=>∃ T,val T=val L*2^n/\ay T/\T.length=n/32+(aw L).length+1/\iL w T e w'):=by
 have hT:=Lib.hid (iV A c L w hs);have hs2:=hs.trim;have hl2:=eD L;have hC:=hs2.cap;have hL:=hs.fz;unfold cN at hl2;have hv:=Lib.hid (eP L);generalize aw L=M at *
 obtain⟨m,hm⟩:∃ m,m=M.length:=⟨_,rfl⟩
 rw[<-hm]at hT hl2 hC;have HM:=Lib.hid hm;clear hm;have hmk:=xq (n/32) (n/32+m+1) (by omega) (by omega);rw[show((n/32:Nat):Int)=(n:Int)/32 by omega,show((n/32+m+1:Nat):Int)=(n:Int)/32+m+1 by omega]at hmk;have hOw:=Lib.hid (Ow.made w w.heap.size (n/32) (n/32+m+1) (Nat.le_refl _) (by omega) (by omega));go_enter Tryz.func204,Tryz.ntmps204;go_wp2_with fail
 refine hT.out.mono ?_;rintro e w' ⟨rfl,rfl⟩;go_wp2;go_loopw [5,6,23] (fun v cy i wr=>∃ (k q:Nat) (O:List Nat),k<=m/\i = .int .i64 k/\cy = .int .u64 q/\q<2^(n%32)/\O.length=n/32+k/\val O+4294967296^(n/32+k)*q=val (M.take k)*2^(n%32)*4294967296^(n/32)/\Ow wr w.heap.size v O/\Ext w wr) (fun _ _ i _=>m-(intOf i).toNat)
 case atStart =>
  exact⟨0,0,List.replicate (n/32) 0,Nat.zero_le _,rfl,rfl,Nat.pow_pos (by decide),by simp,by simp[mW],hOw.out,Ext.alloc _ _⟩
 case round =>
  obtain⟨k,q,O,hk,rfl,rfl,hq,hO,hval,how,hb⟩:=hrel;have HV:=Lib.hid hval;have HO:=Lib.hid hO;have hOl:O.length<=200000000:=by omega
  have hq2:=Lib.hid hq;clear hval hO hq;obtain⟨OA,Oc,rfl,hos⟩:=how.sl;by_cases hlt:k<m
  .have hkM:k<M.length:=by have:=HM.out;omega
   obtain⟨ab,ao,rfl,_,c1⟩:=(hs2.below hb).at_ hkM;have hx32:M[k]<4294967296:=hs2.ok.get hkM;have HX:=Lib.hid (yQ (c:=q) (s:=n%32) (n0:=n/32) hkM HO.out HV.out);generalize M[k]=x at *
   obtain⟨hw,hz1,hz2⟩:=yR x q (n%32) hx32 (Nat.mod_lt _ (by decide)) hq2.out;generalize x*2^(n%32)+q=z at *
   have hz3:=Lib.hid hz2;clear hz2;have hsz:O.length+[z%4294967296].length<=10000000000:=by simp;omega
   go_wp2_with (at_builtin;go_must (refine gK (by rfl) _ _ (by rfl) w.heap.size _ O (by rfl) (how.alloc _) _ _ _ [z%4294967296] (by rfl) (by rfl) (Sl.iJ _ _ (z%4294967296) (by omega) (by omega)) hsz (fR hb.size _) ?_);intro v' w1 how1 hg hat)
   go_roundw
   case rel =>
    exact⟨k+1,z/4294967296,O++[z%4294967296],by omega,by go_num,by go_num,hz3.out,by rw[List.length_append,HO.out];rfl,HX.out,how1,(hb.trans (Ext.alloc _ _)).own _ _ (how.alloc _) hg⟩
   case measure=>simp[intOf];omega
  .obtain rfl:k=m:=by omega
   have hsz:O.length+[q].length<=10000000000:=by simp;omega
   have hq32:q<4294967296:=by
    have:=hq2.out;have hp:2^(n%32)<=2^31:=Nat.pow_le_pow_right (by decide) (by omega);have e31:(2:Nat)^31=2147483648:=by decide
    omega
   have hqm:(q:Int)%4294967296=q:=by omega
   go_wp2_with (at_builtin;go_must (refine gK (by rfl) _ _ (by rfl) w.heap.size _ O (by rfl) (how.alloc _) _ _ _ [q] (by rfl) (by rfl) (Sl.iJ _ _ q (by omega) (by omega)) hsz (fR hb.size _) ?_);intro v' w1 how1 hg hat)
   obtain⟨A',c',rfl,hs'⟩:=how1.sl;go_ret;refine⟨O++[q],?_,hs'.ok,by rw[List.length_append,HO.out,<-HM.out];rfl,A',c',rfl,hs',(hb.trans (Ext.alloc _ _)).own _ _ (how.alloc _) hg⟩;have h:=HV.out;rw[List.take_of_length_le (by rw[HM.out];exact Nat.le_refl _)]at h;rw[jh,HO.out,fk,lN,Nat.mul_zero,Nat.add_zero,h,<-hv.out,gG,Nat.mul_assoc,<-Nat.pow_add];congr 2;omega
theorem DW(A:Option Addr)(c:Nat)(L:List Nat)(n:Nat)(w:World)(hs:Sl w A c L)(hlen:L.length<=256)(hn:n<=65536)(hfit:(af (val L*2^n)).length<=256) :
  Calls Tryz.prog 168 #[.slice A L.length c,.int .i64 n] w (oj w (af (val L*2^n)) 0):=by
 have H1:=Lib.hid (fun w (h:Sl w A c L)=>D3 A c L n w h (by omega) hn);obtain⟨R,hR⟩:∃ R,R=af (val L*2^n):=⟨_,rfl⟩
 rw[<-hR]at hfit ⊢;have HR:=Lib.hid hR;clear hR;go_enter Tryz.func168,Tryz.ntmps168;go_wp2_with fail;refine(xm _ A _ c _ false (zW _ _ _ _) (by simp;omega)).mono ?_;rintro e w' ⟨rfl,rfl⟩;go_wp2_with fail;refine(H1.out _ (hs.alloc _)).mono ?_;rintro e w' ⟨T,hT,hTo,-,A',c',rfl,hs',hb⟩;have h3:=Lib.hid (show aw T=R by rw[fN hTo,hT,HR.out]);clear hT hTo;go_wp2_with fail
 refine(qP A' c' T _ hs' (by rw[h3.out];exact hfit)).mono ?_;rintro e w'' ⟨A'',c'',rfl,hs'',hb'⟩;go_wp2;go_ret2;rw[<-h3.out];exact⟨A'',c'',rfl,hs'',(Ext.alloc _ _).trans (hb.trans hb')⟩
theorem RU(A:Option Addr)(c:Nat)(L:List Nat)(n:Nat)(w:World)(hs:Sl w A c L)(hlen:L.length<=256)(hn:n<=65536)(hfit:(af (val L*2^n)).length<=256) :
  Calls Tryz.prog 132 #[.slice A L.length c,.int .i64 n] w (iL w (af (val L*2^n))):=by
 have H1:=Lib.hid (DW A c L n w hs hlen hn hfit);generalize af (val L*2^n)=R at *
 go_enter Tryz.func132,Tryz.ntmps132;go_wp2_with fail;refine H1.out.mono ?_;rintro e w'' ⟨A'',c'',rfl,hs'',hb'⟩;go_wp2;go_ret;exact⟨A'',c'',rfl,hs'',hb'⟩
open Go.RowKit Fp
theorem u64_and_nat(a b:Nat)(ha:a<18446744073709551616)(hb:b<18446744073709551616):bits .and .u64 (a:Int) (b:Int)=((a &&& b:Nat):Int):=by
 have hx:a &&& b<2^64:=Nat.and_lt_two_pow _ (by omega);have h1:(BitVec.ofInt 64 (a:Int)).toNat=a:=by
  rw[BitVec.ofInt_natCast,BitVec.toNat_ofNat];exact Nat.mod_eq_of_lt (by omega)
 have h2:(BitVec.ofInt 64 (b:Int)).toNat=b:=by
  rw[BitVec.ofInt_natCast,BitVec.toNat_ofNat];exact Nat.mod_eq_of_lt (by omega)
 show IntKind.u64.wrap ((BitVec.ofInt 64 (a:Int) &&& BitVec.ofInt 64 (b:Int)).toNat:Int)=_;rw[BitVec.toNat_and,h1,h2,IntKind.wrap_u64];omega
theorem kQ(z:Nat)(hz:z<18446744073709551616):bits BinOp.and IntKind.u64 (z:Int) 4294967295=(z:Int)%4294967296:=by
 have e:(4294967295:Int)=((4294967295:Nat):Int):=rfl;rw[e,u64_and_nat z _ hz (by omega),show(4294967295:Nat)=2^32-1 by decide,Nat.and_two_pow_sub_one_eq_mod];simp
theorem QV(A:Option Addr)(c:Nat)(M:List Nat)(n:Nat)(w:World)(hs2:Sl w A c M)(hlen:M.length<=1000)(hn:n<=65536) :
  Calls Tryz.prog 148 #[.slice A M.length c,.int .i64 n] w (iL w (af (val M*2^n))):=by
 have hC:=hs2.cap;have hL:=hs2.fz;obtain⟨m,hm⟩:∃ m,m=M.length:=⟨_,rfl⟩
 rw[<-hm]at hlen hC ⊢;have HM:=Lib.hid hm;clear hm;have hmk:=xq (n/32) (n/32) (by omega) (by omega);rw[show((n/32:Nat):Int)=(n:Int)/32 by omega]at hmk;have hOw:=Lib.hid (Ow.made w w.heap.size (n/32) (n/32) (Nat.le_refl _) (by omega) (by omega));go_enter Tryz.func148,Tryz.ntmps148;go_wp2
 go_loopw [5,6,7] (fun v cy i wr=>∃ (k q:Nat) (O:List Nat),k<=m/\i = .int .i64 k/\cy = .int .u64 q/\q<2^(n%32)/\O.length=n/32+k/\val O+4294967296^(n/32+k)*q=val (M.take k)*2^(n%32)*4294967296^(n/32)/\Ow wr w.heap.size v O/\Ext w wr) (fun _ _ i _=>m-(intOf i).toNat)
 case atStart =>
  exact⟨0,0,List.replicate (n/32) 0,Nat.zero_le _,rfl,rfl,Nat.pow_pos (by decide),by simp,by simp[mW],hOw.out,Ext.alloc _ _⟩
 case round =>
  obtain⟨k,q,O,hk,rfl,rfl,hq,hO,hval,how,hb⟩:=hrel;have HV:=Lib.hid hval;have HO:=Lib.hid hO;have hOl:O.length<=3100:=by omega
  have hq2:=Lib.hid hq;clear hval hO hq;obtain⟨OA,Oc,rfl,hos⟩:=how.sl;by_cases hlt:k<m
  .have hkM:k<M.length:=by have:=HM.out;omega
   obtain⟨ab,ao,rfl,_,c1⟩:=(hs2.below hb).at_ hkM;have hx32:M[k]<4294967296:=hs2.ok.get hkM;have HX:=Lib.hid (yQ (c:=q) (s:=n%32) (n0:=n/32) hkM HO.out HV.out);generalize M[k]=x at *
   obtain⟨hw,hz1,hz2⟩:=yR x q (n%32) hx32 (Nat.mod_lt _ (by decide)) hq2.out;generalize x*2^(n%32)+q=z at *
   have hz3:=Lib.hid hz2;clear hz2;have hsz:O.length+[z%4294967296].length<=10000000000:=by simp;omega
   have hmask:=kQ z hz1;go_wp2_with (at_builtin;go_must (refine gK (by rfl) _ _ (by rfl) w.heap.size _ O (by rfl) (how.alloc _) _ _ _ [z%4294967296] (by rfl) (by rfl) (Sl.iJ _ _ (z%4294967296) (by omega) (by omega)) hsz (fR hb.size _) ?_);intro v' w1 how1 hg hat)
   go_roundw
   case rel =>
    exact⟨k+1,z/4294967296,O++[z%4294967296],by omega,by go_num,by go_num,hz3.out,by rw[List.length_append,HO.out];rfl,HX.out,how1,(hb.trans (Ext.alloc _ _)).own _ _ (how.alloc _) hg⟩
   case measure=>simp[intOf];omega
  .obtain rfl:k=m:=by omega
   have hsz:O.length+[q].length<=10000000000:=by simp;omega
   have hq32:q<4294967296:=by
    have:=hq2.out;have hp:2^(n%32)<=2^31:=Nat.pow_le_pow_right (by decide) (by omega);have e31:(2:Nat)^31=2147483648:=by decide
    omega
   have hqm:(q:Int)%4294967296=q:=by omega
   have hfin:Hid (aw (O++[q])=af (val M*2^n)):=by
    show aw (O++[q])=af (val M*2^n);rw[fN (how.ok.append (ay.cons hq32 ay.nil))];have h:=HV.out;rw[List.take_of_length_le (by rw[HM.out];exact Nat.le_refl _)]at h;rw[jh,HO.out,fk,lN,Nat.mul_zero,Nat.add_zero,h,gG,Nat.mul_assoc,<-Nat.pow_add];congr 3;omega
   go_wp2_with (at_builtin;go_must (refine gK (by rfl) _ _ (by rfl) w.heap.size _ O (by rfl) (how.alloc _) _ _ _ [q] (by rfl) (by rfl) (Sl.iJ _ _ q (by omega) (by omega)) hsz (fR hb.size _) ?_);intro v' w1 how1 hg hat;obtain⟨P,hP⟩:∃ P,P=O++[q]:=⟨_,rfl⟩;rw[<-hP]at how1 hfin;have hPl:P.length<=3101:=(by rw[hP];simp;omega);clear hP;obtain⟨A',c',rfl,hs'⟩:=how1.sl)
   refine(pv A' c' P _ hs' (by omega)).mono ?_;rintro e w' ⟨A'',c'',rfl,hs'',hb'⟩;go_wp2;go_ret;rw[<-hfin.out];exact⟨A'',c'',rfl,hs'',((hb.trans (Ext.alloc _ _)).own _ _ (how.alloc _) hg).trans hb'⟩
open Go.RowKit Fp
theorem R0(x y s:Nat)(hx:x<4294967296)(hy:y<4294967296) :
  bits BinOp.and IntKind.u64 (bits BinOp.or IntKind.u64 (x:Int) ((y:Int)*4294967296)/2^s) 4294967295=(((x+4294967296*y)/2^s%4294967296:Nat):Int):=by
 have e:((y:Int)*4294967296)=((y*2^32:Nat):Int):=by simp
 rw[e,u64_or_nat x (y*2^32) (by omega) (by omega),tX x y 32 (by omega)];have h:(x+y*2^32)/2^s<18446744073709551616:=Nat.lt_of_le_of_lt (Nat.div_le_self _ _) (by omega);have h2:=kQ _ h;rw[show(((x+y*2^32:Nat):Int)/2^s)=(((x+y*2^32)/2^s:Nat):Int)by simp,h2];simp[Nat.mul_comm]
theorem RZ(x s:Nat)(hx:x<4294967296):bits BinOp.and IntKind.u64 ((x:Int)/2^s) 4294967295=(((x+4294967296*0)/2^s%4294967296:Nat):Int):=by
 have h:x/2^s<18446744073709551616:=Nat.lt_of_le_of_lt (Nat.div_le_self _ _) (by omega);rw[show((x:Int)/2^s)=((x/2^s:Nat):Int)by simp,kQ _ h];simp
theorem Q0(A:Option Addr)(c:Nat)(M:List Nat)(n:Nat)(w:World)(hs2:Sl w A c M)(hlen:M.length<=3000)(hn:n<=100000) :
  Calls Tryz.prog 124 #[.slice A M.length c,.int .i64 n] w (iL w (af (val M/2^n))):=by
 have hC:=hs2.cap;have hL:=hs2.fz;have hfin:Hid (aw (fj (n%32) (M.drop (n/32)))=af (val M/2^n)):=by
  show _=_;rw[fN (mF _ _),uQ hs2.ok]
 obtain⟨R,hR⟩:∃ R,R=af (val M/2^n):=⟨_,rfl⟩
 rw[<-hR]at hfin ⊢;clear hR;obtain⟨m,hm⟩:∃ m,m=M.length:=⟨_,rfl⟩
 rw[<-hm]at hlen hC ⊢;have HM:=Lib.hid hm;clear hm;by_cases h0:m<=n/32
 .go_enter Tryz.func124,Tryz.ntmps124
  go_wp2;go_ret;have:M.drop (n/32)=[]:=List.drop_eq_nil_of_le (by rw[<-HM.out];exact h0);have h:=hfin.out;rw[this]at h;rw[<-h];exact⟨none,0,rfl,Sl.nil _,Ext.refl _⟩
 .obtain ⟨ab,ao,rfl,_,_⟩:=hs2.at_ (i:=0) (by have:=HM.out;omega)
  have hK:=hs2.drop (n/32);have hNK:=Lib.hid (show m-n/32=(M.drop (n/32)).length by rw[List.length_drop,HM.out]);have hcc:n/32<c:=by omega
  have hN0:0<m-n/32:=by omega
  have hN1:m-n/32<=3000:=by omega
  generalize M.drop (n/32)=K at *
  simp only[Option.map_some,na]at hK;have hT2:=Lib.hid (uB (n%32) K);have hTg:=Lib.hid (FQ (n%32) K);have hTo:=Lib.hid (mF (n%32) K);generalize fj (n%32) K=T at *
  go_enter Tryz.func124,Tryz.ntmps124;go_wp2;go_loopw [5,6] (fun v i wr=>∃ (k:Nat) (O:List Nat),k<=m-n/32/\i = .int .i64 k/\O=T.take k/\Ow wr w.heap.size v O/\Ext w wr) (fun _ i _=>m-n/32-(intOf i).toNat)
  case atStart =>
   exact⟨0,[],Nat.zero_le _,rfl,by simp,Ow.nil _ _,Ext.refl _⟩
  case round =>
   obtain⟨k,O,hk,rfl,hO,how,hb⟩:=hrel;have hOl:O.length<=3000:=by rw[hO,List.length_take];omega
   have HO:=Lib.hid hO;clear hO;obtain⟨OA,Oc,rfl,hos⟩:=how.sl;by_cases hlt:k<m-n/32
   .have hkK:k<K.length:=by have:=hNK.out;omega
    obtain⟨ab',ao',e',_,c1⟩:=(hK.below hb).at_ hkK;cases e';have hg:=hTg.out k hkK;have hx32:K[k]<4294967296:=hK.ok.get hkK;have HK:=Lib.hid (List.getElem?_eq_getElem hkK);by_cases hlt2:k+1<m-n/32
    .have hkK2:k+1<K.length:=by have:=hNK.out;omega
     obtain⟨ab',ao',e',_,c2⟩:=(hK.below hb).at_ hkK2;cases e';have hy:K.getD (k+1) 0=K[k+1]:=by rw[List.getD_eq_getElem?_getD,List.getElem?_eq_getElem hkK2];rfl
     rw[hy]at hg;have hy32:K[k+1]<4294967296:=hK.ok.get hkK2;have HG:=Lib.hid hg;clear hg hy;generalize K[k]=x at *
     generalize K[k+1]=y at *
     clear hkK hkK2;have hw:=R0 x y (n%32) hx32 hy32;have hz:(x+4294967296*y)/2^(n%32)%4294967296<4294967296:=Nat.mod_lt _ (by decide);generalize (x+4294967296*y)/2^(n%32)%4294967296=z at *
     have hsz:O.length+[z].length<=10000000000:=by simp;omega
     go_wp2_with (at_builtin;go_must (refine gK (by rfl) _ _ (by rfl) w.heap.size _ O (by rfl) (how.alloc _) _ _ _ [z] (by rfl) (by rfl) (Sl.iJ _ _ z (by omega) (by omega)) hsz (fR hb.size _) ?_);intro v' w1 how1 hg hat)
     go_roundw
     case rel =>
      exact⟨k+1,O++[z],by omega,by go_num,by rw[HO.out,List.take_add_one,HG.out];rfl,how1,(hb.trans (Ext.alloc _ _)).own _ _ (how.alloc _) hg⟩
     case measure=>simp[intOf];omega
    .have hy:K.getD (k+1) 0=0:=by rw[List.getD_eq_getElem?_getD,List.getElem?_eq_none (by have:=hNK.out;omega)];rfl
     rw[hy]at hg;have HG:=Lib.hid hg;clear hg hy;generalize K[k]=x at *
     clear hkK;have hw:=RZ x (n%32) hx32;have hz:(x+4294967296*0)/2^(n%32)%4294967296<4294967296:=Nat.mod_lt _ (by decide);generalize (x+4294967296*0)/2^(n%32)%4294967296=z at *
     have hsz:O.length+[z].length<=10000000000:=by simp;omega
     go_wp2_with (at_builtin;go_must (refine gK (by rfl) _ _ (by rfl) w.heap.size _ O (by rfl) (how.alloc _) _ _ _ [z] (by rfl) (by rfl) (Sl.iJ _ _ z (by omega) (by omega)) hsz (fR hb.size _) ?_);intro v' w1 how1 hg hat)
     go_roundw
     case rel =>
      exact⟨k+1,O++[z],by omega,by go_num,by rw[HO.out,List.take_add_one,HG.out];rfl,how1,(hb.trans (Ext.alloc _ _)).own _ _ (how.alloc _) hg⟩
     case measure=>simp[intOf];omega
   .have hOT:Hid (aw O=R):=by
     show aw O=R;rw[HO.out,List.take_of_length_le (by rw[hT2.out,<-hNK.out];omega)];exact hfin.out
    go_wp2_with fail;refine(pv OA Oc O _ hos (by omega)).mono ?_;rintro e w' ⟨A'',c'',rfl,hs'',hb'⟩;go_wp2;go_ret;rw[<-hOT.out];exact⟨A'',c'',rfl,hs'',hb.trans hb'⟩
open Go.RowKit Fp
theorem mv{L:List Nat}{k:Nat}(h:k<L.length):L.getD k 0=L[k]:=by
 rw[List.getD_eq_getElem?_getD,List.getElem?_eq_getElem h];rfl
theorem oX{L:List Nat}{k:Nat}(h:¬k<L.length):L.getD k 0=0:=by
 rw[List.getD_eq_getElem?_getD,List.getElem?_eq_none (by omega)];rfl
theorem QY(A B:Option Addr)(c d:Nat)(L M:List Nat)(w:World)(hs:Sl w A c L)(hr:Sl w B d M)(h1:L.length<=3000)(h2:M.length<=3000) :
  Calls Tryz.prog 149 #[.slice A L.length c,.slice B M.length d] w (iL w (af (val L+val M))):=by
 have HLl:=Lib.hid (rfl:L.length=L.length);obtain⟨l,hl⟩:∃ l,l=L.length:=⟨_,rfl⟩
 obtain⟨m,hm⟩:∃ m,m=M.length:=⟨_,rfl⟩
 rw[<-hl]at h1 ⊢;rw[<-hm]at h2 ⊢;have HL:=Lib.hid hl;have HM:=Lib.hid hm;clear hl hm HLl;go_enter Tryz.func149,Tryz.ntmps149;go_wp2;go_loopw [5,6,7] (fun v cy i wr=>∃ (k q:Nat) (O:List Nat),(k<=l\/k<=m)/\i = .int .i64 k/\cy = .int .u64 q/\q<=1/\O.length=k/\val O+4294967296^k*q=val (L.take k)+val (M.take k)/\Ow wr w.heap.size v O/\Ext w wr) (fun _ _ i _=>3000-(intOf i).toNat)
 case atStart=>exact⟨0,0,[],.inl (Nat.zero_le _),rfl,rfl,by decide,rfl,by simp,Ow.nil _ _,Ext.refl _⟩
 case round =>
  obtain⟨k,q,O,hk,rfl,rfl,hq,hO,hval,how,hb⟩:=hrel;have HS:=Lib.hid (Hl (x:=L.getD k 0) (y:=M.getD k 0) hO hval (jJ L k) (jJ M k));have HV:=Lib.hid hval;have HO:=Lib.hid hO;have hOl:O.length<=3000:=by omega
  have hkk:k<=3000:=by omega
  clear hval hO hk;obtain⟨OA,Oc,rfl,hos⟩:=how.sl;have hmask:=fun z:Nat=>fun h:z<8589934593=>kQ z (by omega)
  by_cases hl:k<l
  .have hlZ:(k:Int)<l:=by omega
   have hkL:k<L.length:=by have:=HL.out;omega
   obtain⟨ab,ao,rfl,_,c1⟩:=(hs.below hb).at_ hkL;have hx32:L[k]<4294967296:=hs.ok.get hkL;rw[mv hkL]at HS;generalize L[k]=x at *
   clear hkL;by_cases hm:k<m
   .have hmZ:(k:Int)<m:=by omega
    have hkM:k<M.length:=by have:=HM.out;omega
    obtain⟨bb,bo,rfl,_,c2⟩:=(hr.below hb).at_ hkM;have hy32:M[k]<4294967296:=hr.ok.get hkM;rw[mv hkM]at HS;generalize M[k]=y at *
    clear hkM;have hmk:=hmask (q+x+y) (by omega);simp only[Int.natCast_add]at hmk;clear hmask;have hsz:O.length+[(q+x+y)%4294967296].length<=10000000000:=by simp;omega
    go_wp2_with (at_builtin;go_must (refine gK (by rfl) _ _ (by rfl) w.heap.size _ O (by rfl) (how.alloc _) _ _ _ [(q+x+y)%4294967296] (by rfl) (by rfl) (Sl.iJ _ _ ((q+x+y)%4294967296) (by omega) (by omega)) hsz (fR hb.size _) ?_);intro v' w1 how1 hg hat)
    go_roundw
    case rel =>
     exact⟨k+1,(q+x+y)/4294967296,O++[(q+x+y)%4294967296],by omega,by go_num,by go_num,by omega,by rw[List.length_append,HO.out];rfl,HS.out,how1,(hb.trans (Ext.alloc _ _)).own _ _ (how.alloc _) hg⟩
    case measure=>simp[intOf];omega
   .have hmZ:¬(k:Int)<m:=by omega
    rw[oX (by have:=HM.out;omega)]at HS;have hmk:=hmask (q+x+0) (by omega);simp only[Int.natCast_add,Nat.add_zero]at hmk;clear hmask;have hsz:O.length+[(q+x+0)%4294967296].length<=10000000000:=by simp;omega
    go_wp2_with (at_builtin;go_must (refine gK (by rfl) _ _ (by rfl) w.heap.size _ O (by rfl) (how.alloc _) _ _ _ [(q+x+0)%4294967296] (by rfl) (by rfl) (Sl.iJ _ _ ((q+x+0)%4294967296) (by omega) (by omega)) hsz (fR hb.size _) ?_);intro v' w1 how1 hg hat)
    go_roundw
    case rel =>
     exact⟨k+1,(q+x+0)/4294967296,O++[(q+x+0)%4294967296],by omega,by go_num,by go_num,by omega,by rw[List.length_append,HO.out];rfl,HS.out,how1,(hb.trans (Ext.alloc _ _)).own _ _ (how.alloc _) hg⟩
    case measure=>simp[intOf];omega
  .have hlZ:¬(k:Int)<l:=by omega
   have hlF:decide ((k:Int)<l)=false:=by simpa using hlZ
   rw[oX (L:=L) (by have:=HL.out;omega)]at HS;by_cases hm:k<m
   .have hmZ:(k:Int)<m:=by omega
    have hkM:k<M.length:=by have:=HM.out;omega
    obtain⟨bb,bo,rfl,_,c2⟩:=(hr.below hb).at_ hkM;have hy32:M[k]<4294967296:=hr.ok.get hkM;rw[mv hkM]at HS;generalize M[k]=y at *
    clear hkM;have hmk:=hmask (q+0+y) (by omega);simp only[Int.natCast_add,Nat.add_zero]at hmk;clear hmask;have hsz:O.length+[(q+0+y)%4294967296].length<=10000000000:=by simp;omega
    go_wp2_with (at_builtin;go_must (refine gK (by rfl) _ _ (by rfl) w.heap.size _ O (by rfl) (how.alloc _) _ _ _ [(q+0+y)%4294967296] (by rfl) (by rfl) (Sl.iJ _ _ ((q+0+y)%4294967296) (by omega) (by omega)) hsz (fR hb.size _) ?_);intro v' w1 how1 hg hat)
    go_roundw
    case rel =>
     exact⟨k+1,(q+0+y)/4294967296,O++[(q+0+y)%4294967296],by omega,by go_num,by go_num,by omega,by rw[List.length_append,HO.out];rfl,HS.out,how1,(hb.trans (Ext.alloc _ _)).own _ _ (how.alloc _) hg⟩
    case measure=>simp[intOf];omega
   .have hmZ:¬(k:Int)<m:=by omega
    clear hmask;have hq32:(q:Int)%4294967296=q:=by omega
    have hfin:Hid (aw (O++[q])=af (val L+val M)):=by
     show aw (O++[q])=_;rw[fN (how.ok.append (ay.cons (by omega) ay.nil)),jh,HO.out];have h:=HV.out;rw[List.take_of_length_le (by have:=HL.out;omega),List.take_of_length_le (by have:=HM.out;omega)]at h;simp only[fk,lN,Nat.mul_zero,Nat.add_zero];rw[h]
    have hsz:O.length+[q].length<=10000000000:=by simp;omega
    go_wp2_with (at_builtin;go_must (refine gK (by rfl) _ _ (by rfl) w.heap.size _ O (by rfl) (how.alloc _) _ _ _ [q] (by rfl) (by rfl) (Sl.iJ _ _ q (by omega) (by omega)) hsz (fR hb.size _) ?_);intro v' w1 how1 hg hat;obtain⟨P,hP⟩:∃ P,P=O++[q]:=⟨_,rfl⟩;rw[<-hP]at how1 hfin;have hPl:P.length<=3001:=(by rw[hP];simp;omega);clear hP;obtain⟨A',c',rfl,hs'⟩:=how1.sl)
    refine(pv A' c' P _ hs' (by omega)).mono ?_;rintro e w' ⟨A'',c'',rfl,hs'',hb'⟩;go_wp2;go_ret;rw[<-hfin.out];exact⟨A'',c'',rfl,hs'',((hb.trans (Ext.alloc _ _)).own _ _ (how.alloc _) hg).trans hb'⟩
theorem S8(x s:Nat)(hx:x<4294967296):bits BinOp.and IntKind.u32 ((x:Int)/2^s) 1=((x/2^s%2:Nat):Int):=by
 have h:x/2^s<4294967296:=Nat.lt_of_le_of_lt (Nat.div_le_self _ _) (by omega);rw[show((x:Int)/2^s)=((x/2^s:Nat):Int)by simp,show(1:Int)=((1:Nat):Int)from rfl,bits_and_u32_nat _ _ h (by decide),Nat.and_one_is_mod]
theorem Q8(A:Option Addr)(c:Nat)(L:List Nat)(w:World)(hs:Sl w A c L)(h1:L.length<=3000)(h0:val L≠0) :
  Calls Tryz.prog 123 #[.slice A L.length c] w fun e w'=>e = .returned (.int .i64 (aY (val L)))/\w=w':=by
 have hz:=qc hs.ok h0;have HB:=Lib.hid (fun k (hk:k<aY (val L))=>IM h0 hk);have HE:=Lib.hid (IL h0);have HV:=Lib.hid (fun k=>IN hs.ok k);generalize aY (val L)=t at *
 go_enter Tryz.func123,Tryz.ntmps123;go_wp2;go_loop [3] (fun i=>∃ k:Nat,k<=t/\i = .int .i64 k) (fun i=>t-(intOf i).toNat)
 case atStart=>exact⟨0,Nat.zero_le _,rfl⟩
 case round =>
  obtain⟨k,hk,rfl⟩:=hrel;have hkL:k/32<L.length:=by omega
  obtain⟨ab,ao,rfl,_,c1⟩:=hs.at_ hkL;have hv:=HV.out k hkL;have hx32:L[k/32]<4294967296:=hs.ok.get hkL;generalize L[k/32]=x at *
  clear HV;have hbit:=S8 x (k%32) hx32;rw[<-hv]at hbit;clear hv;by_cases hkt:k<t
  .rw [HB.out k hkt]at hbit
   have hb:(bits BinOp.and IntKind.u32 ((x:Int)/2^(k%32)) 1==0)=true:=by rw[hbit];rfl
   clear hbit;go_wp2;go_round
   case rel=>exact⟨k+1,by omega,by go_num⟩
   case measure=>simp[intOf];omega
  .obtain rfl:k=t:=by omega
   rw[HE.out]at hbit;have hb:(bits BinOp.and IntKind.u32 ((x:Int)/2^(k%32)) 1==0)=false:=by rw[hbit];rfl
   clear hbit;go_wp2;go_ret;exact⟨rfl,rfl⟩
theorem QW(A B:Option Addr)(c d:Nat)(L M:List Nat)(w:World)(hs:Sl w A c L)(hr:Sl w B d M)(h1:L.length<=3000)(h2:M.length<=L.length)(hle:val M<=val L) :
  Calls Tryz.prog 151 #[.slice A L.length c,.slice B M.length d] w (iL w (af (val L-val M))):=by
 obtain⟨l,hl⟩:∃ l,l=L.length:=⟨_,rfl⟩
 obtain⟨m,hm⟩:∃ m,m=M.length:=⟨_,rfl⟩
 rw[<-hl]at h1 h2 ⊢;rw[<-hm]at h2 ⊢;have HL:=Lib.hid hl;have HM:=Lib.hid hm;clear hl hm;have HLE:=Lib.hid hle;clear hle;go_enter Tryz.func151,Tryz.ntmps151;go_wp2;go_loopw [5,6,7] (fun v cy i wr=>∃ (k q:Nat) (O:List Nat),k<=l/\i = .int .i64 k/\cy = .int .u64 q/\q<=1/\O.length=k/\val O+val (M.take k)=val (L.take k)+4294967296^k*q/\Ow wr w.heap.size v O/\Ext w wr) (fun _ _ i _=>l-(intOf i).toNat)
 case atStart=>exact⟨0,0,[],Nat.zero_le _,rfl,rfl,by decide,rfl,by simp,Ow.nil _ _,Ext.refl _⟩
 case round =>
  obtain⟨k,q,O,hk,rfl,rfl,hq,hO,hval,how,hb⟩:=hrel;have HS:=Lib.hid (fun(x y:Nat) (e1:L.getD k 0=x) (e2:M.getD k 0=y) (dd c':Nat)=>Sm (x:=x) (y:=y) (d:=dd) (c':=c') hO hval ((jJ L k).trans (by rw[e1])) ((jJ M k).trans (by rw[e2])));have HV:=Lib.hid hval;have HO:=Lib.hid hO;have hOl:O.length<=3000:=by omega
  clear hval hO;obtain⟨OA,Oc,rfl,hos⟩:=how.sl;by_cases hl:k<l
  .have hkL:k<L.length:=by have:=HL.out;omega
   obtain⟨ab,ao,rfl,_,c1⟩:=(hs.below hb).at_ hkL;have hx32:L[k]<4294967296:=hs.ok.get hkL;have HX:=Lib.hid (mv hkL);generalize L[k]=x at *
   clear hkL;by_cases hm:k<m
   .have hkM:k<M.length:=by have:=HM.out;omega
    obtain⟨bb,bo,rfl,_,c2⟩:=(hr.below hb).at_ hkM;have hy32:M[k]<4294967296:=hr.ok.get hkM;have HY:=Lib.hid (mv hkM);generalize M[k]=y at *
    clear hkM;have hmk:=kQ (x+4294967296-(q+y)) (by omega);rw[show((x+4294967296-(q+y):Nat):Int)=(x:Int)+4294967296-(q+y)by omega]at hmk;have hsz:O.length+[(x+4294967296-(q+y))%4294967296].length<=10000000000:=by simp;omega
    go_wp2_with (at_builtin;go_must (refine gK (by rfl) _ _ (by rfl) w.heap.size _ O (by rfl) (how.alloc _) _ _ _ [(x+4294967296-(q+y))%4294967296] (by rfl) (by rfl) (Sl.iJ _ _ ((x+4294967296-(q+y))%4294967296) (by omega) (by omega)) hsz (fR hb.size _) ?_);intro v' w1 how1 hg hat)
    go_roundw
    case rel =>
     exact⟨k+1,1-(x+4294967296-(q+y))/4294967296,O++[(x+4294967296-(q+y))%4294967296],by omega,by go_num,by rw[show(1-((x:Int)+4294967296-(q+y))/4294967296)=((1-(x+4294967296-(q+y))/4294967296:Nat):Int)by omega],by omega,by rw[List.length_append,HO.out];rfl,HS.out x y HX.out HY.out _ _ (by omega),how1,(hb.trans (Ext.alloc _ _)).own _ _ (how.alloc _) hg⟩
    case measure=>simp[intOf];omega
   .have hmZ:¬(k:Int)<m:=by omega
    have HY:=Lib.hid (oX (L:=M) (k:=k) (by have:=HM.out;omega));have hmk:=kQ (x+4294967296-q) (by omega);rw[show((x+4294967296-q:Nat):Int)=(x:Int)+4294967296-q by omega]at hmk;have hsz:O.length+[(x+4294967296-q)%4294967296].length<=10000000000:=by simp;omega
    go_wp2_with (at_builtin;go_must (refine gK (by rfl) _ _ (by rfl) w.heap.size _ O (by rfl) (how.alloc _) _ _ _ [(x+4294967296-q)%4294967296] (by rfl) (by rfl) (Sl.iJ _ _ ((x+4294967296-q)%4294967296) (by omega) (by omega)) hsz (fR hb.size _) ?_);intro v' w1 how1 hg hat)
    go_roundw
    case rel =>
     exact⟨k+1,1-(x+4294967296-q)/4294967296,O++[(x+4294967296-q)%4294967296],by omega,by go_num,by rw[show(1-((x:Int)+4294967296-q)/4294967296)=((1-(x+4294967296-q)/4294967296:Nat):Int)by omega],by omega,by rw[List.length_append,HO.out];rfl,HS.out x 0 HX.out HY.out _ _ (by omega),how1,(hb.trans (Ext.alloc _ _)).own _ _ (how.alloc _) hg⟩
    case measure=>simp[intOf];omega
  .obtain rfl:k=l:=by omega
   have hfin:Hid (aw O=af (val L-val M)):=by
    show aw O=_;have h:=HV.out;rw[List.take_of_length_le (l:=L) (by have:=HL.out;omega),List.take_of_length_le (l:=M) (by have:=HM.out;omega)]at h;rw[fN how.ok,(F4 how.ok HO.out h HLE.out).2]
   go_wp2_with fail;refine(pv OA Oc O _ hos (by omega)).mono ?_;rintro e w' ⟨A'',c'',rfl,hs'',hb'⟩;go_wp2;go_ret;rw[<-hfin.out];exact⟨A'',c'',rfl,hs'',hb.trans hb'⟩
open Go.RowKit Fp
theorem DM{O:List Nat}{p a b c o:Nat}(ho:O[p]? = some o) :
  val (O.set p ((a*b+o+c)%4294967296))+4294967296^(p+1)*((a*b+o+c)/4294967296)=val O+4294967296^p*c+4294967296^p*(a*b):=by
 obtain⟨hp,rfl⟩:=List.getElem?_eq_some_iff.1 ho;have h:=zo (x:=(a*b+O[p]+c)%4294967296) hp;have e:=congrArg (4294967296^p * ·) (Nat.mod_add_div (a*b+O[p]+c) 4294967296);simp only[Nat.mul_add]at e;rw[Nat.pow_succ,Nat.mul_assoc];omega
theorem Bh{O:List Nat}{p c o:Nat}(ho:O[p]? = some o) :
  val (O.set p ((o+c)%4294967296))+4294967296^(p+1)*((o+c)/4294967296)=val O+4294967296^p*c:=by
 have h:=DM (a:=0) (b:=0) (c:=c) ho;simpa using h
theorem fW(x:Nat)(h:x<18446744073709551616):IntKind.u64.wrap (x:Int)=(x:Int):=by rw[IntKind.wrap_u64];omega
theorem Fp.ay.FM{L:List Nat}(h:ay L)(k:Nat)(x:Nat):ay (L.set k (x%4294967296)):=h.set k (Nat.mod_lt _ (by decide))
open Go.RowKit Fp
theorem ug(s:Bool)(A:Option Addr)(c:Nat)(L:List Nat)(e:Int)(w:World)(hs:Sl w A c L)(hlen:L.length<=3000)(he1:-1000000<=e)(he2:e<=1000000) :
  Calls Tryz.prog 76 #[.bool s,.slice A L.length c,.int .i64 e] w (kj w (canon s (val L) e)):=by
 by_cases h0:val L=0
 .have hc0:=Lib.hid (show canon s (val L) e=aT by unfold canon;rw[if_pos h0];rfl)
  have ht0:aw L=[]:=by rw[fN hs.ok,h0,dP]
  have hT:=Lib.hid (fun w (h:Sl w A c L)=>pv A c L w h (by omega));rw[ht0]at hT;clear ht0 h0;go_enter Tryz.func76,Tryz.ntmps76;go_wp2_with fail;refine(hT.out _ (hs.alloc _)).mono ?_;rintro e w' ⟨A',c',rfl,hs',hb⟩;have bx:=(aJ.new w false none 0 0 0).ext hb;have b0:=bx.c0;have b1:=bx.c1;have b2:=bx.c2;have f0:=bx.fr 0;have f1:=bx.fr 1;have f2:=bx.fr 2;go_wp2;rw[hc0.out]
  have hz:af aT.m=[]:=dP;exact iN rfl rfl rfl (bx.set _ _ _ _ _) (by rw[hz];rfl) (by rw[hz];exact bx.fF (Sl.nil _) _ _ _ _ _) (aJ.fi ((Ext.alloc _ _).trans hb) (Nat.le_refl _) _ _ _ _ _)
 .have hc0:=Lib.hid (show canon s (val L) e=⟨s,val L/2^aY (val L),e+aY (val L)⟩by unfold canon;rw[if_neg h0])
  have hT:=Lib.hid (fun w (h:Sl w A c L)=>pv A c L w h (by omega));have ht1:=eD L;unfold cN at ht1;have hv:=eP L;have hok:=hs.ok.aw;generalize aw L=M at *
  rw[<-hv]at h0 hc0 ⊢;clear hv;have hZ:=Lib.hid (fun A c w (h:Sl w A c M)=>Q8 A c M w h (by omega) h0);have hlim:aY (val M)<=100000:=by have:=qc hok h0;omega
  have hR:=Lib.hid (fun A c w (h:Sl w A c M)=>Q0 A c M (aY (val M)) w h (by omega) hlim);have hM0:M.length≠0:=by intro h;rw[List.eq_nil_of_length_eq_zero h]at h0;exact h0 rfl
  generalize val M/2^aY (val M)=q at *
  generalize aY (val M)=t at *
  obtain⟨m,hm⟩:∃ m,m=M.length:=⟨_,rfl⟩
  go_enter Tryz.func76,Tryz.ntmps76;go_wp2_with fail;refine(hT.out _ (hs.alloc _)).mono ?_;rintro e' w1 ⟨A1,c1,rfl,hs1,hb1⟩;go_wp2_with fail;refine(hZ.out _ _ _ hs1).mono ?_;rintro e' w2 ⟨rfl,rfl⟩;go_wp2_with fail;refine(hR.out _ _ _ hs1).mono ?_;rintro e' w2 ⟨A2,c2,rfl,hs2,hb2⟩;have hb:=hb1.trans hb2;have bx:=(aJ.new w false none 0 0 0).ext hb
  have b0:=bx.c0;have b1:=bx.c1;have b2:=bx.c2;have f0:=bx.fr 0;have f1:=bx.fr 1;have f2:=bx.fr 2;go_wp2;rw[hc0.out];exact iN rfl rfl rfl (bx.set _ _ _ _ _) rfl (bx.fF hs2 _ _ _ _ _) (aJ.fi ((Ext.alloc _ _).trans hb) (Nat.le_refl _) _ _ _ _ _)
theorem KR(A:Option Addr)(c:Nat)(L:List Nat)(w:World)(hs:Sl w A c L)(h1:L.length<=3000)(h0:val L≠0)(hT:Tb w) :
  Calls Tryz.prog 126 #[.slice A L.length c] w fun e w'=>e = .returned (.int .i64 (aY (val L)))/\w=w':=by
 have hok:=hs.ok;have HV:=Lib.hid (fun i hi h hx=>Kn hok i hi h hx);have H0:=Lib.hid h0;clear h0;go_enter Tryz.func126,Tryz.ntmps126;go_wp2;go_loop [3,8] (fun n i=>∃ k:Nat,k<=L.length/\i = .int .i64 k/\n = .int .i64 ((32*k:Nat):Int)/\∀ j,(hj:j<k)->L[j]? = some 0) (fun _ i=>L.length-(intOf i).toNat)
 case atStart=>exact⟨0,Nat.zero_le _,rfl,rfl,fun j hj=>by omega⟩
 case round =>
  obtain⟨k,hk,rfl,rfl,hz⟩:=hrel;have HZ:=Lib.hid hz;clear hz;by_cases hlt:k<L.length
  .obtain ⟨ab,ao,rfl,_,c1⟩:=hs.at_ hlt
   have hx32:L[k]<4294967296:=hok.get hlt;have HG:=Lib.hid (List.getElem?_eq_getElem hlt);have HC:=Lib.hid (fun hx=>HV.out k hlt (fun j hj=>by have:=HZ.out j hj;rw[List.getElem?_eq_getElem (by omega)]at this;simpa using this) hx);clear HV;generalize L[k]=x at *
   by_cases hx:x=0
   .have HX:=Lib.hid hx;clear hx
    have hb:((x:Int) != 0)=false:=by have:=HX.out;simp;omega
    go_wp2;go_round
    case rel=>exact⟨k+1,by omega,by go_num,by go_num,fun j hj=>by
     by_cases e:j=k
     .subst e;rw[HG.out,HX.out]
     .exact HZ.out j (by omega)⟩
    case measure=>simp[intOf];omega
   .have hb:((x:Int) != 0)=true:=by simp;omega
    have HX:=Lib.hid (HC.out hx);have hc32:aY x<=32:=by
     have h1:=q7 hx;rcases Nat.lt_or_ge 32 (aY x)with h|h
     .have:=Nat.pow_lt_pow_right (a:=2) (by decide) h
      have e:(2:Nat)^32=4294967296:=by decide
      omega
     .exact h
    go_wp2_with (go_at_call 163;refine(S6 x hx hx32 _ hT).mono ?_;rintro e w' ⟨rfl,rfl⟩)
    go_ret;exact⟨dU (by rw[HX.out];simp),rfl⟩
  .exfalso
   have:val L=0:=by
    rw[val_eq_zero_iff];intro y hy;obtain⟨j,hj,rfl⟩:=List.getElem_of_mem hy;have:=HZ.out j (by omega);rw[List.getElem?_eq_getElem hj]at this;simpa using this
   exact H0.out this
open Go.RowKit Fp
theorem sN(s:Bool)(A:Option Addr)(c:Nat)(L:List Nat)(e:Int)(w:World)(hs:Sl w A c L)(_hlen:L.length<=100000)(hl2:(aw L).length<=256)(he1:-1000000<=e)(he2:e<=1000000)(hTb:Tb w) :
  Calls Tryz.prog 79 #[.bool s,.slice A L.length c,.int .i64 e] w (kj w (canon s (val L) e)):=by
 have hT:=Lib.hid (fun w (h:Sl w A c L)=>KX A c L w h);have hs2:=hs.trim;have hv:=eP L;have hok:=hs.ok.aw;have htr:=lM L;generalize aw L=M at *
 rw[<-hv];clear hv;by_cases h0:val M=0
 .have hc0:=Lib.hid (show canon s (val M) e=aT by unfold canon;rw[if_pos h0];rfl)
  have hM0:Hid (M.length=0):=by
   show M.length=0;rw[htr.oL hok,h0,dP];rfl
  obtain⟨m,hm⟩:∃ m,m=M.length:=⟨_,rfl⟩
  rw[<-hm]at hT hM0;clear hm h0;obtain rfl:m=0:=hM0.out;clear hM0;go_enter Tryz.func79,Tryz.ntmps79;go_wp2_with fail;refine(hT.out _ (hs.alloc _)).mono ?_;rintro e w' ⟨rfl,rfl⟩;have bx:=aJ.new w false none 0 0 0;have b0:=bx.c0;have b1:=bx.c1;have b2:=bx.c2;have f0:=bx.fr 0;have f1:=bx.fr 1;have f2:=bx.fr 2;go_wp2;rw[hc0.out];have hz:af aT.m=[]:=dP
  exact iN rfl rfl rfl bx (by rw[hz];rfl) (by rw[hz];exact Sl.nil _) (Ext.alloc _ _)
 .have hc0:=Lib.hid (show canon s (val M) e=⟨s,val M/2^aY (val M),e+aY (val M)⟩by unfold canon;rw[if_neg h0])
  have hZ:=Lib.hid (fun A c w (h:Sl w A c M) (ht:Tb w)=>KR A c M w h (by omega) h0 ht);have hlim:aY (val M)<=65536:=by have:=qc hok h0;omega
  have hR:=Lib.hid (fun A c w (h:Sl w A c M)=>DZ A c M (aY (val M)) w h hl2 hlim);have hM0:M.length≠0:=by intro h;rw[List.eq_nil_of_length_eq_zero h]at h0;exact h0 rfl
  have hql:(af (val M/2^aY (val M))).length<=256:=by
   refine jy (Nat.lt_of_le_of_lt (Nat.div_le_self _ _) ?_);exact Nat.lt_of_lt_of_le (dR hok) (Nat.pow_le_pow_right (by decide) hl2)
  generalize val M/2^aY (val M)=q at *
  generalize aY (val M)=t at *
  have hK:=Lib.hid (fun A c w (h:Sl w A c (af q))=>vN A c (af q) w h (by omega));have hP:=Lib.hid (fun A c w (h:Sl w A c (af q))=>vL A c (af q) w h);obtain⟨Q,hQ⟩:∃ Q,Q=af q:=⟨_,rfl⟩
  have HQ:=Lib.hid hQ;rw[<-hQ]at hR hK hP hql;clear hQ;go_enter Tryz.func79,Tryz.ntmps79;go_wp2_with fail;refine(hT.out _ (hs.alloc _)).mono ?_;rintro e' w1 ⟨rfl,rfl⟩;go_wp2_with fail;refine(hZ.out _ _ _ (hs2.alloc _) (hTb.alloc _)).mono ?_;rintro e' w2 ⟨rfl,rfl⟩;go_wp2_with fail;refine(hR.out _ _ _ (hs2.alloc _)).mono ?_;rintro e' w2 ⟨A2,c2,rfl,hs2',hb2⟩;go_wp2_with fail
  refine(hK.out _ _ _ hs2').mono ?_;rintro e' w3 ⟨A3,c3,rfl,hs3,hb3⟩;go_wp2_with fail;refine(hP.out _ _ _ hs3).mono ?_;rintro e' w4 ⟨rfl,rfl⟩;have hb:=hb2.trans hb3;have bx:=(aJ.new w false none 0 0 0).ext hb;have b0:=bx.c0;have b1:=bx.c1;have b2:=bx.c2;have f0:=bx.fr 0;have f1:=bx.fr 1;have f2:=bx.fr 2;go_wp2;rw[hc0.out];rw[HQ.out]at hs3 ⊢
  exact iN rfl rfl rfl (bx.set _ _ _ _ _) rfl (bx.fF hs3.clip _ _ _ _ _) (aJ.fi ((Ext.alloc _ _).trans hb) (Nat.le_refl _) _ _ _ _ _)
open Go.RowKit Fp
theorem vX(A:Option Addr)(c:Nat)(L:List Nat)(w:World)(hs:Sl w A c L)(hlen:L.length<=100000000) :
  Calls Tryz.prog 161 #[.slice A L.length c] w fun e w'=>e = .returned (.int .i64 (ak (val L)))/\w=w':=by
 have H:=Lib.hid (DP A c L w hs hlen);go_enter Tryz.func161,Tryz.ntmps161;go_wp2_with fail;refine H.out.mono ?_;rintro e w' ⟨rfl,rfl⟩;go_wp2;go_ret;exact⟨rfl,rfl⟩
def iR(m:Nat)(e:Int):Bool:=decide (cY ⟨false,m,e⟩)
theorem wS(s:Bool)(A:Option Addr)(c:Nat)(L:List Nat)(e:Int)(w:World)(hs:Sl w A c L)(hlen:L.length<=100000000)(he1:-9223372036854775808<=e)(he2:e<=9223372036854775807) :
  Calls Tryz.prog 119 #[.agg #[.bool s,.slice A L.length c,.int .i64 e]] w fun r w'=>r = .returned (.bool (iR (val L) e))/\Ext w w':=by
 have H:=Lib.hid (fun w (h:Sl w A c L)=>vX A c L w h hlen);have hn:Hid (iR (val L) e=decide (ak (val L)=0\/ak (val L)<=4096 /\ -16384<=e/\e<=16384/\(ak (val L):Int)+e<=16384)):=by
  have h:ak (val L)=0↔val L=0:=by
   constructor
   .intro h;apply Classical.byContradiction;intro h0;have:=dX h0;omega
   .intro h;rw[h];rfl
  exact decide_eq_decide.2 (or_congr h.symm Iff.rfl)
 have hbig:ak (val L)<=32*L.length:=cv.2 (by rw[<-gG];exact dR hs.ok);generalize ak (val L)=n at *
 generalize iR (val L) e=b at *
 have hcase:n=0\/(0<n/\4096<n)\/(0<n/\n<=4096/\e < -16384)\/(0<n/\n<=4096 /\ -16384<=e/\16384<e)\/(0<n/\n<=4096 /\ -16384<=e/\e<=16384/\16384<(n:Int)+e)\/(0<n/\n<=4096 /\ -16384<=e/\e<=16384/\(n:Int)+e<=16384):=by omega
 rcases hcase with h|⟨h,h1⟩|⟨h,h1,h2⟩|⟨h,h1,h2,h3⟩|⟨h,h1,h2,h3,h4⟩|⟨h,h1,h2,h3,h4⟩
 .subst h
  have hb:b=true:=by rw[hn.out];simp
  clear hn;subst hb;go_enter Tryz.func119,Tryz.ntmps119;go_wp2_with fail;refine(H.out _ (hs.alloc _)).mono ?_;rintro r w' ⟨rfl,rfl⟩;go_wp2;go_ret;exact⟨rfl,Ext.alloc _ _⟩
 .have hb:b=false:=by rw[hn.out];simp;omega
  have hn0:((n:Int)==0)=false:=by simp;omega
  have hn1:decide ((n:Int)<=4096)=false:=by simp;omega
  clear hn;subst hb;go_enter Tryz.func119,Tryz.ntmps119;go_wp2_with fail;refine(H.out _ (hs.alloc _)).mono ?_;rintro r w' ⟨rfl,rfl⟩;go_wp2;go_ret;exact⟨rfl,Ext.alloc _ _⟩
 .have hb:b=false:=by rw[hn.out];simp;omega
  have hn0:((n:Int)==0)=false:=by simp;omega
  have hn1:decide ((n:Int)<=4096)=true:=by simp;omega
  have hn2:decide (-16384<=e)=false:=by simp;omega
  clear hn;subst hb;go_enter Tryz.func119,Tryz.ntmps119;go_wp2_with fail;refine(H.out _ (hs.alloc _)).mono ?_;rintro r w' ⟨rfl,rfl⟩;go_wp2;go_ret;exact⟨rfl,Ext.alloc _ _⟩
 .have hb:b=false:=by rw[hn.out];simp;omega
  have hn0:((n:Int)==0)=false:=by simp;omega
  have hn1:decide ((n:Int)<=4096)=true:=by simp;omega
  have hn2:decide (-16384<=e)=true:=by simp;omega
  have hn3:decide (e<=16384)=false:=by simp;omega
  clear hn;subst hb;go_enter Tryz.func119,Tryz.ntmps119;go_wp2_with fail;refine(H.out _ (hs.alloc _)).mono ?_;rintro r w' ⟨rfl,rfl⟩;go_wp2;go_ret;exact⟨rfl,Ext.alloc _ _⟩
 .have hb:b=false:=by rw[hn.out];simp;omega
  have hn0:((n:Int)==0)=false:=by simp;omega
  have hn1:decide ((n:Int)<=4096)=true:=by simp;omega
  have hn2:decide (-16384<=e)=true:=by simp;omega
  have hn3:decide (e<=16384)=true:=by simp;omega
  have hn4:decide ((n:Int)+e<=16384)=false:=by simp;omega
  clear hn;subst hb;go_enter Tryz.func119,Tryz.ntmps119;go_wp2_with fail;refine(H.out _ (hs.alloc _)).mono ?_;rintro r w' ⟨rfl,rfl⟩;go_wp2;go_ret;exact⟨rfl,Ext.alloc _ _⟩
 .have hb:b=true:=by rw[hn.out];simp;omega
  have hn0:((n:Int)==0)=false:=by simp;omega
  have hn1:decide ((n:Int)<=4096)=true:=by simp;omega
  have hn2:decide (-16384<=e)=true:=by simp;omega
  have hn3:decide (e<=16384)=true:=by simp;omega
  have hn4:decide ((n:Int)+e<=16384)=true:=by simp;omega
  clear hn;subst hb;go_enter Tryz.func119,Tryz.ntmps119;go_wp2_with fail;refine(H.out _ (hs.alloc _)).mono ?_;rintro r w' ⟨rfl,rfl⟩;go_wp2;go_ret;exact⟨rfl,Ext.alloc _ _⟩
def dL(s:Bool)(L:List Nat)(e:Int):Prop:=Trim L/\L.length<=256/\Dy.Valid ⟨s,val L,e⟩
theorem BS(s:Bool)(e:Int):dL s [] e↔s=false/\e=0:=by
 unfold dL;constructor
 .rintro ⟨_,_,hc,_⟩
  rcases hc with⟨_,h1,h2⟩|h
  .exact ⟨h1,h2⟩
  .simp at h
 .rintro ⟨rfl,rfl⟩
  exact⟨Trim.nil,by simp,gL⟩
theorem BR{s:Bool}{L:List Nat}{e:Int}{x y:Nat}(hx:L[0]? = some x)(hy:L[L.length-1]? = some y) :
  dL s L e↔L.length<=256/\x%2=1/\y≠0/\iR (val L) e=true:=by
 have hpar:val L%2=x%2:=by
  cases L with
  | nil=>simp at hx
  | cons z l=>simp at hx;subst hx;simp only[fk];omega
 have htr:Trim L↔y≠0:=by
  rw[mV];obtain⟨h1,h2⟩:=List.getElem?_eq_some_iff.1 hy;constructor
  .intro h;rw[<-h2];exact h (by omega)
  .intro h _;rw[h2];exact h
 unfold dL iR;rw[htr,decide_eq_true_iff];constructor
 .rintro ⟨h1,h2,hc,hr⟩
  have hr':cY ⟨false,val L,e⟩:=hr;refine⟨h2,?_,h1,hr'⟩;rcases hc with⟨h,_,_⟩|h
  .exfalso
   have:=(htr.2 h1).lO (by intro h0;subst h0;simp at hx);simp only at h;omega
  .rw [<-hpar];exact h
 .rintro ⟨h1,h2,h3,h4⟩
  exact⟨h3,h1,.inr (by show val L%2=1;rw[hpar];exact h2),h4⟩
theorem fp{b:Bool}{P:Prop}(h:b=true↔P)(hn:¬P):b=false:=by
 cases b
 .rfl
 .exact absurd (h.1 rfl) hn
theorem vu{b:Bool}{P:Prop}(h:b=true↔P)(hn:P):b=true:=h.2 hn
theorem AP{b v:Bool}{P:Prop}(h:b=true↔P)(hn:P↔v=true):b=v:=by
 cases b<;>cases v<;>simp_all
theorem np(s:Bool)(A:Option Addr)(c:Nat)(L:List Nat)(e:Int)(w:World)(b:Bool)(hs:Sl w A c L)(he1:-9223372036854775808<=e)(he2:e<=9223372036854775807)(hb:b=true↔dL s L e) :
  Calls Tryz.prog 68 #[.agg #[.bool s,.slice A L.length c,.int .i64 e]] w fun r w'=>r = .returned (.bool b)/\Ext w w':=by
 have hcap:=hs.cap;have hlim:=hs.fz;by_cases hL:L=[]
 .subst hL
  rw[BS]at hb;cases s
  .by_cases h:e=0
   .subst h
    have:b=true:=by simpa using hb
    clear hb;subst this;go_enter Tryz.func68,Tryz.ntmps68;go_wp2;go_ret;exact⟨rfl,Ext.alloc _ _⟩
   .have:b=false:=fp hb (by simp[h])
    have h':(e==0)=false:=by simp;omega
    clear hb;subst this;go_enter Tryz.func68,Tryz.ntmps68;go_wp2;go_ret;exact⟨rfl,Ext.alloc _ _⟩
  .have:b=false:=fp hb (by simp)
   clear hb;subst this;go_enter Tryz.func68,Tryz.ntmps68;go_wp2;go_ret;exact⟨rfl,Ext.alloc _ _⟩
 .have hpos:0<L.length:=List.length_pos_iff.2 hL
  clear hL;obtain⟨ab,ao,rfl,_,c1⟩:=hs.at_ hpos;obtain⟨ab',ao',e',_,c2⟩:=hs.at_ (i:=L.length-1) (by omega);cases e';have hx32:=hs.ok.get hpos;have hy32:=hs.ok.get (show L.length-1<L.length by omega);rw[BR (List.getElem?_eq_getElem hpos) (List.getElem?_eq_getElem (show L.length-1<L.length by omega))]at hb;have c1':w.cell? ⟨ab,ao,none⟩=some (.int .u32 (L[0]:Int)):=c1;clear c1
  generalize L[0]=x at *
  generalize L[L.length-1]=y at *
  have HB:=Lib.hid hb;clear hb;have H:=Lib.hid (fun w (h:Sl w (some ⟨ab,ao,none⟩) c L) (hl:L.length<=256)=>wS s _ c L e w h (by omega) he1 he2);obtain⟨n,hn⟩:∃ n,n=L.length:=⟨_,rfl⟩
  rw[<-hn]at hpos c2 H HB hcap ⊢;clear hn;generalize iR (val L) e=v at *
  have hn0:((n:Int)==0)=false:=by simp;omega
  by_cases h1:n<=256
  .have hn1:decide ((n:Int)<=256)=true:=by simp;omega
   by_cases h2:x%2=1
   .have hn2:((x:Int)%2==1)=true:=by simp;omega
    by_cases h3:y=0
    .have:b=false:=fp HB.out (by simp[h3])
     have hn3:((y:Int) != 0)=false:=by simp;omega
     clear HB;subst this;go_enter Tryz.func68,Tryz.ntmps68;go_wp2;go_ret;exact⟨rfl,Ext.alloc _ _⟩
    .have:b=v:=AP HB.out (by simp[h1,h2,h3])
     have hn3:((y:Int) != 0)=true:=by simp;omega
     clear HB;subst this;go_enter Tryz.func68,Tryz.ntmps68;go_wp2_with fail;refine(H.out _ (hs.alloc _) h1).mono ?_;rintro r w' ⟨rfl,hb'⟩;go_wp2;go_ret;exact⟨rfl,(Ext.alloc _ _).trans hb'⟩
   .have:b=false:=fp HB.out (fun h=>h2 h.2.1)
    have hn2:((x:Int)%2==1)=false:=by simp;omega
    clear HB;subst this;go_enter Tryz.func68,Tryz.ntmps68;go_wp2;go_ret;exact⟨rfl,Ext.alloc _ _⟩
  .have:b=false:=fp HB.out (fun h=>h1 h.1)
   have hn1:decide ((n:Int)<=256)=false:=by simp;omega
   clear HB;subst this;go_enter Tryz.func68,Tryz.ntmps68;go_wp2;go_ret;exact⟨rfl,Ext.alloc _ _⟩
open Go.RowKit Fp
theorem xk{n k:Nat}(h:ak n<=32*k):(af n).length<=k:=jy (by rw[gG];exact cv.1 h)
theorem KJ(d:Dy):dL d.neg (af d.m) d.e↔d.Valid:=by
 unfold dL;rw[bc];constructor
 .exact fun h=>h.2.2
 .intro h
  refine⟨jf _,?_,h⟩;rcases h.range with h0|⟨h1,_⟩
  .rw [h0,dP];simp
  .exact xk (by omega)
theorem dL.oL{s:Bool}{L:List Nat}{e:Int}(h:dL s L e)(hk:ay L):L=af (val L):=h.1.oL hk
theorem dL.len{s:Bool}{L:List Nat}{e:Int}(h:dL s L e):L.length<=256:=h.2.1
theorem dL.bits{s:Bool}{L:List Nat}{e:Int}(h:dL s L e):ak (val L)<=4096:=by
 rcases h.2.2.range with h0|⟨h1,_⟩
 .simp only at h0;rw[h0];decide
 .exact h1
theorem dL.exp{s:Bool}{L:List Nat}{e:Int}(h:dL s L e):-16384<=e/\e<=16384:=by
 rcases h.2.2.range with h0|⟨_,h1,h2,_⟩
 .rcases h.2.2.canon with⟨_,_,h3⟩|h3
  .simp only at h3;omega
  .simp only at h0 h3;omega
 .exact ⟨h1,h2⟩
theorem dL.top{s:Bool}{L:List Nat}{e:Int}(h:dL s L e)(h0:val L≠0):(ak (val L):Int)+e<=16384:=by
 rcases h.2.2.range with h0'|⟨_,h1,h2,h3⟩
 .exact absurd h0' h0
 .exact h3
theorem vY(s:Bool)(A:Option Addr)(c:Nat)(L:List Nat)(e:Int)(w:World)(hs:Sl w A c L)(hd:dL s L e) :
  Calls Tryz.prog 130 #[.agg #[.bool s,.slice A L.length c,.int .i64 e]] w fun r w'=>r = .returned (.int .i64 (Dy.top ⟨s,val L,e⟩))/\Ext w w':=by
 obtain⟨he1,he2⟩:=hd.exp;have hl:=hd.len;have hbt:=hd.bits;have HV:=Lib.hid (fun w (h:Sl w A c L)=>np s A c L e w true h (by omega) (by omega) (by simp[hd]));have HS:=Lib.hid (fun w (h:Sl w A c L)=>vX A c L w h (by omega));by_cases h0:L=[]
 .subst h0
  go_enter Tryz.func130,Tryz.ntmps130;go_wp2_with fail;refine(HV.out _ (hs.alloc _)).mono ?_;rintro r w' ⟨rfl,hb⟩;have bx:=(aJ.new w s A 0 c e).ext hb;have b0:=bx.c0;have b1:=bx.c1;have b2:=bx.c2;go_wp2;go_ret;exact⟨rfl,(Ext.alloc _ _).trans hb⟩
 .have hpos:0<L.length:=List.length_pos_iff.2 h0
  have hv0:val L≠0:=by have:=hd.1.lO h0;omega
  have ht:=Lib.hid (show Dy.top ⟨s,val L,e⟩=ak (val L)+e by unfold Dy.top;rw[if_neg hv0]);clear h0 hv0;generalize Dy.top ⟨s,val L,e⟩=t at *
  generalize ak (val L)=q at *
  have hw:IntKind.i64.wrap ((q:Int)+e)=q+e:=i64_in _ (by omega) (by omega);have hn0:(((L.length:Nat):Int)==0)=false:=beq_eq_false_iff_ne.2 (by omega);go_enter Tryz.func130,Tryz.ntmps130;go_wp2_with fail;refine(HV.out _ (hs.alloc _)).mono ?_;rintro r w' ⟨rfl,hb⟩;have bx:=(aJ.new w s A L.length c e).ext hb;have b0:=bx.c0;have b1:=bx.c1;have b2:=bx.c2;have hs':=(hs.alloc _).below hb
  go_wp2_with fail;go_region_held3 (fun w'=>w'.cell? ⟨w.heap.size,1,none⟩=some (.slice A L.length c)/\w'.cell? ⟨w.heap.size,2,none⟩=some (.int .i64 e)) (go_keep)
   (first|(go_at_call 161;refine(HS.out _ ?_).mono ?_;(exact hs'.drew);rintro r w'' ⟨rfl,rfl⟩))
  go_wp2;go_ret;exact⟨dU (by rw[ht.out]),Below.drew ((Ext.alloc _ _).trans hb)⟩
theorem KK(s:Bool)(A:Option Addr)(c:Nat)(L:List Nat)(e:Int)(w:World)(hs:Sl w A c L)(hd:dL s L e) :
  Calls Tryz.prog 295 #[.agg #[.bool s,.slice A L.length c,.int .i64 e]] w fun r w'=>r = .returned (.int .i64 (ak (val L)))/\Ext w w':=by
 obtain⟨he1,he2⟩:=hd.exp;have hl:=hd.len;have HV:=Lib.hid (fun w (h:Sl w A c L)=>np s A c L e w true h (by omega) (by omega) (by simp[hd]));have HS:=Lib.hid (fun w (h:Sl w A c L)=>vX A c L w h (by omega));go_enter Tryz.func295,Tryz.ntmps295;go_wp2_with fail;refine(HV.out _ (hs.alloc _)).mono ?_;rintro r w' ⟨rfl,hb⟩;have bx:=(aJ.new w s A L.length c e).ext hb
 have b0:=bx.c0;have b1:=bx.c1;have b2:=bx.c2;go_wp2_with fail;refine(HS.out _ ((hs.alloc _).below hb)).mono ?_;rintro r w' ⟨rfl,rfl⟩;go_wp2;go_ret;exact⟨rfl,(Ext.alloc _ _).trans hb⟩
theorem vW(s:Bool)(A:Option Addr)(c:Nat)(L:List Nat)(e:Int)(w:World)(hs:Sl w A c L)(hd:dL s L e) :
  Calls Tryz.prog 35 #[.agg #[.bool s,.slice A L.length c,.int .i64 e]] w fun r w'=>r = .returned (.int .i64 (Dy.sign ⟨s,val L,e⟩))/\Ext w w':=by
 obtain⟨he1,he2⟩:=hd.exp;have hl:=hd.len;have HV:=Lib.hid (fun w (h:Sl w A c L)=>np s A c L e w true h (by omega) (by omega) (by simp[hd]));by_cases h0:L=[]
 .subst h0
  go_enter Tryz.func35,Tryz.ntmps35;go_wp2_with fail;refine(HV.out _ (hs.alloc _)).mono ?_;rintro r w' ⟨rfl,hb⟩;have bx:=(aJ.new w s A 0 c e).ext hb;have b0:=bx.c0;have b1:=bx.c1;have b2:=bx.c2;go_wp2;go_ret;exact⟨rfl,(Ext.alloc _ _).trans hb⟩
 .have hpos:0<L.length:=List.length_pos_iff.2 h0
  have hv0:val L≠0:=by have:=hd.1.lO h0;omega
  have ht:=Lib.hid (show Dy.sign ⟨s,val L,e⟩=if s then -1 else 1 by unfold Dy.sign;rw[if_neg hv0]);clear h0 hv0;generalize Dy.sign ⟨s,val L,e⟩=t at *
  have hn0:(((L.length:Nat):Int)==0)=false:=beq_eq_false_iff_ne.2 (by omega);go_enter Tryz.func35,Tryz.ntmps35;go_wp2_with fail;refine(HV.out _ (hs.alloc _)).mono ?_;rintro r w' ⟨rfl,hb⟩;have bx:=(aJ.new w s A L.length c e).ext hb;have b0:=bx.c0;have b1:=bx.c1;have b2:=bx.c2;cases s
  .go_wp2
   go_ret;exact⟨dU (by rw[ht.out];rfl),(Ext.alloc _ _).trans hb⟩
  .go_wp2
   go_ret;exact⟨dU (by rw[ht.out];rfl),(Ext.alloc _ _).trans hb⟩
open Go.RowKit Fp
theorem LO(e:Int)(w:World)(b:Bool)(hb:b=true↔(-32768<=e/\e<=32768)) :
  Calls Tryz.prog 77 #[.int .i64 e] w fun r w'=>r = .returned (.bool b)/\w=w':=by
 by_cases h1:-32768<=e
 .have d1:decide (-32768<=e)=true:=by simpa using h1
  by_cases h2:e<=32768
  .have d2:decide (e<=32768)=true:=by simpa using h2
   have:=vu hb ⟨h1,h2⟩;clear hb;subst this;go_enter Tryz.func77,Tryz.ntmps77;go_wp2;go_ret;exact⟨rfl,rfl⟩
  .have d2:decide (e<=32768)=false:=by simpa using h2
   have:=fp hb (fun h=>h2 h.2);clear hb;subst this;go_enter Tryz.func77,Tryz.ntmps77;go_wp2;go_ret;exact⟨rfl,rfl⟩
 .have d1:decide (-32768<=e)=false:=by simpa using h1
  have:=fp hb (fun h=>h1 h.1);clear hb;subst this;go_enter Tryz.func77,Tryz.ntmps77;go_wp2;go_ret;exact⟨rfl,rfl⟩
theorem Bm(d:Dy)(A:Option Addr)(c:Nat)(w:World)(hs:Sl w A c (af d.m))(hl:(af d.m).length<=100000000)(he1:-10000000<=d.e)(he2:d.e<=10000000)(hd:cY d) :
  Calls Tryz.prog 78 #[.agg #[.bool d.neg,.slice A (af d.m).length c,.int .i64 d.e]] w (ix w d 0):=by
 obtain⟨s,m,e⟩:=d;simp only at *
 have hr:iR m e=true:=by unfold iR;exact decide_eq_true hd
 have HV:=Lib.hid (fun w (h:Sl w A c (af m))=>wS s A c (af m) e w h hl (by omega) (by omega));rw[bc,hr]at HV;clear hr hd;go_enter Tryz.func78,Tryz.ntmps78;go_wp2_with fail;refine(HV.out _ ((hs.alloc _).alloc _)).mono ?_;rintro r w' ⟨rfl,hb⟩;have bx:=((aJ.new w s A (af m).length c e).alloc (.cells #[.bool false,.slice none 0 0,.int .i64 0] 31)).ext hb
 have by_:=(aJ.new (w.alloc (.cells #[.bool s,.slice A (af m).length c,.int .i64 e] 31)) false none 0 0 0).ext hb;have b0:=bx.c0;have b1:=bx.c1;have b2:=bx.c2;have bz:(w.alloc (.cells #[.bool s,.slice A (af m).length c,.int .i64 e] 31)).heap.size=w.heap.size+1:=by simp
 rw[bz]at by_;have c0:=by_.c0;have c1:=by_.c1;have c2:=by_.c2;have f0:=by_.fr 0;have f1:=by_.fr 1;have f2:=by_.fr 2;have hs':=((hs.alloc (.cells #[.bool s,.slice A (af m).length c,.int .i64 e] 31)).alloc (.cells #[.bool false,.slice none 0 0,.int .i64 0] 31)).below hb;have hb':Ext w w':=((Ext.alloc _ _).trans (Ext.alloc _ _)).trans hb;clear bz;go_wp2
 exact jm rfl rfl rfl rfl (by_.set _ _ _ _ _) rfl (by_.fF hs' _ _ _ _ _) (aJ.fi hb' (by omega) _ _ _ _ _)
theorem Kb(d:Dy)(A:Option Addr)(c:Nat)(w:World)(hs:Sl w A c (af d.m))(hl:(af d.m).length<=100000000)(he1:-10000000<=d.e)(he2:d.e<=10000000)(hd:¬cY d) :
  Calls Tryz.prog 78 #[.agg #[.bool d.neg,.slice A (af d.m).length c,.int .i64 d.e]] w (ix w aT 9):=by
 obtain⟨s,m,e⟩:=d;simp only at *
 have hr:iR m e=false:=by unfold iR;exact decide_eq_false hd
 have HV:=Lib.hid (fun w (h:Sl w A c (af m))=>wS s A c (af m) e w h hl (by omega) (by omega));rw[bc,hr]at HV;clear hr hd;go_enter Tryz.func78,Tryz.ntmps78;go_wp2_with fail;refine(HV.out _ ((hs.alloc _).alloc _)).mono ?_;rintro r w' ⟨rfl,hb⟩;have by_:=(aJ.new (w.alloc (.cells #[.bool s,.slice A (af m).length c,.int .i64 e] 31)) false none 0 0 0).ext hb
 have bz:(w.alloc (.cells #[.bool s,.slice A (af m).length c,.int .i64 e] 31)).heap.size=w.heap.size+1:=by simp
 rw[bz]at by_;have c0:=by_.c0;have c1:=by_.c1;have c2:=by_.c2;have f0:=by_.fr 0;have f1:=by_.fr 1;have f2:=by_.fr 2;have hb':Ext w w':=((Ext.alloc _ _).trans (Ext.alloc _ _)).trans hb;have hz:af aT.m=[]:=dP;have HZ:=Lib.hid hz;clear bz hz;go_wp2
 exact jm rfl rfl rfl rfl (by_.set _ _ _ _ _) (by rw[HZ.out];rfl) (by rw[HZ.out];exact by_.fF (Sl.nil _) _ _ _ _ _) (aJ.fi hb' (by omega) _ _ _ _ _)
theorem OQ(s:Bool)(A:Option Addr)(c:Nat)(L:List Nat)(e:Int)(w:World)(hs:Sl w A c L)(hlen:L.length<=256)(he1:-32768<=e)(he2:e<=32768)(hTb:Tb w)(hd:cY (canon s (val L) e)) :
  Calls Tryz.prog 262 #[.bool s,.slice A L.length c,.int .i64 e] w (ix w (canon s (val L) e) 0):=by
 have hl1:decide (256<(L.length:Int))=false:=decide_eq_false (by omega);have HE:=Lib.hid (fun w=>LO e w true (by simp[he1,he2]));have HC:=Lib.hid (fun w (h:Sl w A c L) (ht:Tb w)=>sN s A c L e w h (by omega) (by have:=eD L;unfold cN at this;omega) (by omega) (by omega) ht);have hb1:(af (canon s (val L) e).m).length<=100000000:=by
  unfold canon;split
  .simp [dP]
  .refine Nat.le_trans (jy (k:=256) (Nat.lt_of_le_of_lt (Nat.div_le_self _ _) ?_)) (by decide)
   exact Nat.lt_of_lt_of_le (dR hs.ok) (Nat.pow_le_pow_right (by decide) hlen)
 have hb2:-10000000<=(canon s (val L) e).e/\(canon s (val L) e).e<=10000000:=by
  unfold canon;split
  .simp
  .rename_i h0
   have:=qc hs.ok h0;simp only;omega
 obtain⟨hb2,hb3⟩:=hb2;have HK:=Lib.hid (fun A c w (h:Sl w A c (af (canon s (val L) e).m))=>Bm _ A c w h hb1 hb2 hb3 hd);generalize canon s (val L) e=d at *
 clear hd hb1 hb2 hb3;go_enter Tryz.func262,Tryz.ntmps262;go_wp2_with fail;refine(HE.out _).mono ?_;rintro r w' ⟨rfl,rfl⟩;go_wp2_with fail;refine(HC.out _ (hs.alloc _) (hTb.alloc _)).mono ?_;rintro r w1 ⟨A1,c1,rfl,hs1,hb1⟩;go_wp2_with fail;refine(HK.out _ _ _ hs1).mono ?_;rintro r w2 ⟨A2,c2,rfl,hs2,hb2⟩;have hb:=hb1.trans hb2;have bx:=(aJ.new w false none 0 0 0).ext hb
 have b0:=bx.c0;have b1:=bx.c1;have b2:=bx.c2;have f0:=bx.fr 0;have f1:=bx.fr 1;have f2:=bx.fr 2;go_wp2;exact jm rfl rfl rfl rfl (bx.set _ _ _ _ _) rfl (bx.fF hs2 _ _ _ _ _) (aJ.fi ((Ext.alloc _ _).trans hb) (Nat.le_refl _) _ _ _ _ _)
open Go.RowKit Fp
theorem S7(x:Nat)(hx:x<4294967296):bits BinOp.and IntKind.u32 (x:Int) 1=((x%2:Nat):Int):=by
 rw[show(1:Int)=((1:Nat):Int)from rfl,bits_and_u32_nat _ _ hx (by decide),Nat.and_one_is_mod]
theorem Nw{m:Nat}(h0:m≠0)(e:Int):iR m e=true↔(ak m<=4096 /\ -16384<=e/\e<=16384/\(ak m:Int)+e<=16384):=by
 have h:iR m e=true↔cY ⟨false,m,e⟩:=decide_eq_true_iff;rw[h];constructor
 .rintro (h|h)
  .exact absurd h h0
  .exact h
 .exact fun h=>.inr h
theorem uj(s:Bool)(A:Option Addr)(c:Nat)(L:List Nat)(e:Int)(w:World)(b:Bool)(hs:Sl w A c L)(he1:-9223372036854775808<=e)(he2:e<=9223372036854775807)(hb:b=true↔dL s L e) :
  Calls Tryz.prog 46 #[.agg #[.bool s,.slice A L.length c,.int .i64 e]] w fun r w'=>r = .returned (.bool b)/\Ext w w':=by
 have hcap:=hs.cap;have hlim:=hs.fz;by_cases hL:L=[]
 .subst hL
  rw[BS]at hb;cases s
  .by_cases h:e=0
   .subst h
    have:b=true:=by simpa using hb
    clear hb;subst this;go_enter Tryz.func46,Tryz.ntmps46;go_wp2;go_ret;exact⟨rfl,Ext.alloc _ _⟩
   .have:b=false:=fp hb (by simp[h])
    have h':(e==0)=false:=by simp;omega
    clear hb;subst this;go_enter Tryz.func46,Tryz.ntmps46;go_wp2;go_ret;exact⟨rfl,Ext.alloc _ _⟩
  .have:b=false:=fp hb (by simp)
   clear hb;subst this;go_enter Tryz.func46,Tryz.ntmps46;go_wp2;go_ret;exact⟨rfl,Ext.alloc _ _⟩
 .have hpos:0<L.length:=List.length_pos_iff.2 hL
  obtain⟨ab,ao,rfl,_,c1⟩:=hs.at_ hpos;obtain⟨ab',ao',e',_,c2⟩:=hs.at_ (i:=L.length-1) (by omega);cases e';have hx32:=hs.ok.get hpos;have hy32:=hs.ok.get (show L.length-1<L.length by omega);rw[BR (List.getElem?_eq_getElem hpos) (List.getElem?_eq_getElem (show L.length-1<L.length by omega))]at hb;have c1':w.cell? ⟨ab,ao,none⟩=some (.int .u32 (L[0]:Int)):=c1
  have hTr:=Lib.hid (show L[L.length-1]≠0->Trim L from fun h=>(mV L).2 (fun _=>h));have hV0:=Lib.hid (show L[L.length-1]≠0->val L≠0 from fun h=>by have:=((mV L).2 (fun _=>h)).lO hL;omega);clear c1 hL;generalize L[0]=x at *
  generalize L[L.length-1]=y at *
  have HB:=Lib.hid hb;clear hb;have H:=Lib.hid (fun w (h:Sl w (some ⟨ab,ao,none⟩) c L) (hl:L.length<=256) (ht:Trim L)=>Fc _ c L w h ht (by omega));have hr:Hid (val L≠0->(iR (val L) e=true↔(ak (val L)<=4096 /\ -16384<=e/\e<=16384/\(ak (val L):Int)+e<=16384))):=fun h0=>by
   exact Nw h0 e
  obtain⟨n,hn⟩:∃ n,n=L.length:=⟨_,rfl⟩
  rw[<-hn]at hpos c2 H HB hcap ⊢;have HN:=Lib.hid hn;clear hn;have hn0:((n:Int)==0)=false:=by simp;omega
  by_cases h1:n<=256
  .have hn1:decide (256<(n:Int))=false:=decide_eq_false (by omega)
   by_cases h3:y=0
   .have:b=false:=fp HB.out (by simp[h3])
    have hn3:((y:Int)==0)=true:=by simp;omega
    clear HB hr;subst this;go_enter Tryz.func46,Tryz.ntmps46;go_wp2;go_ret;exact⟨rfl,Ext.alloc _ _⟩
   .have hn3:((y:Int)==0)=false:=beq_eq_false_iff_ne.2 (by omega)
    have hand:=S7 x hx32;by_cases h2:x%2=1
    .have hn2:(bits BinOp.and IntKind.u32 (x:Int) 1==0)=false:=by rw[hand,h2];rfl
     clear hand;have h0:=hV0.out h3;have htr:=hTr.out h3;have hbig:ak (val L)<=32*n:=cv.2 (by rw[<-gG,HN.out];exact dR hs.ok);have HB2:Hid (b=true↔(ak (val L)<=4096 /\ -16384<=e/\e<=16384/\(ak (val L):Int)+e<=16384)):=by
      show b=true↔_;rw[HB.out,hr.out h0];simp[h1,h2,h3]
     have H2:=Lib.hid (fun w h=>H.out w h h1 htr);clear HB hr h0 htr hTr hV0 H;generalize ak (val L)=q at *
     by_cases h4:-16384<=e
     .have d4:decide (e < -16384)=false:=decide_eq_false (by omega)
      by_cases h5:e<=16384
      .have d5:decide (16384<e)=false:=decide_eq_false (by omega)
       by_cases h6:q<=4096
       .have d6:decide ((q:Int)<=4096)=true:=decide_eq_true (by omega)
        by_cases h7:(q:Int)+e<=16384
        .have d7:decide ((q:Int)+e<=16384)=true:=decide_eq_true h7
         have:=vu HB2.out ⟨h6,h4,h5,h7⟩;clear HB2;subst this;go_enter Tryz.func46,Tryz.ntmps46;go_wp2_with fail;refine(H2.out _ (hs.alloc _)).mono ?_;rintro r w' ⟨rfl,rfl⟩;go_wp2;go_ret;exact⟨rfl,Ext.alloc _ _⟩
        .have d7:decide ((q:Int)+e<=16384)=false:=decide_eq_false h7
         have:=fp HB2.out (fun h=>h7 h.2.2.2);clear HB2;subst this;go_enter Tryz.func46,Tryz.ntmps46;go_wp2_with fail;refine(H2.out _ (hs.alloc _)).mono ?_;rintro r w' ⟨rfl,rfl⟩;go_wp2;go_ret;exact⟨rfl,Ext.alloc _ _⟩
       .have d6:decide ((q:Int)<=4096)=false:=decide_eq_false (by omega)
        have:=fp HB2.out (fun h=>h6 h.1);clear HB2;subst this;go_enter Tryz.func46,Tryz.ntmps46;go_wp2_with fail;refine(H2.out _ (hs.alloc _)).mono ?_;rintro r w' ⟨rfl,rfl⟩;go_wp2;go_ret;exact⟨rfl,Ext.alloc _ _⟩
      .have d5:decide (16384<e)=true:=decide_eq_true (by omega)
       have:=fp HB2.out (fun h=>h5 h.2.2.1);clear HB2;subst this;go_enter Tryz.func46,Tryz.ntmps46;go_wp2;go_ret;exact⟨rfl,Ext.alloc _ _⟩
     .have d4:decide (e < -16384)=true:=decide_eq_true (by omega)
      have:=fp HB2.out (fun h=>h4 h.2.1);clear HB2;subst this;go_enter Tryz.func46,Tryz.ntmps46;go_wp2;go_ret;exact⟨rfl,Ext.alloc _ _⟩
    .have hn2:(bits BinOp.and IntKind.u32 (x:Int) 1==0)=true:=by rw[hand,show x%2=0 by omega];rfl
     have:b=false:=fp HB.out (fun h=>h2 h.2.1);clear HB hand hr;subst this;go_enter Tryz.func46,Tryz.ntmps46;go_wp2;go_ret;exact⟨rfl,Ext.alloc _ _⟩
  .have:b=false:=fp HB.out (fun h=>h1 h.1)
   have hn1:decide (256<(n:Int))=true:=decide_eq_true (by omega);clear HB hr;subst this;go_enter Tryz.func46,Tryz.ntmps46;go_wp2;go_ret;exact⟨rfl,Ext.alloc _ _⟩
open Go.RowKit Fp
theorem QQ(e:Int)(w:World)(b:Bool)(hb:b=true↔(-32768<=e/\e<=32768)) :
  Calls Tryz.prog 74 #[.int .i64 e] w fun r w'=>r = .returned (.bool b)/\w=w':=by
 by_cases h1:-32768<=e
 .have d1:decide (-32768<=e)=true:=by simpa using h1
  by_cases h2:e<=32768
  .have d2:decide (e<=32768)=true:=by simpa using h2
   have:=vu hb ⟨h1,h2⟩;clear hb;subst this;go_enter Tryz.func74,Tryz.ntmps74;go_wp2;go_ret;exact⟨rfl,rfl⟩
  .have d2:decide (e<=32768)=false:=by simpa using h2
   have:=fp hb (fun h=>h2 h.2);clear hb;subst this;go_enter Tryz.func74,Tryz.ntmps74;go_wp2;go_ret;exact⟨rfl,rfl⟩
 .have d1:decide (-32768<=e)=false:=by simpa using h1
  have:=fp hb (fun h=>h1 h.1);clear hb;subst this;go_enter Tryz.func74,Tryz.ntmps74;go_wp2;go_ret;exact⟨rfl,rfl⟩
theorem QN(d:Dy)(A:Option Addr)(c:Nat)(w:World)(hs:Sl w A c (af d.m))(hl:(af d.m).length<=100000000)(he1:-10000000<=d.e)(he2:d.e<=10000000)(hd:d.Valid) :
  Calls Tryz.prog 75 #[.agg #[.bool d.neg,.slice A (af d.m).length c,.int .i64 d.e]] w (ix w d 0):=by
 obtain⟨s,m,e⟩:=d;simp only at *
 have HV:=Lib.hid (fun w (h:Sl w A c (af m))=>uj s A c (af m) e w true h (by omega) (by omega) (iff_of_true rfl ((KJ ⟨s,m,e⟩).2 hd)));clear hd;go_enter Tryz.func75,Tryz.ntmps75;go_wp2_with fail;refine(HV.out _ ((hs.alloc _).alloc _)).mono ?_;rintro r w' ⟨rfl,hb⟩
 have bx:=((aJ.new w s A (af m).length c e).alloc (.cells #[.bool false,.slice none 0 0,.int .i64 0] 31)).ext hb;have by_:=(aJ.new (w.alloc (.cells #[.bool s,.slice A (af m).length c,.int .i64 e] 31)) false none 0 0 0).ext hb;have b0:=bx.c0;have b1:=bx.c1;have b2:=bx.c2;have bz:(w.alloc (.cells #[.bool s,.slice A (af m).length c,.int .i64 e] 31)).heap.size=w.heap.size+1:=by simp
 rw[bz]at by_;have c0:=by_.c0;have c1:=by_.c1;have c2:=by_.c2;have f0:=by_.fr 0;have f1:=by_.fr 1;have f2:=by_.fr 2;have hs':=((hs.alloc (.cells #[.bool s,.slice A (af m).length c,.int .i64 e] 31)).alloc (.cells #[.bool false,.slice none 0 0,.int .i64 0] 31)).below hb;have hb':Ext w w':=((Ext.alloc _ _).trans (Ext.alloc _ _)).trans hb;clear bz;go_wp2
 exact jm rfl rfl rfl rfl (by_.set _ _ _ _ _) rfl (by_.fF hs' _ _ _ _ _) (aJ.fi hb' (by omega) _ _ _ _ _)
theorem Q3(s:Bool)(A:Option Addr)(c:Nat)(L:List Nat)(e:Int)(w:World)(hs:Sl w A c L)(ht:Trim L) :
  Calls Tryz.prog 47 #[.agg #[.bool s,.slice A L.length c,.int .i64 e]] w fun r w'=>r = .returned (.int .i64 (Dy.sign ⟨s,val L,e⟩))/\Ext w w':=by
 have hl:=hs.len;by_cases h0:L=[]
 .subst h0
  go_enter Tryz.func47,Tryz.ntmps47;go_wp2;go_ret;exact⟨rfl,Ext.alloc _ _⟩
 .have hpos:0<L.length:=List.length_pos_iff.2 h0
  have hv0:val L≠0:=by have:=ht.lO h0;omega
  have ht:=Lib.hid (show Dy.sign ⟨s,val L,e⟩=if s then -1 else 1 by unfold Dy.sign;rw[if_neg hv0]);clear h0 hv0;generalize Dy.sign ⟨s,val L,e⟩=t at *
  have hn0:(((L.length:Nat):Int)==0)=false:=beq_eq_false_iff_ne.2 (by omega);cases s
  .go_enter Tryz.func47,Tryz.ntmps47
   go_wp2;go_ret;exact⟨dU (by rw[ht.out];rfl),Ext.alloc _ _⟩
  .go_enter Tryz.func47,Tryz.ntmps47
   go_wp2;go_ret;exact⟨dU (by rw[ht.out];rfl),Ext.alloc _ _⟩
theorem Q5(s:Bool)(A:Option Addr)(c:Nat)(L:List Nat)(e:Int)(w:World)(hs:Sl w A c L)(ht:Trim L)(hl:L.length<=100000)(he1:-1000000<=e)(he2:e<=1000000) :
  Calls Tryz.prog 97 #[.agg #[.bool s,.slice A L.length c,.int .i64 e]] w fun r w'=>r = .returned (.int .i64 (Dy.top ⟨s,val L,e⟩))/\Ext w w':=by
 have HS:=Lib.hid (fun w (h:Sl w A c L)=>Fc A c L w h ht (by omega));have hbig:ak (val L)<=32*L.length:=cv.2 (by rw[<-gG];exact dR hs.ok);by_cases h0:L=[]
 .subst h0
  go_enter Tryz.func97,Tryz.ntmps97;go_wp2;go_ret;exact⟨rfl,Ext.alloc _ _⟩
 .have hpos:0<L.length:=List.length_pos_iff.2 h0
  have hv0:val L≠0:=by have:=ht.lO h0;omega
  have ht:=Lib.hid (show Dy.top ⟨s,val L,e⟩=ak (val L)+e by unfold Dy.top;rw[if_neg hv0]);clear h0 hv0;generalize Dy.top ⟨s,val L,e⟩=t at *
  generalize ak (val L)=q at *
  have hw:IntKind.i64.wrap ((q:Int)+e)=q+e:=i64_in _ (by omega) (by omega);have hn0:(((L.length:Nat):Int)==0)=false:=beq_eq_false_iff_ne.2 (by omega);have hs':=hs.alloc (.cells #[.bool s,.slice A L.length c,.int .i64 e] 31);go_enter Tryz.func97,Tryz.ntmps97;go_wp2_with fail
  go_region_held3 (fun w'=>w'.cell? ⟨w.heap.size,1,none⟩=some (.slice A L.length c)/\w'.cell? ⟨w.heap.size,2,none⟩=some (.int .i64 e)) (go_keep)
   (first|(go_at_call 94;refine(HS.out _ ?_).mono ?_;(exact hs'.drew);rintro r w'' ⟨rfl,rfl⟩))
  go_wp2;go_ret;exact⟨dU (by rw[ht.out]),Below.drew (Ext.alloc _ _)⟩
theorem QX(s:Bool)(A:Option Addr)(c:Nat)(L:List Nat)(e:Int)(w:World)(hs:Sl w A c L)(ht:Trim L) :
  Calls Tryz.prog 99 #[.agg #[.bool s,.slice A L.length c,.int .i64 e]] w (kj w (aC ⟨s,val L,e⟩)):=by
 have hl:=hs.len;have HL:=Lib.hid (ht.oL hs.ok);by_cases h0:L=[]
 .subst h0
  have HZ:=Lib.hid dP;cases s
  .go_enter Tryz.func99,Tryz.ntmps99
   go_wp2;exact iN (d:=aC ⟨false,val [],e⟩) rfl rfl rfl (aJ.newAt (by simp) _ _ _ _ _) (by show _=(af 0).length;rw[HZ.out];rfl) (by show Sl _ _ _ (af 0);rw[HZ.out];exact(hs.alloc _).alloc _) ((Ext.alloc _ _).trans (Ext.alloc _ _))
  .go_enter Tryz.func99,Tryz.ntmps99
   go_wp2;exact iN (d:=aC ⟨true,val [],e⟩) rfl rfl rfl (aJ.newAt (by simp) _ _ _ _ _) (by show _=(af 0).length;rw[HZ.out];rfl) (by show Sl _ _ _ (af 0);rw[HZ.out];exact(hs.alloc _).alloc _) ((Ext.alloc _ _).trans (Ext.alloc _ _))
 .have hpos:0<L.length:=List.length_pos_iff.2 h0
  have hv0:val L≠0:=by have:=ht.lO h0;omega
  have hd:=Lib.hid (show aC ⟨s,val L,e⟩=⟨!s,val L,e⟩by unfold aC;simp[hv0]);clear h0 hv0 ht;rw[hd.out];cases s
  .go_enter Tryz.func99,Tryz.ntmps99
   go_wp2;exact iN (d:=⟨!false,val L,e⟩) rfl rfl rfl (aJ.newAt (by simp) _ _ _ _ _) (by show _=(af (val L)).length;rw[<-HL.out]) (by show Sl _ _ _ (af (val L));rw[<-HL.out];exact(hs.alloc _).alloc _) ((Ext.alloc _ _).trans (Ext.alloc _ _))
  .go_enter Tryz.func99,Tryz.ntmps99
   go_wp2;exact iN (d:=⟨!true,val L,e⟩) rfl rfl rfl (aJ.newAt (by simp) _ _ _ _ _) (by show _=(af (val L)).length;rw[<-HL.out]) (by show Sl _ _ _ (af (val L));rw[<-HL.out];exact(hs.alloc _).alloc _) ((Ext.alloc _ _).trans (Ext.alloc _ _))
open Go.RowKit Fp
theorem Kh{a b:Nat}:bH a b=0↔a=b:=by
 unfold bH;by_cases h:a<b
 .rw [if_pos h];omega
 .by_cases h':b<a
  .rw [if_neg h,if_pos h'];omega
  .rw [if_neg h,if_neg h'];omega
theorem QO(s:Bool)(A:Option Addr)(c:Nat)(L:List Nat)(e:Int)(t:Bool)(B:Option Addr)(d:Nat)(M:List Nat)(f:Int)(w:World)(b:Bool)
  (hs:Sl w A c L) (hr:Sl w B d M) (tL:Trim L) (tM:Trim M) (h1:L.length<=100000) (_h2:M.length<=100000) (hb:b=true↔(s=t/\e=f/\L=M)) :
  Calls Tryz.prog 101 #[.agg #[.bool s,.slice A L.length c,.int .i64 e],.agg #[.bool t,.slice B M.length d,.int .i64 f]] w fun r w'=>r = .returned (.bool b)/\Ext w w':=by
 have hE:Ext w ((w.alloc (.cells #[.bool s,.slice A L.length c,.int .i64 e] 31)).alloc (.cells #[.bool t,.slice B M.length d,.int .i64 f] 31)):=(Ext.alloc _ _).trans (Ext.alloc _ _);by_cases h:s=t
 .subst h
  by_cases h':e=f
  .subst h'
   have hb':b=true↔L=M:=by rw[hb];simp
   clear hb;by_cases hl:L.length=M.length
   .have HC:=Lib.hid (fun w (h:Sl w A c L) (k:Sl w B d M)=>Ff A B c d L M w h k tL tM (by omega) (by omega))
    have hv:Hid (b=(bH (val L) (val M)==0)):=by
     show b=_;refine AP hb' ?_;rw[beq_iff_eq,Kh];exact⟨fun h=>by rw[h],fun h=>Trim.ext tL tM hs.ok hr.ok h⟩
    generalize bH (val L) (val M)=v at *
    rw[<-hl]at HC hE ⊢;have hse:(e==e)=true:=by simp
    have hs2:=(hs.alloc (.cells #[.bool s,.slice A L.length c,.int .i64 e] 31)).alloc (.cells #[.bool s,.slice B L.length d,.int .i64 e] 31);have hr2:=(hr.alloc (.cells #[.bool s,.slice A L.length c,.int .i64 e] 31)).alloc (.cells #[.bool s,.slice B L.length d,.int .i64 e] 31);clear hb' hl tL tM;cases s
    .go_enter Tryz.func101,Tryz.ntmps101
     go_wp2_with fail;refine(HC.out _ hs2 hr2).mono ?_;rintro r w' ⟨rfl,hb1⟩;go_wp2;go_ret;exact⟨um hv.out.symm,hE.trans hb1⟩
    .go_enter Tryz.func101,Tryz.ntmps101
     go_wp2_with fail;refine(HC.out _ hs2 hr2).mono ?_;rintro r w' ⟨rfl,hb1⟩;go_wp2;go_ret;exact⟨um hv.out.symm,hE.trans hb1⟩
   .have:=fp hb' (fun h=>hl (by rw[h]))
    clear hb';subst this;have hne:((L.length:Int)==(M.length:Int))=false:=beq_eq_false_iff_ne.2 (by omega);generalize L.length=n at *
    generalize M.length=m at *
    cases s
    .go_enter Tryz.func101,Tryz.ntmps101
     go_wp2;go_ret;exact⟨rfl,hE⟩
    .go_enter Tryz.func101,Tryz.ntmps101
     go_wp2;go_ret;exact⟨rfl,hE⟩
  .have:=fp hb (fun h=>h' h.2.1)
   clear hb;subst this;have hne:(e==f)=false:=beq_eq_false_iff_ne.2 h';cases s
   .go_enter Tryz.func101,Tryz.ntmps101
    go_wp2;go_ret;exact⟨rfl,hE⟩
   .go_enter Tryz.func101,Tryz.ntmps101
    go_wp2;go_ret;exact⟨rfl,hE⟩
 .have:=fp hb (fun h'=>h h'.1)
  clear hb;subst this;cases s<;>cases t
  .exact absurd rfl h
  .go_enter Tryz.func101,Tryz.ntmps101
   go_wp2;go_ret;exact⟨rfl,hE⟩
  .go_enter Tryz.func101,Tryz.ntmps101
   go_wp2;go_ret;exact⟨rfl,hE⟩
  .exact absurd rfl h
open Go.RowKit Fp
theorem Sl.two(w:World)(g:Nat)(hg:w.heap.size=g)(y z:Int)(p q:Nat)(e:y=(p:Int))(e':z=(q:Int))(hp:p<4294967296)(hq:q<4294967296) :
  Sl (w.alloc (.cells #[.int .u32 y,.int .u32 z] 79)) (some ⟨g,0,none⟩) 2 [p,q]:=by
 subst e e' hg;refine⟨Nat.le_refl _,by decide,ay.cons hp (ay.cons hq ay.nil),(fun h=>by cases h),fun i y hy=>?_⟩;obtain⟨h1,h2⟩:=List.getElem?_eq_some_iff.1 hy;simp at h1;refine⟨_,_,rfl,by simp,?_⟩;rw[Nat.zero_add,World.cell?_alloc_at _ _ _ _ rfl];rcases i with _|_|i
 .simp at h2;subst h2;rfl
 .simp at h2;subst h2;rfl
 .omega
theorem QT(n:Nat)(w:World)(hn:n<4294967296) :
  Calls Tryz.prog 81 #[.int .i64 n] w (kj w (canon false n 0)):=by
 have hm:=kQ n (by omega);have hm2:(n:Int)%4294967296=n:=by omega
 rw[hm2]at hm;have hd:(n:Int)/4294967296=0:=by omega
 have hlt:¬(n:Int)<0:=by omega
 have hdl:decide ((n:Int)<0)=false:=decide_eq_false hlt;have hu:IntKind.u64.wrap (n:Int)=n:=by rw[IntKind.wrap_u64];omega
 have HC:=Lib.hid (fun(A:Option Addr) c w (h:Sl w A c [n,0])=>ug false A c [n,0] 0 w h (by simp) (by decide) (by decide));have hv:val [n,0]=n:=by simp
 rw[hv]at HC;clear hv;generalize canon false n 0=d at *
 go_enter Tryz.func81,Tryz.ntmps81;go_wp2_with fail;refine(HC.out _ _ _ (Sl.two _ _ (by simp) _ _ n 0 rfl rfl hn (by decide))).mono ?_;rintro r w1 ⟨A1,c1,rfl,hs1,hb1⟩;have hb0:Ext (w.alloc (.cells #[.bool false,.slice none 0 0,.int .i64 0] 31)) w1:=(Ext.alloc _ _).trans hb1;have bx:=(aJ.new w false none 0 0 0).ext hb0
 have b0:=bx.c0;have b1:=bx.c1;have b2:=bx.c2;have f0:=bx.fr 0;have f1:=bx.fr 1;have f2:=bx.fr 2;go_wp2;exact iN rfl rfl rfl (bx.set _ _ _ _ _) rfl (bx.fF hs1 _ _ _ _ _) (aJ.fi ((Ext.alloc _ _).trans hb0) (Nat.le_refl _) _ _ _ _ _)
open Go.RowKit Fp
end Go.Proofs.YtdgnpeddgdclhaaGreatDoor
namespace Go.Proofs.YtdgnpeddgdclhaaGreatDoor.Fp
theorem oE(s:Bool)(e:Int):canon s 0 e=aT:=by unfold canon;rw[if_pos rfl];rfl
theorem sE(s:Bool)(x:Nat)(k:Int):bS (if s then -(x:Int)else(x:Int)) k=canon s x k:=by
 unfold bS;cases s
 .have h:decide ((x:Int)<0)=false:=decide_eq_false (by omega)
  simp only[Bool.false_eq_true,if_false];rw[h,Int.natAbs_natCast]
 .by_cases h:x=0
  .subst h;simp[oE]
  .have h:decide (-(x:Int)<0)=true:=decide_eq_true (by omega)
   simp only[if_true];rw[h,Int.natAbs_neg,Int.natAbs_natCast]
theorem F9{s:Bool}{m n:Nat}{e f k:Int}(hm:m≠0)(hn:n≠0)(hk:min e f=k) :
  av ⟨s,m,e⟩ ⟨s,n,f⟩=canon s (m*2^(e-k).toNat+n*2^(f-k).toNat) k:=by
 unfold av;rw[if_neg hm,if_neg hn];simp only[hk];rw[<-sE];unfold Dy.num Dy.aZ;cases s
 .simp
 .simp;congr 1;omega
theorem F7{s t:Bool}{m n:Nat}{e f k:Int}(hm:m≠0)(hn:n≠0)(hk:min e f=k)(hs:s≠t)(hge:n*2^(f-k).toNat<=m*2^(e-k).toNat) :
  av ⟨s,m,e⟩ ⟨t,n,f⟩=canon s (m*2^(e-k).toNat-n*2^(f-k).toNat) k:=by
 unfold av;rw[if_neg hm,if_neg hn];simp only[hk];rw[<-sE];unfold Dy.num Dy.aZ;simp only;generalize m*2^(e-k).toNat=x at *
 generalize n*2^(f-k).toNat=y at *
 congr 1;cases s<;>cases t<;>simp at hs ⊢ <;> omega
theorem F8{s t:Bool}{m n:Nat}{e f k:Int}(hm:m≠0)(hn:n≠0)(hk:min e f=k)(hs:s≠t)(hlt:m*2^(e-k).toNat<n*2^(f-k).toNat) :
  av ⟨s,m,e⟩ ⟨t,n,f⟩=canon t (n*2^(f-k).toNat-m*2^(e-k).toNat) k:=by
 unfold av;rw[if_neg hm,if_neg hn];simp only[hk];rw[<-sE];unfold Dy.num Dy.aZ;simp only;generalize m*2^(e-k).toNat=x at *
 generalize n*2^(f-k).toNat=y at *
 congr 1;cases s<;>cases t<;>simp at hs ⊢ <;> omega
theorem Ov{L:List Nat}(h:ay L)(n:Nat):(af (val L*2^n)).length<=L.length+n/32+1:=by
 refine jy ?_;have h1:=dR h;rw[gG]at h1 ⊢;have h2:val L*2^n<2^(32*L.length)*2^n:=Nat.mul_lt_mul_of_pos_right h1 (Nat.pow_pos (by decide));rw[<-Nat.pow_add]at h2;exact Nat.lt_of_lt_of_le h2 (Nat.pow_le_pow_right (by decide) (by omega))
theorem Ou{a b k:Nat}(ha:(af a).length<=k)(hb:(af b).length<=k):(af (a+b)).length<=k+1:=by
 refine jy ?_;have h1:=pg ha;have h2:=pg hb;rw[Nat.pow_succ];omega
theorem cJ{a b:Nat}(h:a<=b):(af a).length<=(af b).length :=
 jy (Nat.lt_of_le_of_lt h (pg (Nat.le_refl _)))
end Go.Proofs.YtdgnpeddgdclhaaGreatDoor.Fp
namespace Go.Proofs.YtdgnpeddgdclhaaGreatDoor
open Go.RowKit Fp
def cS(a b:Dy):Dy:=canon (a.neg != b.neg) (a.m*b.m) (a.e+b.e)
theorem Oy{L:List Nat}{k:Nat}(h:ay L)(hl:L.length<=k):(af (val L)).length<=k :=
 jy (Nat.lt_of_lt_of_le (dR h) (Nat.pow_le_pow_right (by decide) hl))
end Go.Proofs.YtdgnpeddgdclhaaGreatDoor
namespace Go.Proofs.YtdgnpeddgdclhaaGreatDoor.Fp
theorem OP{d:Dy}{j k:Int}(h1:j<=k)(h2:k<=d.e):d.aZ j=d.aZ k*2^(k-j).toNat:=by
 unfold Dy.aZ;rw[Nat.mul_assoc,<-Nat.pow_add];congr 2;omega
theorem tO{d:Dy}{j k:Int}(h1:j<=k)(h2:k<=d.e):d.num j=d.num k*((2^(k-j).toNat:Nat):Int):=by
 unfold Dy.num;rw[OP h1 h2];split
 .rw [Int.natCast_mul,Int.neg_mul]
 .rw [Int.natCast_mul]
theorem jD{d:Dy}(h:d.m=0)(k:Int):d.num k=0:=by
 unfold Dy.num;rw[DA h];split<;>rfl
def ks(x y:Int):Int:=if x<y then -1 else if y<x then 1 else 0
theorem Bq(x y:Int){p:Nat}(hp:0<p):ks (x*(p:Int)) (y*(p:Int))=ks x y:=by
 unfold ks;have h:(0:Int)<(p:Int):=by omega
 have a:=@Int.mul_lt_mul_right (p:Int) x y h;have b:=@Int.mul_lt_mul_right (p:Int) y x h;simp only[a,b]
def eU(d:Dy)(k:Int):Prop:=d.m=0\/k<=d.e
theorem eU.le{d:Dy}{j k:Int}(h:eU d k)(hj:j<=k):eU d j:=by
 rcases h with h|h
 .exact .inl h
 .exact .inr (by omega)
theorem eU.num{d:Dy}{j k:Int}(h:eU d k)(hj:j<=k):d.num j=d.num k*((2^(k-j).toNat:Nat):Int):=by
 rcases h with h|h
 .rw [jD h,jD h,Int.zero_mul]
 .exact tO hj h
theorem qa{a b:Dy}{k:Int}(ha:eU a k)(hb:eU b k):aD a b=ks (a.num k) (b.num k):=by
 have e0:aD a b=ks (a.num (min a.e b.e)) (b.num (min a.e b.e)):=rfl;rw[e0];obtain⟨j,h1,h2⟩:∃ j:Int,j<=k/\j<=min a.e b.e:=⟨min k (min a.e b.e),by omega,by omega⟩
 have a1:=ha.num h1;have b1:=hb.num h1;have a2:=(show eU a (min a.e b.e)from .inr (by omega)).num h2;have b2:=(show eU b (min a.e b.e)from .inr (by omega)).num h2;rw[<-Bq _ _ (p:=2^(min a.e b.e-j).toNat) (Nat.pow_pos (by decide)),<-a2,<-b2,a1,b1,Bq _ _ (Nat.pow_pos (by decide))]
theorem OO{s:Bool}{m:Nat}{e k:Int}(h:k<=e):(canon s m e).aZ k=m*2^(e-k).toNat:=by
 unfold canon;split
 .rename_i h0;subst h0;simp[Dy.aZ]
 .rename_i h0
  unfold Dy.aZ;simp only;have e1:=qk h0
  conv=>rhs;rw[<-e1]
  rw[Nat.mul_assoc,<-Nat.pow_add];congr 2;omega
theorem nM{s:Bool}{m:Nat}{e k:Int}(h:k<=e):(canon s m e).num k=if s then -((m*2^(e-k).toNat:Nat):Int)else((m*2^(e-k).toNat:Nat):Int):=by
 by_cases h0:m=0
 .subst h0
  rw[jD (by simp[canon])];simp
 .have:(canon s m e).neg=s:=by unfold canon;rw[if_neg h0]
  unfold Dy.num;rw[OO h,this]
theorem Ed{m:Nat}{e k:Int}(h:k<=e):(canon false m e).num k=((m*2^(e-k).toNat:Nat):Int):=by
 rw[nM h];simp
theorem xG{z e k:Int}(h:k<=e):(bS z e).num k=z*((2^(e-k).toNat:Nat):Int):=by
 unfold bS;rw[nM h];by_cases hz:z<0
 .simp only[hz,decide_true,if_true]
  rw[Int.natCast_mul,<-Int.neg_mul];congr 1;omega
 .simp only[hz,decide_false]
  rw[Int.natCast_mul,show((z.natAbs:Nat):Int)=z by omega];simp
theorem mc{s:Bool}{m:Nat}{e k:Int}(h:k<=e):eU (canon s m e) k:=by
 unfold canon;split
 .exact .inl rfl
 .exact .inr (by simp only;omega)
theorem vf{z e k:Int}(h:k<=e):eU (bS z e) k:=mc h
theorem uF{a b:Dy}{k:Int}(ha:eU a k)(hb:eU b k):(av a b).num k=a.num k+b.num k:=by
 unfold av;by_cases h1:a.m=0
 .rw [if_pos h1,jD h1,Int.zero_add]
 .rw [if_neg h1]
  by_cases h2:b.m=0
  .rw [if_pos h2,jD h2,Int.add_zero]
  .rw [if_neg h2]
   have ea:k<=a.e:=by rcases ha with h|h;exact absurd h h1;exact h
   have eb:k<=b.e:=by rcases hb with h|h;exact absurd h h2;exact h
   have hm:k<=min a.e b.e:=by omega
   rw[xG hm,Int.add_mul,<-tO hm (by omega),<-tO hm (by omega)]
theorem r8{a b:Dy}{k:Int}(ha:eU a k)(hb:eU b k):eU (av a b) k:=by
 unfold av;by_cases h1:a.m=0
 .rw [if_pos h1];exact hb
 .rw [if_neg h1]
  by_cases h2:b.m=0
  .rw [if_pos h2];exact ha
  .rw [if_neg h2]
   have ea:k<=a.e:=by rcases ha with h|h;exact absurd h h1;exact h
   have eb:k<=b.e:=by rcases hb with h|h;exact absurd h h2;exact h
   exact vf (by omega)
theorem kT{a b:Dy}(ha:a.Canon)(hb:b.Canon):(av a b).Canon:=by
 unfold av;split
 .exact hb
 .split
  .exact ha
  .exact gY _ _ _
theorem vg{d:Dy}{k:Int}(h:eU d k):eU (aC d) k:=h
theorem xH{d:Dy}(k:Int):(aC d).num k = -(d.num k):=by
 by_cases h:d.m=0
 .rw [jD h,jD (by exact h)];rfl
 .exact Ee d k h
theorem BY{a b:Dy}(ha:a.Canon)(hb:b.Canon){k:Int}(h1:eU a k)(h2:eU b k)(h:a.num k=b.num k):a=b:=by
 have zero:∀ {d:Dy},d.Canon->d.m=0->d=aT:=by
  intro d hd h0;obtain⟨s,m,e⟩:=d;rcases hd with⟨x,y,z⟩|hd
  .simp only at x y z;subst x y z;rfl
  .simp only at hd h0;omega
 have nz:∀ {d:Dy},d.num k=0->d.m=0:=by
  intro d hd;by_cases h0:d.m=0
  .exact h0
  .exfalso
   have:=kB h0 k;unfold Dy.num at hd;split at hd<;>omega
 by_cases za:a.m=0
 .have zb:b.m=0:=nz (by rw[<-h];exact jD za k)
  rw[zero ha za,zero hb zb]
 .have zb:b.m≠0:=fun zb=>za (nz (by rw[h];exact jD zb k))
  have oa:a.m%2=1:=by rcases ha with⟨x,_,_⟩|x;exact absurd x za;exact x
  have ob:b.m%2=1:=by rcases hb with⟨x,_,_⟩|x;exact absurd x zb;exact x
  have ea:k<=a.e:=by rcases h1 with h|h;exact absurd h za;exact h
  have eb:k<=b.e:=by rcases h2 with h|h;exact absurd h zb;exact h
  have pa:=kB za k;have pb:=kB zb k;have hm:a.neg=b.neg/\a.aZ k=b.aZ k:=by
   unfold Dy.num at h;cases x:a.neg<;>cases y:b.neg<;>simp[x,y]at h<;>first|exact⟨rfl,by omega⟩|(exfalso;omega)
  have hc:=congrArg aY hm.2;unfold Dy.aZ at hc;rw[kW oa,kW ob]at hc;have hm2:=hm.2;unfold Dy.aZ at hm2;rw[hc]at hm2;have hmm:=Nat.eq_of_mul_eq_mul_right (Nat.pow_pos (by decide)) hm2;obtain⟨s,m,e⟩:=a;obtain⟨t,n,f⟩:=b;simp only at *
  have:e=f:=by omega
  rw[hm.1,hmm,this]
end Go.Proofs.YtdgnpeddgdclhaaGreatDoor.Fp
namespace Go.Proofs.YtdgnpeddgdclhaaGreatDoor
open Go.RowKit Fp
theorem uA(A:Option Addr)(c:Nat)(M:List Nat)(n:Int)(w:World)(hs2:Sl w A c M)(hlen:M.length<=256)(h0:0<=n)(hn:n<=65536)(hfit:(af (val M*2^n.toNat)).length<=256) :
  Calls Tryz.prog 132 #[.slice A M.length c,.int .i64 n] w (iL w (af (val M*2^n.toNat))):=by
 obtain⟨k,rfl⟩:=Int.eq_ofNat_of_zero_le h0;exact RU A c M k w hs2 hlen (by omega) hfit
set_option maxHeartbeats 8000000 in
theorem KP(s : Bool)(A : Option Addr)(c : Nat)(L : List Nat)(e : Int)(t : Bool)(B : Option Addr)(d : Nat)(M : List Nat)(f : Int)(w : World)
    (hs : Sl w A c L) (hr : Sl w B d M) (da : dL s L e) (db : dL t M f) (hL0 : val L≠0) (hM0 : val M≠0) :
    Calls Tryz.prog 80 #[.agg #[.bool s, .slice A L.length c, .int .i64 e], .agg #[.bool t, .slice B M.length d, .int .i64 f]] w fun r w' => r = .returned (.int .i64 (gZ ⟨s, val L, e⟩ ⟨t, val M, f⟩))/\Ext w w' := by
  obtain⟨he1, he2⟩ := da.exp;obtain⟨hf1, hf2⟩ := db.exp;have hl := da.len;have hm := db.len;have hE : Ext w ((w.alloc (.cells #[.bool s, .slice A L.length c, .int .i64 e] 31)).alloc (.cells #[.bool t, .slice B M.length d, .int .i64 f] 31)) := (Ext.alloc _ _).trans (Ext.alloc _ _);have bx1 := ((aJ.new w s A L.length c e).alloc (.cells #[.bool t, .slice B M.length d, .int .i64 f] 31)).drew
  have bx2 := (aJ.newAt (W := w.alloc (.cells #[.bool s, .slice A L.length c, .int .i64 e] 31)) (g := w.heap.size+1) (by simp) t B M.length d f).drew;have hsW := (hs.below hE).drew;have hrW := (hr.below hE).drew;have HE := Lib.hid (hE.trans (Ext.drew _));clear hE;have HTa := Lib.hid (fun w (h : Sl w A c L) => vY s A c L e w h da)
  have HTb := Lib.hid (fun w (h : Sl w B d M) => vY t B d M f w h db);have Hlt := Lib.hid (fun h => Bs (a := ⟨s, val L, e⟩) (b := ⟨t, val M, f⟩) hL0 hM0 h);have Hgt := Lib.hid (fun h => Br (a := ⟨s, val L, e⟩) (b := ⟨t, val M, f⟩) hL0 hM0 h);have Hta := Lib.hid (show Dy.top ⟨s, val L, e⟩=ak (val L)+e by unfold Dy.top;rw[if_neg hL0])
  have Htb := Lib.hid (show Dy.top ⟨t, val M, f⟩=ak (val M)+f by unfold Dy.top;rw[if_neg hM0]);obtain⟨k, hk⟩ : ∃ k, min e f=k := ⟨_, rfl⟩
  have hke : k<=e := by omega
  have hkf : k<=f := by omega
  have hk1 : -17000<=k := by omega
  have hkk := Lib.hid (show k=e\/k=f by omega);have hwe : IntKind.i64.wrap (e-k)=e-k := i64_in _ (by omega) (by omega);have hwf : IntKind.i64.wrap (f-k)=f-k := i64_in _ (by omega) (by omega);have HM := Lib.hid (show gZ ⟨s, val L, e⟩ ⟨t, val M, f⟩=bH (val L*2^(e-k).toNat) (val M*2^(f-k).toNat)by unfold gZ;simp only[hk];rfl)
  have Hfa := Lib.hid (show ak (val L)+e=ak (val M)+f->ak (val L*2^(e-k).toNat)<=4096 from fun h => by
    rw[fu hL0];have := da.bits;have := db.bits;have := hkk.out;omega)
  have Hfb := Lib.hid (show ak (val L)+e=ak (val M)+f->ak (val M*2^(f-k).toNat)<=4096 from fun h => by
    rw[fu hM0];have := da.bits;have := db.bits;have := hkk.out;omega)
  have HXa := Lib.hid (fun w (h : Sl w A c L) hfit => uA A c L (e-k) w h hl (by omega) (by omega) hfit);have HXb := Lib.hid (fun w (h : Sl w B d M) hfit => uA B d M (f-k) w h hm (by omega) (by omega) hfit);generalize Dy.top ⟨s, val L, e⟩=ta at *
  generalize Dy.top ⟨t, val M, f⟩=tb at *
  generalize gZ ⟨s, val L, e⟩ ⟨t, val M, f⟩=R at *
  generalize val L*2^(e-k).toNat=x at *
  generalize val M*2^(f-k).toNat=y at *
  have HC := Lib.hid (fun A B c d w (h : Sl w A c (af x)) (k : Sl w B d (af y)) hx hy => qO A B c d (af x) (af y) w h k hx hy);rw[bc, bc]at HC;clear hL0 hM0 da db hl hm;go_enter Tryz.func80, Tryz.ntmps80;go_wp2_with fail
  go_region_held3 (fun w' => w'.cell? ⟨w.heap.size, 0, none⟩=some (.bool s)/\w'.cell? ⟨w.heap.size, 1, none⟩=some (.slice A L.length c)/\w'.cell? ⟨w.heap.size, 2, none⟩=some (.int .i64 e)/\w'.cell? ⟨w.heap.size+1, 0, none⟩=some (.bool t)/\w'.cell? ⟨w.heap.size+1, 1, none⟩=some (.slice B M.length d)/\w'.cell? ⟨w.heap.size+1, 2, none⟩=some (.int .i64 f))
    (first
      | exact⟨bx1.c0, bx1.c1, bx1.c2, bx2.c0, bx2.c1, bx2.c2⟩
      | exact⟨(bx1.ext hbx).c0, (bx1.ext hbx).c1, (bx1.ext hbx).c2, (bx2.ext hbx).c0, (bx2.ext hbx).c1, (bx2.ext hbx).c2⟩
      | exact⟨(bx1.ext hby).c0, (bx1.ext hby).c1, (bx1.ext hby).c2, (bx2.ext hby).c0, (bx2.ext hby).c1, (bx2.ext hby).c2⟩
      | exact⟨(bx1.ext (hbx.trans hby)).c0, (bx1.ext (hbx.trans hby)).c1, (bx1.ext (hbx.trans hby)).c2, (bx2.ext (hbx.trans hby)).c0, (bx2.ext (hbx.trans hby)).c1, (bx2.ext (hbx.trans hby)).c2⟩
      | exact⟨(bx1.ext (hby.trans hbx)).c0, (bx1.ext (hby.trans hbx)).c1, (bx1.ext (hby.trans hbx)).c2, (bx2.ext (hby.trans hbx)).c0, (bx2.ext (hby.trans hbx)).c1, (bx2.ext (hby.trans hbx)).c2⟩
      | exact⟨(bx1.ext ((hbx.trans hby).trans hbz)).c0, (bx1.ext ((hbx.trans hby).trans hbz)).c1, (bx1.ext ((hbx.trans hby).trans hbz)).c2, (bx2.ext ((hbx.trans hby).trans hbz)).c0, (bx2.ext ((hbx.trans hby).trans hbz)).c1, (bx2.ext ((hbx.trans hby).trans hbz)).c2⟩
      | exact⟨(bx1.ext ((hby.trans hbx).trans hbz)).c0, (bx1.ext ((hby.trans hbx).trans hbz)).c1, (bx1.ext ((hby.trans hbx).trans hbz)).c2, (bx2.ext ((hby.trans hbx).trans hbz)).c0, (bx2.ext ((hby.trans hbx).trans hbz)).c1, (bx2.ext ((hby.trans hbx).trans hbz)).c2⟩)
    (first
      | (go_at_call_of 130 (Value.agg #[.bool s, .slice A L.length c, .int .i64 e])
         refine(HTa.out _ ?_).mono ?_
         (first|exact hsW|exact hsW.below hby)
         rintro r wx ⟨rfl, hbx⟩)
      | (go_at_call_of 130 (Value.agg #[.bool t, .slice B M.length d, .int .i64 f])
         refine(HTb.out _ ?_).mono ?_
         (first|exact hrW|exact hrW.below hbx)
         rintro r wy ⟨rfl, hby⟩))
  first
    | (have hxy := hbx.trans hby)
    | (have hxy := hby.trans hbx)
  have cx1 := (bx1.ext hxy).drew;have cx2 := (bx2.ext hxy).drew;have hs2 := (hsW.below hxy).drew;have hr2 := (hrW.below hxy).drew;have cx1n := (bx1.ext hxy)
  have cx2n := (bx2.ext hxy)
  have HF := Lib.hid ((HE.out.trans hxy).trans (Ext.drew _));have HFr := Lib.hid (HE.out.trans hxy);clear hbx hby hxy;by_cases h1 : ta<tb
  . have hR := Lib.hid (Hlt.out h1)
    go_wp2;go_ret;exact⟨dU hR.out.symm, HFr.out⟩
  . by_cases h2 : tb<ta
    . have hR := Lib.hid (Hgt.out h2)
      go_wp2;go_ret;exact⟨dU hR.out.symm, HFr.out⟩
    . have hte : (ak (val L) : Int)+e=ak (val M)+f := by rw[<-Hta.out, <-Htb.out];omega
      have hfa := xk (k := 128) (Hfa.out hte);have hfb := xk (k := 128) (Hfb.out hte);have HXa2 := Lib.hid (fun w h => HXa.out w h (by omega));have HXb2 := Lib.hid (fun w h => HXb.out w h (by omega));have HC2 := Lib.hid (fun A B c d w h k => HC.out A B c d w h k (by omega) (by omega));have b0 := cx1n.c0;have b1 := cx1n.c1;have b2 := cx1n.c2;have d0 := cx2n.c0
      have d1 := cx2n.c1;have d2 := cx2n.c2;clear hte hfa hfb;go_wp2_with fail
      go_region_held3 (fun w' => w'.cell? ⟨w.heap.size, 0, none⟩=some (.bool s)/\w'.cell? ⟨w.heap.size, 1, none⟩=some (.slice A L.length c)/\w'.cell? ⟨w.heap.size, 2, none⟩=some (.int .i64 e)/\w'.cell? ⟨w.heap.size+1, 0, none⟩=some (.bool t)/\w'.cell? ⟨w.heap.size+1, 1, none⟩=some (.slice B M.length d)/\w'.cell? ⟨w.heap.size+1, 2, none⟩=some (.int .i64 f))
        (first
          | exact⟨cx1.c0, cx1.c1, cx1.c2, cx2.c0, cx2.c1, cx2.c2⟩
          | exact⟨(cx1.ext hbx).c0, (cx1.ext hbx).c1, (cx1.ext hbx).c2, (cx2.ext hbx).c0, (cx2.ext hbx).c1, (cx2.ext hbx).c2⟩
          | exact⟨(cx1.ext hby).c0, (cx1.ext hby).c1, (cx1.ext hby).c2, (cx2.ext hby).c0, (cx2.ext hby).c1, (cx2.ext hby).c2⟩
          | exact⟨(cx1.ext (hbx.trans hby)).c0, (cx1.ext (hbx.trans hby)).c1, (cx1.ext (hbx.trans hby)).c2, (cx2.ext (hbx.trans hby)).c0, (cx2.ext (hbx.trans hby)).c1, (cx2.ext (hbx.trans hby)).c2⟩
          | exact⟨(cx1.ext (hby.trans hbx)).c0, (cx1.ext (hby.trans hbx)).c1, (cx1.ext (hby.trans hbx)).c2, (cx2.ext (hby.trans hbx)).c0, (cx2.ext (hby.trans hbx)).c1, (cx2.ext (hby.trans hbx)).c2⟩
          | exact⟨(cx1.ext ((hbx.trans hby).trans hbz)).c0, (cx1.ext ((hbx.trans hby).trans hbz)).c1, (cx1.ext ((hbx.trans hby).trans hbz)).c2, (cx2.ext ((hbx.trans hby).trans hbz)).c0, (cx2.ext ((hbx.trans hby).trans hbz)).c1, (cx2.ext ((hbx.trans hby).trans hbz)).c2⟩
          | exact⟨(cx1.ext ((hby.trans hbx).trans hbz)).c0, (cx1.ext ((hby.trans hbx).trans hbz)).c1, (cx1.ext ((hby.trans hbx).trans hbz)).c2, (cx2.ext ((hby.trans hbx).trans hbz)).c0, (cx2.ext ((hby.trans hbx).trans hbz)).c1, (cx2.ext ((hby.trans hbx).trans hbz)).c2⟩)
        (first
          | (go_at_call_of 132 (Value.slice A L.length c)
             refine(HXa2.out _ ?_).mono ?_
             (first|exact hs2|exact hs2.below hby)
             rintro r wx ⟨Ax, cx, rfl, hsx, hbx⟩)
          | (go_at_call_of 132 (Value.slice B M.length d)
             refine(HXb2.out _ ?_).mono ?_
             (first|exact hr2|exact hr2.below hbx)
             rintro r wy ⟨Ay, cy, rfl, hsy, hby⟩)
          | (go_at_call 131
             refine(HC2.out _ _ _ _ _ ?_ ?_).mono ?_
             (first|exact hsx.below hby|exact hsx)
             (first|exact hsy|exact hsy.below hbx)
             rintro r wz ⟨rfl, hbz⟩))
      all_goals
        go_wp2;go_ret
        (first|exact⟨dU HM.out.symm, HF.out.trans ((hbx.trans hby).trans hbz)⟩|exact⟨dU HM.out.symm, HF.out.trans ((hby.trans hbx).trans hbz)⟩)
open Go.RowKit Fp
theorem FT{d:Dy}:d.sign=0↔d.m=0:=by
 rcases pE d with⟨h1,h2⟩|⟨h1,_,h2⟩|⟨h1,_,h2⟩<;>simp[h1,h2]
theorem KN(s : Bool)(A : Option Addr)(c : Nat)(L : List Nat)(e : Int)(t : Bool)(B : Option Addr)(d : Nat)(M : List Nat)(f : Int)(w : World)
    (hs : Sl w A c L) (hr : Sl w B d M) (da : dL s L e) (db : dL t M f) :
    Calls Tryz.prog 37 #[.agg #[.bool s, .slice A L.length c, .int .i64 e], .agg #[.bool t, .slice B M.length d, .int .i64 f]] w fun r w' => r = .returned (.int .i64 (aD ⟨s, val L, e⟩ ⟨t, val M, f⟩))/\Ext w w' := by
  obtain⟨he1, he2⟩ := da.exp;obtain⟨hf1, hf2⟩ := db.exp;have HVa := Lib.hid (fun w (h : Sl w A c L) => np s A c L e w true h (by omega) (by omega) (by simp[da]));have HVb := Lib.hid (fun w (h : Sl w B d M) => np t B d M f w true h (by omega) (by omega) (by simp[db]));have HSa := Lib.hid (fun w (h : Sl w A c L) => vW s A c L e w h da)
  have HSb := Lib.hid (fun w (h : Sl w B d M) => vW t B d M f w h db);have HK := Lib.hid (fun h1 h2 w (h : Sl w A c L) (k : Sl w B d M) => KP s A c L e t B d M f w h k da db h1 h2);have HP := Lib.hid (oG ⟨s, val L, e⟩ ⟨t, val M, f⟩);have z1 : Hid (Dy.sign ⟨s, val L, e⟩=0↔val L=0) := FT;have z2 : Hid (Dy.sign ⟨t, val M, f⟩=0↔val M=0) := FT
  have hsa : Dy.sign ⟨s, val L, e⟩=0\/Dy.sign ⟨s, val L, e⟩ = -1\/Dy.sign ⟨s, val L, e⟩=1 := by
    rcases pE ⟨s, val L, e⟩with⟨_, h⟩|⟨_, _, h⟩|⟨_, _, h⟩<;>simp[h]
  have hcm : gZ ⟨s, val L, e⟩ ⟨t, val M, f⟩ = -1\/gZ ⟨s, val L, e⟩ ⟨t, val M, f⟩=0\/gZ ⟨s, val L, e⟩ ⟨t, val M, f⟩=1 := by
    unfold gZ bH;split;simp;split<;>simp
  generalize Dy.sign ⟨s, val L, e⟩=sa at *
  generalize Dy.sign ⟨t, val M, f⟩=sb at *
  generalize gZ ⟨s, val L, e⟩ ⟨t, val M, f⟩=cm at *
  generalize aD ⟨s, val L, e⟩ ⟨t, val M, f⟩=R at *
  have hw1 : IntKind.i64.wrap (sa*cm)=sa*cm := i64_in _ (by rcases hsa with rfl|rfl|rfl<;>omega) (by rcases hsa with rfl|rfl|rfl<;>omega);have HH := Lib.hid hsa;clear hsa hcm da db;go_enter Tryz.func37, Tryz.ntmps37;go_wp2_with fail;refine(HVa.out _ ((hs.alloc _).alloc _)).mono ?_;rintro r w1 ⟨rfl, hb1⟩
  have bx1 := ((aJ.new w s A L.length c e).alloc (.cells #[.bool t, .slice B M.length d, .int .i64 f] 31)).ext hb1;have bx2 := (aJ.newAt (W := w.alloc (.cells #[.bool s, .slice A L.length c, .int .i64 e] 31)) (g := w.heap.size+1) (by simp) t B M.length d f).ext hb1;have b0 := bx1.c0;have b1 := bx1.c1;have b2 := bx1.c2;have d0 := bx2.c0;have d1 := bx2.c1;have d2 := bx2.c2
  have hE := (((Ext.alloc w (.cells #[.bool s, .slice A L.length c, .int .i64 e] 31)).trans (Ext.alloc _ (.cells #[.bool t, .slice B M.length d, .int .i64 f] 31))).trans hb1)
  go_wp2_with fail;refine(HVb.out _ (hr.below hE)).mono ?_;rintro r w2 ⟨rfl, hb2⟩;have hE2 := hE.trans hb2;have bx1 := (bx1.ext hb2).drew;have bx2 := (bx2.ext hb2).drew;have hsW := (hs.below hE2).drew;have hrW := (hr.below hE2).drew;have HE := Lib.hid (hE2.trans (Ext.drew _));clear hE hE2 hb1 hb2 b0 b1 b2 d0 d1 d2;go_wp2_with fail
  go_region_held3 (fun w' => w'.cell? ⟨w.heap.size, 0, none⟩=some (.bool s)/\w'.cell? ⟨w.heap.size, 1, none⟩=some (.slice A L.length c)/\w'.cell? ⟨w.heap.size, 2, none⟩=some (.int .i64 e)/\w'.cell? ⟨w.heap.size+1, 0, none⟩=some (.bool t)/\w'.cell? ⟨w.heap.size+1, 1, none⟩=some (.slice B M.length d)/\w'.cell? ⟨w.heap.size+1, 2, none⟩=some (.int .i64 f))
    (first
      | exact⟨bx1.c0, bx1.c1, bx1.c2, bx2.c0, bx2.c1, bx2.c2⟩
      | exact⟨(bx1.ext hbx).c0, (bx1.ext hbx).c1, (bx1.ext hbx).c2, (bx2.ext hbx).c0, (bx2.ext hbx).c1, (bx2.ext hbx).c2⟩
      | exact⟨(bx1.ext hby).c0, (bx1.ext hby).c1, (bx1.ext hby).c2, (bx2.ext hby).c0, (bx2.ext hby).c1, (bx2.ext hby).c2⟩
      | exact⟨(bx1.ext (hbx.trans hby)).c0, (bx1.ext (hbx.trans hby)).c1, (bx1.ext (hbx.trans hby)).c2, (bx2.ext (hbx.trans hby)).c0, (bx2.ext (hbx.trans hby)).c1, (bx2.ext (hbx.trans hby)).c2⟩
      | exact⟨(bx1.ext (hby.trans hbx)).c0, (bx1.ext (hby.trans hbx)).c1, (bx1.ext (hby.trans hbx)).c2, (bx2.ext (hby.trans hbx)).c0, (bx2.ext (hby.trans hbx)).c1, (bx2.ext (hby.trans hbx)).c2⟩)
    (first
      | (go_at_call_of 35 (Value.agg #[.bool s, .slice A L.length c, .int .i64 e])
         refine(HSa.out _ ?_).mono ?_
         (first|exact hsW|exact hsW.below hby)
         rintro r wx ⟨rfl, hbx⟩)
      | (go_at_call_of 35 (Value.agg #[.bool t, .slice B M.length d, .int .i64 f])
         refine(HSb.out _ ?_).mono ?_
         (first|exact hrW|exact hrW.below hbx)
         rintro r wy ⟨rfl, hby⟩))
  first
    | (have hxy := hbx.trans hby)
    | (have hxy := hby.trans hbx)
  have cx1 := (bx1.ext hxy)
  have cx2 := (bx2.ext hxy)
  have hs2 := (hsW.below hxy)
  have hr2 := (hrW.below hxy)
  have HFr := Lib.hid (HE.out.trans hxy);clear hbx hby hxy;by_cases h1 : sa<sb
  . have hR := Lib.hid (show R = -1 by rw[HP.out, if_pos h1])
    go_wp2;go_ret;exact⟨dU hR.out.symm, HFr.out⟩
  . by_cases h2 : sb<sa
    . have hR := Lib.hid (show R=1 by rw[HP.out, if_neg h1, if_pos h2])
      go_wp2;go_ret;exact⟨dU hR.out.symm, HFr.out⟩
    . by_cases h3 : sa=0
      . have hR := Lib.hid (show R=0 by rw[HP.out, if_neg h1, if_neg h2, if_pos h3])
        have hz : (sa==0)=true := by simp[h3]
        go_wp2;go_ret;exact⟨dU hR.out.symm, HFr.out⟩
      . have hR := Lib.hid (show R=sa*cm by rw[HP.out, if_neg h1, if_neg h2, if_neg h3])
        have hz : (sa==0)=false := beq_eq_false_iff_ne.2 h3;have HK2 := Lib.hid (HK.out (fun h => h3 (z1.out.2 h)) (fun h => h3 (by have := z2.out.2 h;omega)));have b0 := cx1.c0;have b1 := cx1.c1;have b2 := cx1.c2;have d0 := cx2.c0;have d1 := cx2.c1;have d2 := cx2.c2;go_wp2_with fail;refine(HK2.out _ hs2 hr2).mono ?_;rintro r w3 ⟨rfl, hb3⟩;go_wp2;go_ret
        exact⟨dU hR.out.symm, HFr.out.trans hb3⟩
open Go.RowKit Fp
theorem Be{L:List Nat}(h:ay L)(hl:L.length<=256)(s:Bool)(e:Int):(af (canon s (val L) e).m).length<=100000000:=by
 unfold canon;split
 .simp [dP]
 .refine Nat.le_trans (jy (k:=256) (Nat.lt_of_le_of_lt (Nat.div_le_self _ _) ?_)) (by decide)
  exact Nat.lt_of_lt_of_le (dR h) (Nat.pow_le_pow_right (by decide) hl)
theorem Bd{L:List Nat}(h:ay L)(hl:L.length<=256)(s:Bool)(e:Int)(h1:-9000000<=e)(h2:e<=9000000):-10000000<=(canon s (val L) e).e/\(canon s (val L) e).e<=10000000:=by
 unfold canon;split
 .simp
 .rename_i h0
  have:=qc h h0;simp only;omega
theorem Q2(s:Bool)(A:Option Addr)(c:Nat)(L:List Nat)(e k:Int)(w:World)(hs:Sl w A c L)(hd:dL s L e)(hk1:-32768<=k)(hk2:k<=32768)(hr:cY (canon s (val L) (e+k))) :
  Calls Tryz.prog 31 #[.agg #[.bool s,.slice A L.length c,.int .i64 e],.int .i64 k] w (ix w (canon s (val L) (e+k)) 0):=by
 obtain⟨he1,he2⟩:=hd.exp;have hlen:=hd.len;have HV:=Lib.hid (fun w (h:Sl w A c L)=>uj s A c L e w true h (by omega) (by omega) (by simp[hd]));have HX:=Lib.hid (fun w=>QQ k w true (by simp[hk1,hk2]));have hw:IntKind.i64.wrap (e+k)=e+k:=i64_in _ (by omega) (by omega);have HC:=Lib.hid (fun w (h:Sl w A c L)=>ug s A c L (e+k) w h (by omega) (by omega) (by omega))
 have hb1:=Be hs.ok hlen s (e+k);obtain⟨hb2,hb3⟩:=Bd hs.ok hlen s (e+k) (by omega) (by omega);have hv:(canon s (val L) (e+k)).Valid:=⟨gY _ _ _,hr⟩
 have HK:=Lib.hid (fun A c w (h:Sl w A c (af (canon s (val L) (e+k)).m))=>QN _ A c w h hb1 hb2 hb3 hv);generalize canon s (val L) (e+k)=D at *
 clear hd hr hv hb1 hb2 hb3;go_enter Tryz.func31,Tryz.ntmps31;go_wp2_with fail;refine(HV.out _ ((hs.alloc _).alloc _)).mono ?_;rintro r w1 ⟨rfl,hb1⟩;have bx1:=((aJ.new w s A L.length c e).alloc (.cells #[.bool false,.slice none 0 0,.int .i64 0] 31)).ext hb1
 have bx2:=(aJ.newAt (W:=w.alloc (.cells #[.bool s,.slice A L.length c,.int .i64 e] 31)) (g:=w.heap.size+1) (by simp) false none 0 0 0).ext hb1;have b0:=bx1.c0;have b1:=bx1.c1;have b2:=bx1.c2;have hE:=(((Ext.alloc w (.cells #[.bool s,.slice A L.length c,.int .i64 e] 31)).trans (Ext.alloc _ (.cells #[.bool false,.slice none 0 0,.int .i64 0] 31))).trans hb1)
 have hsW:=hs.below hE;have HE:=Lib.hid hE;clear hE hb1;go_wp2_with fail;refine(HX.out _).mono ?_;rintro r w2 ⟨rfl,rfl⟩;go_wp2_with fail;refine(HC.out _ hsW).mono ?_;rintro r w2 ⟨A1,c1,rfl,hs1,hb2⟩;go_wp2_with fail;refine(HK.out _ _ _ hs1).mono ?_;rintro r w3 ⟨A2,c2,rfl,hs2,hb3⟩;have bz:=bx2.ext (hb2.trans hb3)
 have z0:=bz.c0;have z1:=bz.c1;have z2:=bz.c2;have f0:=bz.fr 0;have f1:=bz.fr 1;have f2:=bz.fr 2;go_wp2;exact jm rfl rfl rfl rfl (bz.set _ _ _ _ _) rfl (bz.fF hs2 _ _ _ _ _) (aJ.fi (HE.out.trans (hb2.trans hb3)) (by omega) _ _ _ _ _)
open Go.RowKit Fp
abbrev DV(d:Dy)(A:Option Addr)(c:Nat):Value:=.agg #[.bool d.neg,.slice A (af d.m).length c,.int .i64 d.e]
theorem qD{n k:Nat}(h:ak n<=32*k):(af n).length<=k:=by
 refine jy (Nat.lt_of_lt_of_le (gi _) ?_);rw[gG];exact Nat.pow_le_pow_right (by decide) h
theorem Fp.Dy.Valid.jl{d:Dy}(h:d.Valid):dL d.neg (af d.m) d.e:=by
 refine⟨jf _,qD ?_,by rw[bc];exact h⟩;rcases h.range with h0|⟨h1,_⟩
 .rw [h0];exact Nat.zero_le _
 .omega
theorem Fp.Dy.Valid.len{d:Dy}(h:d.Valid):(af d.m).length<=256:=h.jl.2.1
theorem Fp.Dy.Valid.exp{d:Dy}(h:d.Valid):-16384<=d.e/\d.e<=16384:=h.jl.exp
theorem Fp.Dy.Valid.bits{d:Dy}(h:d.Valid):ak d.m<=4096:=by have:=h.jl.bits;rwa[bc]at this
theorem Fp.Dy.Valid.Gq{d:Dy}(h:d.Valid)(h0:d.m≠0):(ak d.m:Int)+d.e<=16384:=by
 rcases h.range with h|⟨_,_,_,h⟩
 .exact absurd h h0
 .exact h
theorem aJ.all{w:World}{g n c:Nat}{s:Bool}{A:Option Addr}{e:Int}(h:aJ w g s A n c e):w.cell? ⟨g,0,none⟩=some (.bool s)/\w.cell? ⟨g,1,none⟩=some (.slice A n c)/\w.cell? ⟨g,2,none⟩=some (.int .i64 e):=⟨h.c0,h.c1,h.c2⟩
theorem aJ.nx{w:World}{g n c:Nat}{s:Bool}{A:Option Addr}{e:Int}(h:aJ w g s A n c e){g':Nat}(hne:g'≠g)(i:Nat)(v:Value):aJ (w.setCell ⟨g',i,none⟩ v) g s A n c e:=by
 unfold aJ at h ⊢;simp only[World.setCell,Array.getElem?_modify];rw[if_neg hne];exact h
theorem aJ.kx{w:World}{g n c:Nat}{s:Bool}{A:Option Addr}{e:Int}(h:aJ w g s A n c e){g':Nat}(hne:g'≠g)(v0 v1 v2:Value) :
  aJ (((w.setCell ⟨g',0,none⟩ v0).setCell ⟨g',1,none⟩ v1).setCell ⟨g',2,none⟩ v2) g s A n c e:=((h.nx hne 0 v0).nx hne 1 v1).nx hne 2 v2
def r7(d:Dy)(w:World)(v:Value)(w':World):Prop:=∃ g A c,v = .pointer (some ⟨g,0,none⟩)/\aJ w' g d.neg A (af d.m).length c d.e/\Sl w' A c (af d.m)/\Ext w w'
theorem r7.new{d:Dy}{w w':World}{A:Option Addr}{c:Nat}(hs:Sl w' A c (af d.m))(hb:Ext w w') :
  r7 d w (.pointer (some ⟨w'.heap.size,0,none⟩)) (w'.alloc (.cells #[.bool d.neg,.slice A (af d.m).length c,.int .i64 d.e] 31)) :=
 ⟨_,_,_,rfl,aJ.new _ _ _ _ _ _,hs.alloc _,hb.trans (Ext.alloc _ _)⟩
theorem r7.set{d:Dy}{w w':World}{g:Nat}{A:Option Addr}{c:Nat}(hz:aJ w' g false none 0 0 0)(hs:Sl w' A c (af d.m))(hb:Ext w w')(hg:w.heap.size<=g) :
  r7 d w (.pointer (some ⟨g,0,none⟩)) (((w'.setCell ⟨g,0,none⟩ (.bool d.neg)).setCell ⟨g,1,none⟩ (.slice A (af d.m).length c)).setCell ⟨g,2,none⟩ (.int .i64 d.e)) :=
 ⟨_,_,_,rfl,hz.set _ _ _ _ _,hz.fF hs _ _ _ _ _,aJ.fi hb hg _ _ _ _ _⟩
structure lY(d:Dy):Prop where
 len:(af d.m).length<=256
 lo:-17000<=d.e
 hi:d.e<=17000
theorem Fp.Dy.Valid.mE{d:Dy}(h:d.Valid):lY d:=⟨h.len,by have:=h.exp;omega,by have:=h.exp;omega⟩
theorem QP(a b:Dy)(A B:Option Addr)(c d:Nat)(w:World)(r:Bool)(h:Sl w A c (af a.m))(k:Sl w B d (af b.m))(ha:(af a.m).length<=100000)(hb:(af b.m).length<=100000)(hr:r=true↔a=b) :
  Calls Tryz.prog 101 #[DV a A c,DV b B d] w fun e w'=>e = .returned (.bool r)/\Ext w w' :=
 QO a.neg A c (af a.m) a.e b.neg B d (af b.m) b.e w r h k (jf _) (jf _) ha hb (by
  rw[hr];obtain⟨s,m,e⟩:=a;obtain⟨t,n,f⟩:=b;simp only[Dy.mk.injEq];constructor
  .rintro ⟨x,y,z⟩;exact⟨x,z,by rw[y]⟩
  .rintro ⟨x,y,z⟩
   have:=congrArg val z;rw[bc,bc]at this;exact⟨x,this,y⟩)
theorem KO(a b:Dy)(A B:Option Addr)(c d:Nat)(w:World)(h:Sl w A c (af a.m))(k:Sl w B d (af b.m))(ha:a.Valid)(hb:b.Valid) :
  Calls Tryz.prog 37 #[DV a A c,DV b B d] w fun e w'=>e = .returned (.int .i64 (aD a b))/\Ext w w':=by
 have:=KN a.neg A c (af a.m) a.e b.neg B d (af b.m) b.e w h k ha.jl hb.jl;rw[bc,bc]at this;exact this
theorem KL(a:Dy)(A:Option Addr)(c:Nat)(w:World)(h:Sl w A c (af a.m))(ha:a.Valid) :
  Calls Tryz.prog 295 #[DV a A c] w fun e w'=>e = .returned (.int .i64 (ak a.m))/\Ext w w':=by
 have:=KK a.neg A c (af a.m) a.e w h ha.jl;rw[bc]at this;exact this
theorem KS(a:Dy)(A:Option Addr)(c:Nat)(w:World)(h:Sl w A c (af a.m))(ha:a.Valid) :
  Calls Tryz.prog 35 #[DV a A c] w fun e w'=>e = .returned (.int .i64 a.sign)/\Ext w w':=by
 have:=vW a.neg A c (af a.m) a.e w h ha.jl;rw[bc]at this;exact this
theorem sQ(a:Dy)(A:Option Addr)(c:Nat)(w:World)(h:Sl w A c (af a.m))(ha:a.Valid) :
  Calls Tryz.prog 68 #[DV a A c] w fun e w'=>e = .returned (.bool true)/\Ext w w' :=
 np a.neg A c (af a.m) a.e w true h (by have:=ha.exp;omega) (by have:=ha.exp;omega) (by simp[ha.jl])
theorem dL.dy{s:Bool}{L:List Nat}{e:Int}(h:dL s L e){w:World}{A:Option Addr}{c:Nat}(hs:Sl w A c L):∃ d:Dy,d.Valid/\s=d.neg/\L=af d.m/\e=d.e/\val L=d.m :=
 ⟨⟨s,val L,e⟩,h.2.2,rfl,h.oL hs.ok,rfl,rfl⟩
open Go.RowKit Fp Pu
theorem Aa:∀ w w',Tb w->Below w.heap.size w w'->Tb w':=fun _ _ h hb=>h.below hb
theorem mixed:Tryz.prog.follows .mixedOrders=true:=by kernel_rfl
abbrev ae(f:FuncId)(args:List E)(res:E):Prop:=PC Tryz.prog Tb f args res
def ah(L:List Nat):E:=.sl false L.length 1 fun i _=>.v (.int .u32 ((L.getD i 0:Nat):Int))
def ag(d:Dy):E:=.agg [.v (.bool d.neg),ah (af d.m),.v (.int .i64 d.e)]
abbrev iP(z:Int):E:=.v (.int .i64 z)
abbrev bP(b:Bool):E:=.v (.bool b)
theorem jZ{bs br:Nat->Prop}{w:World}{L:List Nat}{v:Value}(hk:ay L)(h:ax bs br w (ah L) v):∃ A c,v = .slice A L.length c/\Sl w A c L:=by
 cases h with
 | sl _ _ _ _ A c f hc hm h0 hl hr cell kk =>
  refine⟨A,c,rfl,hc,hm,hk,h0,fun i x hx=>?_⟩;obtain⟨hi,hx'⟩:=List.getElem?_eq_some_iff.1 hx;obtain⟨b,o,e1,_,hlt,hcell⟩:=cell i 0 hi (by decide);have hv:=ax.bQ (kk i 0 hi (by decide));refine⟨b,o,e1,hlt,?_⟩;rw[Nat.mul_one,Nat.add_zero,hv]at hcell;rw[hcell];simp[List.getD_eq_getElem?_getD,hx]
theorem mS{B br:Nat->Prop}{w w':World}{A:Option Addr}{c:Nat}{L:List Nat}(hB:∀ b,B b->b<w.heap.size/\eo w b)(hb:Ext w w')(h:Sl w' A c L):ax B br w' (ah L) (.slice A L.length c):=by
 refine .sl false L.length 1 _ A c (fun i _=>.int .u32 ((L.getD i 0:Nat):Int)) h.cap h.fz h.none_ (fun i j _ _=>⟨rfl,fun h=>by cases h⟩) (fun i j _ _=>rfl) (fun i j hi hj=>?_) (fun i j _ _=>.v _)
 .obtain rfl:j=0:=by omega
  obtain⟨b,o,e1,hlt,hcell⟩:=h.at_ hi;have e2:L.getD i 0=L[i]:=by simp[List.getD_eq_getElem?_getD,hi]
  refine⟨b,o,e1,fun hbad=>?_,hlt,by rw[Nat.mul_one,Nat.add_zero,hcell,e2]⟩;obtain⟨h1,h2⟩:=hB b hbad;exact(h2.pn (hb.block b h1)) _ _ hcell
theorem sO{bs br:Nat->Prop}{w:World}{d:Dy}{v:Value}(h:ax bs br w (ag d) v):∃ A c,v=DV d A c/\Sl w A c (af d.m):=by
 obtain⟨vs,rfl,q⟩:=ax.ot (show ax bs br w (.agg _) v from h);obtain⟨v1,vs,rfl,h1,q⟩:=q.cK;obtain⟨v2,vs,rfl,h2,q⟩:=q.cK;obtain⟨v3,vs,rfl,h3,q⟩:=q.cK;obtain rfl:=q.fB;obtain rfl:=ax.bQ h1;obtain rfl:=ax.bQ h3;obtain⟨A,c,rfl,hs⟩:=jZ (cA _) h2;exact⟨A,c,rfl,hs⟩
theorem BV{B br:Nat->Prop}{w w':World}{A:Option Addr}{c:Nat}{d:Dy}(hB:∀ b,B b->b<w.heap.size/\eo w b)(hb:Ext w w')(h:Sl w' A c (af d.m)):ax B br w' (ag d) (DV d A c) :=
 bE.agg (.cons (.v _) (.cons (mS hB hb h) (.cons (.v _) (.nil _ _ _))))
section
variable {f:FuncId} {a b:Dy}
theorem kG(hc:∀ (vs:Array Value) (w:World),(callFunc f vs).run Tryz.prog w = .ok (.enter f vs) w){res:E}{R:World->Ending->World->Prop}
  (H:∀ A c w,Sl w A c (af a.m)->Tb w->Calls Tryz.prog f #[DV a A c] w (R w)) (hR:∀ (B:Nat->Prop) w e w',(∀ b,B b->b<w.heap.size/\eo w b)->R w e w'->∃ v,e = .returned v/\Below w.heap.size w w'/\ax B (fun _=>True) w' res v):ae f [ag a] res:=by
 refine⟨hc,fun w B vs hK hB hr=>?_⟩;obtain⟨v1,vs,rfl,h1,hr⟩:=hr.cK;obtain rfl:=hr.fB;obtain⟨A,c,rfl,s1⟩:=sO h1;exact(H A c w s1 hK).mono fun e w' h=>hR B w e w' hB h
theorem tY(hc:∀ (vs:Array Value) (w:World),(callFunc f vs).run Tryz.prog w = .ok (.enter f vs) w){res:E}{R:World->Ending->World->Prop}
  (H:∀ A c A' c' w,Sl w A c (af a.m)->Sl w A' c' (af b.m)->Tb w->Calls Tryz.prog f #[DV a A c,DV b A' c'] w (R w)) (hR:∀ (B:Nat->Prop) w e w',(∀ b,B b->b<w.heap.size/\eo w b)->R w e w'->∃ v,e = .returned v/\Below w.heap.size w w'/\ax B (fun _=>True) w' res v):ae f [ag a,ag b] res:=by
 refine⟨hc,fun w B vs hK hB hr=>?_⟩;obtain⟨v1,vs,rfl,h1,hr⟩:=hr.cK;obtain⟨v2,vs,rfl,h2,hr⟩:=hr.cK;obtain rfl:=hr.fB;obtain⟨A,c,rfl,s1⟩:=sO h1;obtain⟨A',c',rfl,s2⟩:=sO h2;exact(H A c A' c' w s1 s2 hK).mono fun e w' h=>hR B w e w' hB h
end
theorem rv{x:Value}:∀ (B:Nat->Prop) (w:World) (e:Ending) (w':World),(∀ b,B b->b<w.heap.size/\eo w b)->(e = .returned x/\Ext w w')->∃ v,e = .returned v/\Below w.heap.size w w'/\ax B (fun _=>True) w' (.v x) v :=
 fun _ _ _ _ _ h=>⟨x,h.1,h.2,.v x⟩
theorem rd{d:Dy}:∀ (B:Nat->Prop) (w:World) (e:Ending) (w':World),(∀ b,B b->b<w.heap.size/\eo w b)->kj w d e w'->∃ v,e = .returned v/\Below w.heap.size w w'/\ax B (fun _=>True) w' (ag d) v :=
 fun _ _ _ _ hB ⟨_,_,h1,h2,h3⟩=>⟨_,h1,h3,BV hB h3 h2⟩
theorem rn{d:Dy}{n:Int}:∀ (B:Nat->Prop) (w:World) (e:Ending) (w':World),(∀ b,B b->b<w.heap.size/\eo w b)->ix w d n e w'->∃ v,e = .returned v/\Below w.heap.size w w'/\ax B (fun _=>True) w' (.aq [ag d,iP n]) v :=
 fun _ _ _ _ hB ⟨_,_,h1,h2,h3⟩=>⟨_,h1,h3,bE.aq (.cons (BV hB h3 h2) (.cons (.v _) (.nil _ _ _)))⟩
theorem kf:E.le (.agg [bP false,.v (.slice none 0 0),iP 0]) (ag aT):=by
 have:ag aT = .agg [bP false,.sl false 0 1 fun i _=>.v (.int .u32 (((af 0).getD i 0:Nat):Int)),iP 0]:=by
  show E.agg [bP false,ah (af 0),iP 0]=_;unfold ah;rw[dP];rfl
 rw[this];exact .agg (.cons (.refl _) (.cons (.nil _ _ _) (.cons (.refl _) .nil)))
theorem b9(a b:Dy)(ha:a.Valid)(hb:b.Valid):ae 37 [ag a,ag b] (iP (aD a b)):=tY Tryz.call37 (fun A c A' c' w h k _=>KO a b A A' c c' w h k ha hb) rv
theorem dJ(a:Dy)(ha:a.Valid):ae 35 [ag a] (iP a.sign):=kG Tryz.call35 (fun A c w h _=>KS a A c w h ha) rv
theorem fg(a:Dy)(ha:a.Valid):ae 68 [ag a] (bP true):=kG Tryz.call68 (fun A c w h _=>sQ a A c w h ha) rv
theorem sM(a:Dy)(ha:a.Valid):ae 295 [ag a] (iP (ak a.m)):=kG Tryz.call295 (fun A c w h _=>KL a A c w h ha) rv
open Go.RowKit Fp Pu
def TT:List TI:=[
 ⟨3,.int .i64,⟨.int .i64, "int", 1,8,false,8,8,some (.int .i64 0),true,#[]⟩⟩,
 ⟨4,.bool,⟨.bool, "bool", 1,1,false,1,1,some (.bool false),true,#[]⟩⟩,
 ⟨5,.int .u8,⟨.int .u8, "uint8", 1,1,false,1,1,some (.int .u8 0),true,#[]⟩⟩,
 ⟨9,.string,⟨.string, "string", 1,16,true,8,8,some (.string ⟨#[]⟩),true,#[]⟩⟩,
 ⟨22,.slice 99,⟨.slice 99, "[]api.Op", 1,24,true,8,8,some (.slice none 0 0),false,#[]⟩⟩,
 ⟨23,.slice 3,⟨.slice 3, "[]int", 1,24,true,8,8,some (.slice none 0 0),false,#[]⟩⟩,
 ⟨25,.struct #[⟨"Ins", 3,0,false, "", "", 0⟩,⟨"Ops", 22,1,false, "", "", 8⟩,⟨"Outs", 23,2,false, "", "", 32⟩],⟨.named "flowpipe/api.Tape" 24, "api.Tape", 3,56,true,8,8,some (.agg #[.int .i64 0,.slice none 0 0,.slice none 0 0]),false,#[]⟩⟩,
 ⟨26,.slice 41,⟨.slice 41, "[]api.Interval", 1,24,true,8,8,some (.slice none 0 0),false,#[]⟩⟩,
 ⟨28,.struct #[⟨"Tape", 25,0,false, "", "", 0⟩,⟨"States", 3,3,false, "", "", 56⟩,⟨"Params", 26,4,false, "", "", 64⟩],⟨.named "flowpipe/api.System" 27, "api.System", 5,88,true,8,8,some (.agg #[.int .i64 0,.slice none 0 0,.slice none 0 0,.int .i64 0,.slice none 0 0]),false,#[]⟩⟩,
 ⟨29,.slice 79,⟨.slice 79, "[]uint32", 1,24,true,8,8,some (.slice none 0 0),false,#[]⟩⟩,
 ⟨31,.struct #[⟨"Neg", 4,0,false, "", "", 0⟩,⟨"M", 29,1,false, "", "", 8⟩,⟨"E", 3,2,false, "", "", 32⟩],⟨.named "flowpipe/api.Dyadic" 30, "api.Dyadic", 3,40,true,8,8,some (.agg #[.bool false,.slice none 0 0,.int .i64 0]),false,#[]⟩⟩,
 ⟨34,.func #[26] #[4] false,⟨.func #[26] #[4] false, "func([]api.Interval) bool", 1,8,true,8,8,some (.nilFunc),false,#[]⟩⟩,
 ⟨41,.struct #[⟨"Lo", 31,0,false, "", "", 0⟩,⟨"Hi", 31,3,false, "", "", 40⟩,⟨"All", 4,6,false, "", "", 80⟩],⟨.named "flowpipe/api.Interval" 40, "api.Interval", 7,88,true,8,8,some (.agg #[.bool false,.slice none 0 0,.int .i64 0,.bool false,.slice none 0 0,.int .i64 0,.bool false]),false,#[]⟩⟩,
 ⟨42,.func #[41] #[4] false,⟨.func #[41] #[4] false, "func(api.Interval) bool", 1,8,true,8,8,some (.nilFunc),false,#[]⟩⟩,
 ⟨45,.int .i64,⟨.named "flowpipe/api.Errno" 3, "api.Errno", 1,8,false,8,8,some (.int .i64 0),true,#[]⟩⟩,
 ⟨49,.slice 5,⟨.slice 5, "[]uint8", 1,24,true,8,8,some (.slice none 0 0),false,#[]⟩⟩,
 ⟨62,.func #[31,3] #[31,45] false,⟨.func #[31,3] #[31,45] false, "func(api.Dyadic, int) (api.Dyadic, api.Errno)", 1,8,true,8,8,some (.nilFunc),false,#[]⟩⟩,
 ⟨67,.func #[41,41,3] #[41] false,⟨.func #[41,41,3] #[41] false, "func(api.Interval, api.Interval, int) api.Interval", 1,8,true,8,8,some (.nilFunc),false,#[]⟩⟩,
 ⟨68,.func #[3] #[4] false,⟨.func #[3] #[4] false, "func(int) bool", 1,8,true,8,8,some (.nilFunc),false,#[]⟩⟩,
 ⟨71,.func #[41,41] #[4] false,⟨.func #[41,41] #[4] false, "func(api.Interval, api.Interval) bool", 1,8,true,8,8,some (.nilFunc),false,#[]⟩⟩,
 ⟨79,.int .u32,⟨.int .u32, "uint32", 1,4,false,4,4,some (.int .u32 0),true,#[]⟩⟩,
 ⟨87,.slice 26,⟨.slice 26, "[][]api.Interval", 1,24,true,8,8,some (.slice none 0 0),false,#[]⟩⟩,
 ⟨97,.struct #[⟨"N", 3,0,false, "", "", 0⟩,⟨"D", 3,1,false, "", "", 8⟩],⟨.named "flowpipe/api.Ratio" 96, "api.Ratio", 2,16,false,8,8,some (.agg #[.int .i64 0,.int .i64 0]),true,#[]⟩⟩,
 ⟨99,.struct #[⟨"Kind", 3,0,false, "", "", 0⟩,⟨"A", 3,1,false, "", "", 8⟩,⟨"B", 3,2,false, "", "", 16⟩,⟨"N", 3,3,false, "", "", 24⟩,⟨"C", 97,4,false, "", "", 32⟩],⟨.named "flowpipe/api.Op" 98, "api.Op", 6,48,false,8,8,some (.agg #[.int .i64 0,.int .i64 0,.int .i64 0,.int .i64 0,.int .i64 0,.int .i64 0]),true,#[]⟩⟩,
 ⟨108,.slice 110,⟨.slice 110, "[][2]api.Dyadic", 1,24,true,8,8,some (.slice none 0 0),false,#[]⟩⟩,
 ⟨110,.array 2 31,⟨.array 2 31, "[2]api.Dyadic", 6,80,true,8,8,some (.agg #[.bool false,.slice none 0 0,.int .i64 0,.bool false,.slice none 0 0,.int .i64 0]),false,#[]⟩⟩,
 ⟨123,.int .u64,⟨.int .u64, "uint64", 1,8,false,8,8,some (.int .u64 0),true,#[]⟩⟩,
 ⟨124,.int .u64,⟨.int .u64, "uint", 1,8,false,8,8,some (.int .u64 0),true,#[]⟩⟩,
 ⟨129,.func #[31,31,3] #[31,45] false,⟨.named "flowpipe/interval.rounded" 91, "interval.rounded", 1,8,true,8,8,some (.nilFunc),false,#[]⟩⟩,
 ⟨130,.array 4 110,⟨.array 4 110, "[4][2]api.Dyadic", 24,320,true,8,8,some (.agg #[.bool false,.slice none 0 0,.int .i64 0,.bool false,.slice none 0 0,.int .i64 0,.bool false,.slice none 0 0,.int .i64 0,.bool false,.slice none 0 0,.int .i64 0,.bool false,.slice none 0 0,.int .i64 0,.bool false,.slice none 0 0,.int .i64 0,.bool false,.slice none 0 0,.int .i64 0,.bool false,.slice none 0 0,.int .i64 0]),false,#[]⟩⟩,
 ⟨148,.struct #[⟨"m", 29,0,false, "", "flowpipe/round", 0⟩,⟨"e", 3,1,false, "", "flowpipe/round", 24⟩,⟨"more", 4,2,false, "", "flowpipe/round", 32⟩],⟨.named "flowpipe/round.exact" 147, "round.exact", 3,40,true,8,8,some (.agg #[.slice none 0 0,.int .i64 0,.bool false]),false,#[]⟩⟩,
 ⟨161,.slice 29,⟨.slice 29, "[][]uint32", 1,24,true,8,8,some (.slice none 0 0),false,#[]⟩⟩,
 ⟨163,.func #[29] #[4] false,⟨.func #[29] #[4] false, "func([]uint32) bool", 1,8,true,8,8,some (.nilFunc),false,#[]⟩⟩,
 ⟨168,.struct #[⟨"o", 99,0,false, "", "flowpipe/gradient", 0⟩,⟨"v", 41,6,false, "", "flowpipe/gradient", 48⟩,⟨"a", 41,13,false, "", "flowpipe/gradient", 136⟩,⟨"b", 41,20,false, "", "flowpipe/gradient", 224⟩,⟨"da", 41,27,false, "", "flowpipe/gradient", 312⟩,⟨"db", 41,34,false, "", "flowpipe/gradient", 400⟩,⟨"p", 3,41,false, "", "flowpipe/gradient", 488⟩],⟨.named "flowpipe/gradient.node" 167, "gradient.node", 42,496,true,8,8,some (.agg #[.int .i64 0,.int .i64 0,.int .i64 0,.int .i64 0,.int .i64 0,.int .i64 0,.bool false,.slice none 0 0,.int .i64 0,.bool false,.slice none 0 0,.int .i64 0,.bool false,.bool false,.slice none 0 0,.int .i64 0,.bool false,.slice none 0 0,.int .i64 0,.bool false,.bool false,.slice none 0 0,.int .i64 0,.bool false,.slice none 0 0,.int .i64 0,.bool false,.bool false,.slice none 0 0,.int .i64 0,.bool false,.slice none 0 0,.int .i64 0,.bool false,.bool false,.slice none 0 0,.int .i64 0,.bool false,.slice none 0 0,.int .i64 0,.bool false,.int .i64 0]),false,#[]⟩⟩,
 ⟨170,.slice 31,⟨.slice 31, "[]api.Dyadic", 1,24,true,8,8,some (.slice none 0 0),false,#[]⟩⟩,
 ⟨201,.struct #[⟨"p", 3,0,false, "", "flowpipe/exponent", 0⟩],⟨.named "flowpipe/exponent.work" 200, "exponent.work", 1,8,false,8,8,some (.agg #[.int .i64 0]),true,#[⟨"flowpipe/exponent.add", 136,#[],some (308,false)⟩,⟨"flowpipe/exponent.div", 136,#[],some (307,false)⟩,⟨"flowpipe/exponent.exp", 177,#[],some (320,false)⟩,⟨"flowpipe/exponent.halved", 179,#[],some (306,false)⟩,⟨"flowpipe/exponent.log", 177,#[],some (309,false)⟩,⟨"flowpipe/exponent.mul", 136,#[],some (310,false)⟩,⟨"flowpipe/exponent.small", 42,#[],some (322,false)⟩]⟩⟩,
 ⟨209,.struct #[⟨"neg", 4,0,false, "", "flowpipe/circle", 0⟩,⟨"m", 29,1,false, "", "flowpipe/circle", 8⟩],⟨.named "flowpipe/circle.fix" 208, "circle.fix", 2,32,true,8,8,some (.agg #[.bool false,.slice none 0 0]),false,#[⟨"flowpipe/circle.add", 220,#[],some (335,false)⟩,⟨"flowpipe/circle.by", 216,#[],some (342,false)⟩,⟨"flowpipe/circle.minus", 214,#[],some (326,false)⟩,⟨"flowpipe/circle.times", 217,#[],some (332,false)⟩,⟨"flowpipe/circle.zero", 32,#[],some (336,false)⟩]⟩⟩,
 ⟨220,.func #[209] #[209] false,⟨.func #[209] #[209] false, "func(circle.fix) circle.fix", 1,8,true,8,8,some (.nilFunc),false,#[]⟩⟩]
theorem ve:cD Tryz.prog TT:=r6.ok ⟨⟨Tryz.underlying3,by kernel_rfl⟩,⟨Tryz.underlying4,by kernel_rfl⟩,⟨Tryz.underlying5,by kernel_rfl⟩,⟨Tryz.underlying9,by kernel_rfl⟩,⟨Tryz.underlying22,by kernel_rfl⟩,⟨Tryz.underlying23,by kernel_rfl⟩,⟨Tryz.underlying25,by kernel_rfl⟩,⟨Tryz.underlying26,by kernel_rfl⟩,⟨Tryz.underlying28,by kernel_rfl⟩,⟨Tryz.underlying29,by kernel_rfl⟩,⟨Tryz.underlying31,by kernel_rfl⟩,⟨Tryz.underlying34,by kernel_rfl⟩,⟨Tryz.underlying41,by kernel_rfl⟩,⟨Tryz.underlying42,by kernel_rfl⟩,⟨Tryz.underlying45,by kernel_rfl⟩,⟨Tryz.underlying49,by kernel_rfl⟩,⟨Tryz.underlying62,by kernel_rfl⟩,⟨Tryz.underlying67,by kernel_rfl⟩,⟨Tryz.underlying68,by kernel_rfl⟩,⟨Tryz.underlying71,by kernel_rfl⟩,⟨Tryz.underlying79,by kernel_rfl⟩,⟨Tryz.underlying87,by kernel_rfl⟩,⟨Tryz.underlying97,by kernel_rfl⟩,⟨Tryz.underlying99,by kernel_rfl⟩,⟨Tryz.underlying108,by kernel_rfl⟩,⟨Tryz.underlying110,by kernel_rfl⟩,⟨Tryz.underlying123,by kernel_rfl⟩,⟨Tryz.underlying124,by kernel_rfl⟩,⟨Tryz.underlying129,by kernel_rfl⟩,⟨Tryz.underlying130,by kernel_rfl⟩,⟨Tryz.underlying148,by kernel_rfl⟩,⟨Tryz.underlying161,by kernel_rfl⟩,⟨Tryz.underlying163,by kernel_rfl⟩,⟨Tryz.underlying168,by kernel_rfl⟩,⟨Tryz.underlying170,by kernel_rfl⟩,⟨Tryz.underlying201,by kernel_rfl⟩,⟨Tryz.underlying209,by kernel_rfl⟩,⟨Tryz.underlying220,by kernel_rfl⟩,trivial⟩
end Go.Proofs.YtdgnpeddgdclhaaGreatDoor
namespace Go.Proofs.YtdgnpeddgdclhaaGreatDoor.Pu
open Go.RowKit
def E.fP:E->Nat->Nat->E
 | .sl _ _ _ el,i,j=>el i j
 | _,_,_=>.any
section
variable {P:Program} {K:World->Prop}
theorem Sp.pre{c:Code}{σ τ:PS}{Q:Ex->PS->Prop}(h:PS.le σ τ)(k:Sp P K c τ Q):Sp P K c σ Q:=fun w0 B a w L g r =>
 let⟨L',r'⟩:=h w0 B a w L (fun b hb=>(g.hB b hb).1) r;k w0 B a w L' g r'
theorem Sp.post{c:Code}{σ:PS}{Q Q':Ex->PS->Prop}(h:Sp P K c σ Q)(k:∀ e τ,Q e τ->∃ τ',PS.le τ τ'/\Q' e τ'):Sp P K c σ Q':=fun w0 B a w L g r =>
 Code.wp_mono (fun _ _ _ ⟨ex,τ,L',h1,h2,h3⟩=>let⟨τ',q1,q2⟩:=k ex τ h2;let⟨L2,r2⟩:=q1 w0 B _ _ L' (fun b hb=>(g.hB b hb).1) h3;⟨ex,τ',L2,h1,q2,r2⟩) (h w0 B a w L g r)
theorem Sp.to{c:Code}{σ τ τ':PS}{e:Ex}(h:Sp P K c σ (fun e' υ=>e'=e/\υ=τ))(k:PS.le τ τ'):Sp P K c σ (fun e' υ=>e'=e/\υ=τ') :=
 h.post fun _ _ ⟨h1,h2⟩=>⟨τ',h2▸k,h1,rfl⟩
theorem Sp.Ma{α:Type}(f:α->PS)(p:α->Prop)(m:α->Nat){b:Code}{e:Ex}{τ:PS}
  (step:∀ x,p x->Sp P K b (f x) (fun e' υ=>(e' = .normal/\∃ y,p y/\m y<m x/\υ=f y)\/(e' ≠ .normal/\e'=e/\υ=τ))) {σ:PS} (x:α) (hx:p x) (h0:PS.le σ (f x)) :
  Sp P K (.loop b) σ (fun e' υ=>e'=e/\υ=τ):=by
 refine Sp.pre h0 ?_;refine Sp.loop (Q:=fun e' υ=>e'=e/\υ=τ) (fun n σ=>∃ x,p x/\m x=n/\σ=f x) (fun n σ ⟨x,h1,h2,h3⟩=>?_) (m x) (f x) ⟨x,hx,rfl,rfl⟩;subst h3 h2;exact(step x h1).mono fun e' υ h=>h.imp (fun⟨q1,y,q2,q3,q4⟩=>⟨q1,m y,q3,y,q2,rfl,q4⟩) id
theorem Sp.Mb{α:Type}{f:α->PS}{p:α->Prop}{m:α->Nat}{b:Code}{e:Ex}{τ υ:PS}{x:α}(y:α)(h:Sp P K b (f x) (fun e' υ'=>e' = .normal/\υ'=υ))(hy:p y)(hm:m y<m x)(hl:PS.le υ (f y)) :
  Sp P K b (f x) (fun e' υ=>(e' = .normal/\∃ y,p y/\m y<m x/\υ=f y)\/(e' ≠ .normal/\e'=e/\υ=τ)) :=
 h.post fun _ _ ⟨h1,h2⟩=>⟨f y,h2▸hl,.inl ⟨h1,y,hy,hm,rfl⟩⟩
theorem Sp.Mc{α:Type}{f:α->PS}{p:α->Prop}{m:α->Nat}{b:Code}{e:Ex}{τ υ:PS}{x:α}(h:Sp P K b (f x) (fun e' υ'=>e'=e/\υ'=υ))(he:e ≠ .normal)(hl:PS.le υ τ) :
  Sp P K b (f x) (fun e' υ=>(e' = .normal/\∃ y,p y/\m y<m x/\υ=f y)\/(e' ≠ .normal/\e'=e/\υ=τ)) :=
 h.post fun _ _ ⟨h1,h2⟩=>⟨τ,h2▸hl,.inr ⟨h1▸he,h1,rfl⟩⟩
end
def mC(k:Nat):Code->Option Code
 | .loop b=>if Nat.beq (oW b) k then some b else mC k b
 | .seq a b=>match mC k a with
  | some c=>some c
  | none=>mC k b
 | .cond _ a b=>match mC k a with
  | some c=>some c
  | none=>mC k b
 | .block _ b=>mC k b
 | .scope b=>mC k b
 | _=>none
def IZ(k:Nat)(fn:Func):Code:=((fn.body.bind (mC k)).getD .skip)
theorem Bx.le.of_eq{a b:Bx}(h:a=b):Bx.le a b:=h▸Bx.le.refl a
theorem Bx.le.cells{T:TypeId}{l m:List E}(hn:(l.all E.dv=true->m.all E.dv=true))(h:iu l m):Bx.le (.cells T l) (.cells T m):=⟨hn,fun _ _ _ _ _ ⟨b,vs,h1,h2,h3,h4,h5⟩=>⟨b,vs,h1,h2,h3,h.uk h4,h5⟩⟩
theorem Bx.le.row{nl:Bool}{T:TypeId}{n n' sz:Nat}{el el':Nat->Nat->E}(hn:n=n')(h:∀ i j,i<n->j<sz->E.le (el i j) (el' i j)/\(el' i j).nr 2=true):Bx.le (.row nl T n sz el) (.row nl T n' sz el') :=
 ⟨id,fun _ _ _ _ _ ⟨f,h1,h2,h3⟩=>by subst hn;exact⟨f,h1,h2,fun i j hi hj=>⟨(h i j hi hj).1 _ _ _ _ (h3 i j hi hj).1,(h i j hi hj).2⟩⟩⟩
theorem Bx.le.rows{nl:Bool}{T1 T0:TypeId}{n n' sz:Nat}{len len':Nat->Nat}{el el':Nat->Nat->Nat->E}{pend:Option Nat}(hn:n=n')(hl:∀ k,k<n->len k=len' k)
  (h:∀ k i j,k<n->i<len k->j<sz->E.le (el k i j) (el' k i j)/\(el' k i j).nr 2=true):Bx.le (.rows nl T1 T0 n sz len el pend) (.rows nl T1 T0 n' sz len' el' pend) :=
 ⟨id,fun _ _ _ _ _ ⟨b,c,cur,f,h1,h2,h3,h4,h5,h6,h7,h8,h9,h10,h11⟩=>by
  subst hn;refine⟨b,c,cur,f,h1,h2,h3,h4,h5,h6,h7,fun k hk=>?_,h9,h10,h11⟩;rw[<-hl k hk];exact⟨(h8 k hk).1,fun i j hi hj=>⟨(h k i j hk hi hj).1 _ _ _ _ ((h8 k hk).2 i j hi hj).1,(h k i j hk hi hj).2⟩⟩⟩
theorem PS.le.N9{σ τ:PS}(hn:σ.n=τ.n)(hnl:(τ.b.all fun x=>x.2.nl)=true)(hr:px τ=true)(ht:kg σ τ.t)(hb:jK σ τ.b):PS.le σ τ:=fun w0 B a w L _ r=>by
 let L':Lk:=⟨fun id=>L.live id/\(τ.bo id).isSome=true,fun id x=>L.own id x/\(τ.bo id).isSome=true,L.val,L.aL⟩
 have hlt:gN L w L' w:=⟨Nat.le_refl _,fun x _ ⟨id,h,_⟩=>⟨id,h⟩,fun _ _ _=>rfl⟩
 refine⟨L',r.hd,by rw[<-hn];exact r.hs,fun t=>?_,fun id b h=>?_,fun id=>?_,fun id x h=>⟨r.hn id x h.1,h.2⟩,fun id x h=>r.hw id x h.1,fun id id' x h k=>r.hi id id' x h.1 k.1,r.he,fun h id b k=>?_⟩
 .have hg:τ.get t=((look τ.t t)).getD (.e .any):=rfl
  cases hl:look τ.t t with
  | none=>rw[hg,hl];exact .any _
  | some p =>
   rw[hg,hl];have:=ht.get hl _ _ _ _ _ (r.ht t);refine dI.move hlt this fun id hid hlive=>⟨⟨hlive,?_⟩,rfl,fun _=>rfl⟩
   have q:=List.all_eq_true.1 hr _ (xp hl);exact List.all_eq_true.1 q id hid
 .obtain ⟨b',h1,h2⟩:=hb.get h
  have hs:(τ.bo id).isSome=true:=by rw[h];rfl
  exact(h2.2 _ _ _ _ _ (r.hb id b' h1)).later hlt rfl (fun x=>⟨fun q=>q.1,fun q=>⟨q,hs⟩⟩) (fun _=>rfl) fun _ _=>rfl
 .show L.live id/\(τ.bo id).isSome=true↔(τ.bo id).isSome=true
  refine⟨fun h=>h.2,fun h=>⟨(r.hv id).2 ?_,h⟩⟩;obtain⟨b,hbo⟩:=Option.isSome_iff_exists.1 h;obtain⟨b',h1,_⟩:=hb.get hbo;rw[h1];rfl
 .exact List.all_eq_true.1 hnl _ (xp k)
def PV.ky(id:Nat)(e:E)(p:PV):PV:=match p with
 | .own i=>if Nat.beq i id then .e e else .own i
 | p=>if p.refs.any (Nat.beq id)then .e .any else p
def PS.ky(σ:PS)(id:Nat)(e:E):PS:={ σ with t:=σ.t.map fun x=>(x.1,x.2.ky id e),b:=σ.b.filter fun x=>!Nat.beq x.1 id }
def Bx.as:Bx->Option E
 | .row nl _ n sz el=>some (.sl nl n sz el)
 | .rows nl _ _ n sz len el none=>some (.sl true n 1 fun k _=>.sl nl (len k) sz (el k))
 | _=>none
theorem PS.le.freeze{σ:PS}(id:Nat){b:Bx}{e:E}(hbo:σ.bo id=some b)(he:b.as=some e):PS.le σ (σ.ky id e):=fun w0 B a w L hB r=>by
 let L':Lk:=⟨fun i=>L.live i/\i≠id,fun i x=>L.own i x/\i≠id,L.val,L.aL⟩
 have hlt:gN L w L' w:=⟨Nat.le_refl _,fun x _ ⟨i,h,_⟩=>⟨i,h⟩,fun _ _ _=>rfl⟩
 have hbo':∀ i,(σ.ky id e).bo i=if i=id then none else σ.bo i:=by
  intro i;unfold PS.bo PS.ky;by_cases h:i=id
  .subst h;simp only[if_true];exact Dr _ _
  .rw [if_neg h];exact qF _ _ _ (fun e=>h e.symm)
 have hbad:∀ x,L.own id x->¬bad B L' x:=by
  rintro x hx (h|⟨i,h1,h2⟩)
  .have:=hB x h;have:=(r.hw id x hx).1;omega
  .exact h2 (r.hi i id x h1 hx)
 have own:∀ (v:Value) (T:TypeId) (n sz:Nat) (f:Nat->Nat->Value) (nl:Bool) (el:Nat->Nat->E),fl w v T n sz f nl->(∀ x,v.ownBlock=some x->L.own id x) ->
   (∀ i j,i<n->j<sz->ax (bad B L) (bu L) w (el i j) (f i j)/\(el i j).nr 2=true)->ax (bad B L') (bu L') w (.sl nl n sz el) v:=by
  intro v T n sz f nl el h1 h2 h3;rcases h1 with⟨rfl,rfl⟩|⟨b,c,cur,rfl,hg,hnc,hcm,hcs,hcell,hnl⟩
  .exact .sl nl 0 sz el none 0 f (Nat.le_refl _) (by decide) (fun _=>rfl) (fun i j hi=>absurd hi (Nat.not_lt_zero i)) (fun i j hi=>absurd hi (Nat.not_lt_zero i)) (fun i j hi=>absurd hi (Nat.not_lt_zero i)) (fun i j hi=>absurd hi (Nat.not_lt_zero i))
  .have hob:=h2 b rfl
   refine .sl nl n sz el _ c f hnc (by unfold maxLen at hcm;omega) (fun h=>by cases h) (fun i j hi hj=>⟨(hcell i j hi hj).2,fun hn=>hnl hn _ (Array.mem_of_getElem? (hcell i j hi hj).1)⟩) (fun i j hi hj=>(h3 i j hi hj).2)
    (fun i j hi hj=>⟨b,0,rfl,hbad b hob,(r.hw id b hob).2,?_⟩) (fun i j hi hj=>hlt.rep (h3 i j hi hj).1)
   rw[Nat.zero_add];simp only[World.cell?,hg];simpa using(hcell i j hi hj).1
 have hold:∀ v,v=L.val id->ax (bad B L') (bu L') w e v:=by
  rintro v rfl;have hbk:=r.hb id b hbo;cases b with
  | cells T l=>cases he
  | row nl T n sz el =>
   cases he;obtain⟨f,h1,h2,h3⟩:=hbk;exact own _ T n sz f nl el h1 (fun x hx=>(h2 x).2 hx) h3
  | rows nl T1 T0 n sz len el pend =>
   cases pend with
   | some k=>cases he
   | none =>
    cases he;obtain⟨b,c,cur,f,h1,h2,h3,h4,h5,h6,h7,h8,h9,h10,h11⟩:=hbk;have hob:L.own id b:=(h9 b).2 (.inl rfl);rw[h1];refine .sl true n 1 _ _ c (fun k _=>L.aL id k) h3 (by unfold maxLen at h4;omega) (fun h=>by cases h) (fun k j hk hj=>?_) (fun k j hk hj=>rfl)
     (fun k j hk hj=>⟨b,0,rfl,hbad b hob,(r.hw id b hob).2,?_⟩) (fun k j hk hj=>own _ T0 (len k) sz (f k) nl (el k) (h8 k hk).1 (fun x hx=>(h9 x).2 (.inr ⟨k,hk,hx⟩)) (h8 k hk).2)
    .obtain ⟨q1,q2⟩:=h7 _ (Array.mem_of_getElem? (h6 k hk (by simp)))
     exact⟨q1,fun _=>q2⟩
    .rw [Nat.zero_add,Nat.mul_one]
     obtain rfl:j=0:=by omega
     simp only[World.cell?,h2];simpa using h6 k hk (by simp)
 refine⟨L',r.hd,r.hs,fun t=>?_,fun i b' h=>?_,fun i=>?_,fun i x h=>⟨r.hn i x h.1,h.2⟩,fun i x h=>r.hw i x h.1,fun i i' x h k=>r.hi i i' x h.1 k.1,r.he,fun h i b' k=>?_⟩
 .have hg:(σ.ky id e).get t=(σ.get t).ky id e:=by
   unfold PS.get PS.ky;rw[Ds];cases look σ.t t<;>rfl
  rw[hg];have k:=r.ht t;generalize σ.get t=p at k;have move:∀ (p:PV) (v:Value),dI (bad B L) (bu L) L w p v->(p.refs.any (Nat.beq id))=false->dI (bad B L') (bu L') L' w p v:=by
   intro p v k hp;refine dI.move hlt k fun i hi hlive=>⟨⟨hlive,?_⟩,rfl,fun _=>rfl⟩
   rintro rfl;have:=List.any_eq_false.1 hp i hi;simp at this
  have gen:∀ (p:PV) (v:Value),dI (bad B L) (bu L) L w p v->dI (bad B L') (bu L') L' w (if p.refs.any (Nat.beq id)then .e .any else p) v:=by
   intro p v k;cases hp:p.refs.any (Nat.beq id)with
   | true=>exact .any _
   | false=>exact move p v k hp
  cases p with
  | own i =>
   simp only[PV.ky];by_cases hi:i=id
   .subst hi
    rw[Nat.beq_refl,if_pos rfl];exact hold _ k.2
   .rw [beq_false hi,if_neg (by decide)]
    exact⟨⟨k.1,hi⟩,k.2⟩
  | _=>exact gen _ _ k
 .rw [hbo']at h
  split at h
  .cases h
  .rename_i hi
   exact(r.hb i b' h).later hlt rfl (fun x=>⟨fun q=>q.1,fun q=>⟨q,hi⟩⟩) (fun _=>rfl) fun _ _=>rfl
 .rw [hbo']
  show L.live i/\i≠id↔_;by_cases hi:i=id
  .subst hi;simp
  .simp only[hi,ne_eq,not_false_eq_true,and_true,if_false]
   exact r.hv i
 .rw [hbo']at k
  split at k
  .cases k
  .exact r.hl h i b' k
def PS.oq(σ:PS)(t id:Nat)(b:Bx):PS:={ σ with t:=(t,.own id)::σ.t.filter (fun x=>!Nat.beq x.1 t),b:=(id,b)::σ.b }
theorem PS.le.Hm{σ:PS}(t id:Nat){nl:Bool}{T:TypeId}{sz:Nat}{el:Nat->Nat->E}(hbo:σ.bo id=none)(hg:σ.get t = .e (.v (.slice none 0 0)))(hnl:σ.nl=true->nl=true):PS.le σ (σ.oq t id (.row nl T 0 sz el)):=fun w0 B a w L hB r=>by
 have hl0:¬L.live id:=fun h=>by have:=(r.hv id).1 h;rw[hbo]at this;cases this
 let L':Lk:=⟨fun i=>L.live i\/i=id,L.own,fun i=>if i=id then .slice none 0 0 else L.val i,L.aL⟩
 have hlt:gN L w L' w:=⟨Nat.le_refl _,fun x _ h=>h,fun _ _ _=>rfl⟩
 have hbo':∀ i,(σ.oq t id (.row nl T 0 sz el)).bo i=if i=id then some (.row nl T 0 sz el)else σ.bo i:=by
  intro i;unfold PS.bo PS.oq;rw[iE];by_cases h:id=i
  .rw [if_pos h,if_pos h.symm]
  .rw [if_neg h,if_neg (fun e=>h e.symm)]
 have hv:a.tmps.getD t undef = .slice none 0 0:=by
  have:=r.ht t;rw[hg]at this;exact ax.bQ this
 refine⟨L',r.hd,r.hs,fun s=>?_,fun i b' h=>?_,fun i=>?_,fun i x h=>.inl (r.hn i x h),r.hw,r.hi,r.he,fun h i b' k=>?_⟩
 .have hgs:(σ.oq t id (.row nl T 0 sz el)).get s=if t=s then .own id else σ.get s:=by
   unfold PS.get PS.oq;simp only[iE];by_cases h:t=s
   .rw [if_pos h,if_pos h];rfl
   .rw [if_neg h,if_neg h,qF _ _ _ h]
  rw[hgs];by_cases h:t=s
  .subst h
   rw[if_pos rfl,hv];exact⟨.inr rfl,(if_pos rfl).symm⟩
  .rw [if_neg h]
   refine dI.move hlt (r.ht s) fun i _ hlive=>⟨.inl hlive,if_neg (fun(q:i=id)=>hl0 (q▸hlive)),fun _=>rfl⟩
 .rw [hbo']at h
  split at h
  .rename_i hi
   subst hi;cases h;refine⟨fun _ _=>undef,.inl ⟨if_pos rfl,rfl⟩,fun x=>⟨fun q=>absurd (r.hn _ _ q) hl0,fun q=>?_⟩,fun i j hi=>absurd hi (Nat.not_lt_zero i)⟩;have e1:L'.val i = .slice none 0 0:=if_pos rfl;rw[e1]at q;cases q
  .rename_i hi
   exact(r.hb i b' h).later hlt (if_neg hi) (fun _=>Iff.rfl) (fun _=>rfl) fun _ _=>rfl
 .rw [hbo']
  show L.live i\/i=id↔_;by_cases hi:i=id
  .subst hi;simp
  .simp only[hi,or_false,if_false]
   exact r.hv i
 .rw [hbo']at k
  split at k
  .cases k;exact hnl h
  .exact r.hl h i b' k
end Go.Proofs.YtdgnpeddgdclhaaGreatDoor.Pu
namespace Go.Proofs.YtdgnpeddgdclhaaGreatDoor.Fp
def dj(x i:Nat)(b o:List Nat):Nat->List Nat×Nat
 | 0=>(o,0)
 | k+1 =>
  let r:=dj x i b o k
  let z:=x*b.getD k 0+r.1.getD (i+k) 0+r.2
  (r.1.set (i+k) (z%4294967296),z/4294967296)
def ca(a b:List Nat):Nat->List Nat
 | 0=>List.replicate (a.length+b.length) 0
 | i+1 =>
  let r:=dj (a.getD i 0) i b (ca a b i) b.length
  r.1.set (i+b.length) (r.2%4294967296)
theorem DL{x y:Nat}(hx:x<4294967296)(hy:y<4294967296):x*y<=18446744065119617025:=by
 have:=Nat.mul_le_mul (show x<=4294967295 by omega) (show y<=4294967295 by omega);omega
theorem od{L:List Nat}{k x:Nat}(hk:k<L.length):val (L.set k x)+4294967296^k*L.getD k 0=val L+4294967296^k*x:=by
 have:=zo (x:=x) hk;rwa[List.getD_eq_getElem?_getD,List.getElem?_eq_getElem hk]
theorem getD_set_ne{L:List Nat}{k j x:Nat}(h:k≠j):(L.set k x).getD j 0=L.getD j 0:=by
 simp only[List.getD_eq_getElem?_getD,List.getElem?_set_ne h]
theorem MB{L:List Nat}{k x:Nat}(h:k<L.length):(L.set k x).getD k 0=x:=by
 simp[List.getD_eq_getElem?_getD,h]
structure Ha(x i:Nat)(b o:List Nat)(k:Nat)(r:List Nat×Nat):Prop where
 ok:ay r.1
 len:r.1.length=o.length
 lt:r.2<4294967296
 eq:val r.1+4294967296^(i+k)*r.2=val o+4294967296^i*(x*val (b.take k))
 same:∀ j,i+k<=j->r.1.getD j 0=o.getD j 0
theorem qL{x i:Nat}{b o:List Nat}(hx:x<4294967296)(hb:ay b)(ho:ay o)(hl:i+b.length<=o.length):∀ k,k<=b.length->Ha x i b o k (dj x i b o k)
 | 0,_=>⟨ho,rfl,Nat.zero_lt_succ _,by simp[dj,val],fun _ _=>rfl⟩
 | k+1,hk=>by
  obtain⟨h1,h2,h3,h4,h5⟩:=qL hx hb ho hl k (by omega);have hy:=hb.getD k;have hw:=h1.getD (i+k);have hm:=DL hx hy;have hv:=jJ b k;simp only[dj];generalize dj x i b o k=r at *
  generalize hz:x*b.getD k 0+r.1.getD (i+k) 0+r.2=z;have hset:=od (L:=r.1) (k:=i+k) (x:=z%4294967296) (by omega);refine⟨h1.set _ (Nat.mod_lt _ (by decide)),by simpa using h2,by show z/4294967296<_;omega,?_,fun j hj=>?_⟩
  .have e1:z=z%4294967296+4294967296*(z/4294967296):=(Nat.mod_add_div z _).symm
   show val (r.1.set (i+k) (z%4294967296))+4294967296^(i+(k+1))*(z/4294967296)=_;rw[hv,Nat.mul_add x,Nat.mul_add (4294967296^i),<-Nat.add_assoc (val o),<-h4];have e2:4294967296^(i+(k+1))*(z/4294967296)=4294967296^(i+k)*(4294967296*(z/4294967296)):=by rw[show i+(k+1)=(i+k)+1 by omega,Nat.pow_succ,Nat.mul_assoc]
   have e3:4294967296^i*(x*(4294967296^k*b.getD k 0))=4294967296^(i+k)*(x*b.getD k 0):=by rw[Nat.pow_add];simp only[Nat.mul_assoc,Nat.mul_left_comm]
   rw[e2,e3];have e4:4294967296^(i+k)*z=4294967296^(i+k)*(x*b.getD k 0)+4294967296^(i+k)*r.1.getD (i+k) 0+4294967296^(i+k)*r.2:=by rw[<-hz,Nat.mul_add,Nat.mul_add]
   have e5:4294967296^(i+k)*z=4294967296^(i+k)*(z%4294967296)+4294967296^(i+k)*(4294967296*(z/4294967296)):=by rw[<-Nat.mul_add,<-e1]
   omega
  .show (r.1.set (i+k) _).getD j 0=_
   rw[getD_set_ne (by omega),h5 j (by omega)]
structure Hb(a b:List Nat)(i:Nat)(o:List Nat):Prop where
 ok:ay o
 len:o.length=a.length+b.length
 eq:val o=val (a.take i)*val b
 zero:∀ j,i+b.length<=j->o.getD j 0=0
theorem qM{a b:List Nat}(ha:ay a)(hb:ay b):∀ i,i<=a.length->Hb a b i (ca a b i)
 | 0,_=>⟨ay.py _,by simp[ca],by simp[ca,mW,val],fun j _=>by
   by_cases h:j<a.length+b.length<;>simp[ca,List.getD_eq_getElem?_getD,List.getElem?_replicate,h]⟩
 | i+1,hi=>by
  obtain⟨h1,h2,h3,h4⟩:=qM ha hb i (by omega);obtain⟨q1,q2,q3,q4,q5⟩:=qL (ha.getD i) hb h1 (i:=i) (by omega) b.length (Nat.le_refl _);have hv:=jJ a i;simp only[ca];generalize dj (a.getD i 0) i b (ca a b i) b.length=r at *
  have hset:=od (L:=r.1) (k:=i+b.length) (x:=r.2%4294967296) (by omega);rw[q5 _ (Nat.le_refl _),h4 _ (Nat.le_refl _),Nat.mul_zero,Nat.add_zero,Nat.mod_eq_of_lt q3,q4,List.take_length,h3]at hset;refine⟨q1.set _ (Nat.mod_lt _ (by decide)),by simp;omega,?_,fun j hj=>?_⟩
  .rw [Nat.mod_eq_of_lt q3,hset,hv,Nat.add_mul,Nat.mul_assoc]
  .rw [getD_set_ne (by omega),q5 _ (by omega),h4 _ (by omega)]
theorem Tg{a b:List Nat}(ha:ay a)(hb:ay b):val (ca a b a.length)=val a*val b:=by
 have:=(qM ha hb a.length (Nat.le_refl _)).eq;rwa[List.take_length]at this
end Go.Proofs.YtdgnpeddgdclhaaGreatDoor.Fp
namespace Go.Proofs.YtdgnpeddgdclhaaGreatDoor
open Go.RowKit Fp Pu
abbrev eN(L:List Nat):Nat->Nat->E:=fun i _=>.v (.int .u32 ((L.getD i 0:Nat):Int))
theorem pK(n:Nat):IntKind.u32.wrap (n:Int)=((n%4294967296:Nat):Int):=by rw[IntKind.wrap_u32];omega
theorem CO(n:Nat)(h:n<9223372036854775808):IntKind.i64.wrap (n:Int)=((n:Nat):Int):=by rw[IntKind.wrap_i64];omega
theorem FP(n:Nat):(n:Int)/2^32=((n/4294967296:Nat):Int):=by omega
theorem FV{L:List Nat}{n:Nat}(h:n=L.length):E.le (.sl false n 1 (eN L)) (ah L):=by subst h;exact .refl _
theorem Ft{T n n':Nat}{L:List Nat}(hn:n=n')(h:∀ i,L.getD i 0=0):Bx.le (.row false T n 1 fun _ j=>[.v (.int .u32 0)].getD j .any) (.row false T n' 1 (eN L)) :=
 .row hn fun i j _ hj=>by
  obtain rfl:j=0:=by omega
  refine⟨.of_eq ?_,rfl⟩;show E.v (.int .u32 0)=E.v (.int .u32 ((L.getD i 0:Nat):Int));rw[h i];rfl
theorem yF{T n n' p:Nat}{L:List Nat}{z:Nat}(hn:n=n')(hp:p<L.length):Bx.le (.row false T n 1 fun i' j'=>if i'=p/\0<=j'/\j'<0+1 then[.v (.int .u32 ((z:Nat):Int))].getD (j'-0) .any else(eN L) i' j') (.row false T n' 1 (eN (L.set p z))) :=
 .row hn fun i j _ hj=>by
  obtain rfl:j=0:=by omega
  refine⟨.of_eq ?_,rfl⟩;by_cases h:i=p
  .subst h
   rw[if_pos ⟨rfl,by omega,by omega⟩];show E.v (.int .u32 ((z:Nat):Int))=E.v (.int .u32 (((L.set i z).getD i 0:Nat):Int));rw[Fp.MB hp]
  .rw [if_neg (fun q=>h q.1)]
   show E.v (.int .u32 ((L.getD i 0:Nat):Int))=E.v (.int .u32 (((L.set p z).getD i 0:Nat):Int));rw[Fp.getD_set_ne (fun q=>h q.symm)]
open Go.RowKit Fp
theorem Fk{k l:IntKind}{a b c d:Int}(h:a=b)(h':c=d):Ending.returned (.tuple #[.int k a,.int l c]) = .returned (.tuple #[.int k b,.int l d]):=by rw[h,h']
theorem pP(x y c:Nat)(w:World)(hx:x<4294967296)(hy:y<4294967296)(hc:c<=1) :
  Calls Tryz.prog 287 #[.int .u32 x,.int .u32 y,.int .u32 c] w fun e w'=>e = .returned (.tuple #[.int .u32 (((x+y+c)%4294967296:Nat):Int),.int .u32 (((x+y+c)/4294967296:Nat):Int)])/\w=w':=by
 go_enter Tryz.func287,Tryz.ntmps287;go_wp2;go_ret2;refine⟨?_,rfl⟩;exact Fk (by omega) (by omega)
theorem u32_or_nat(a b:Nat)(ha:a<4294967296)(hb:b<4294967296):bits .or .u32 (a:Int) (b:Int)=((a ||| b:Nat):Int):=by
 have h2:a ||| b<2^32:=Nat.or_lt_two_pow ha hb
 show IntKind.u32.wrap ((BitVec.ofInt 32 (a:Int) ||| BitVec.ofInt 32 (b:Int)).toNat:Int)=_;rw[BitVec.toNat_or,BitVec.toNat_ofInt,BitVec.toNat_ofInt];rw[show((a:Int)%((2^32:Nat):Int)).toNat=a by omega,show((b:Int)%((2^32:Nat):Int)).toNat=b by omega];rw[IntKind.wrap_u32];omega
theorem u32_and_nat(a b:Nat)(ha:a<4294967296)(hb:b<4294967296):bits .and .u32 (a:Int) (b:Int)=((a &&& b:Nat):Int):=by
 have h2:a &&& b<2^32:=Nat.and_lt_two_pow a hb;show IntKind.u32.wrap ((BitVec.ofInt 32 (a:Int) &&& BitVec.ofInt 32 (b:Int)).toNat:Int)=_;rw[BitVec.toNat_and,BitVec.toNat_ofInt,BitVec.toNat_ofInt];rw[show((a:Int)%((2^32:Nat):Int)).toNat=a by omega,show((b:Int)%((2^32:Nat):Int)).toNat=b by omega];rw[IntKind.wrap_u32];omega
theorem u32_xor_nat(a b:Nat)(ha:a<4294967296)(hb:b<4294967296):bits .xor .u32 (a:Int) (b:Int)=((a ^^^ b:Nat):Int):=by
 have h2:a ^^^ b<2^32:=Nat.xor_lt_two_pow ha hb;show IntKind.u32.wrap ((BitVec.ofInt 32 (a:Int) ^^^ BitVec.ofInt 32 (b:Int)).toNat:Int)=_;rw[BitVec.toNat_xor,BitVec.toNat_ofInt,BitVec.toNat_ofInt];rw[show((a:Int)%((2^32:Nat):Int)).toNat=a by omega,show((b:Int)%((2^32:Nat):Int)).toNat=b by omega];rw[IntKind.wrap_u32];omega
theorem uJ(n:Nat)(h:n<4294967296):n/2147483648=(n.testBit 31).toNat:=by
 rw[Nat.testBit_eq_decide_div_mod_eq,show(2:Nat)^31=2147483648 from rfl];have h2:n/2147483648<2:=by omega
 generalize n/2147483648=q at *
 have:q=0\/q=1:=by omega
 rcases this with rfl|rfl<;>rfl
theorem Sj(x y c d:Nat)(hx:x<4294967296)(hy:y<4294967296)(hc:c<=1)(hd:d=(x+(4294967296-y)+(4294967296-c))%4294967296) :
  (((4294967295 ^^^ x) &&& y) ||| ((4294967295 ^^^ (x ^^^ y)) &&& d))/2147483648=if x<y+c then 1 else 0:=by
 have hd':d<4294967296:=by omega
 have h1:4294967295 ^^^ x<2^32:=Nat.xor_lt_two_pow (by decide) hx;have h2:x ^^^ y<2^32:=Nat.xor_lt_two_pow hx hy;have h3:4294967295 ^^^ (x ^^^ y)<2^32:=Nat.xor_lt_two_pow (by decide) h2;have h4:(4294967295 ^^^ x) &&& y<2^32:=Nat.and_lt_two_pow _ hy;have h5:(4294967295 ^^^ (x ^^^ y)) &&& d<2^32:=Nat.and_lt_two_pow _ hd';rw[uJ _ (Nat.or_lt_two_pow h4 h5)];have tx:=uJ x hx
 have ty:=uJ y hy;have td:=uJ d hd';rw[Nat.testBit_or,Nat.testBit_and,Nat.testBit_and,Nat.testBit_xor,Nat.testBit_xor,Nat.testBit_xor,show(4294967295:Nat).testBit 31=true by decide];clear h1 h2 h3 h4 h5;generalize x.testBit 31=p at *
 generalize y.testBit 31=q at *
 generalize d.testBit 31=r at *
 cases p<;>cases q<;>cases r<;>simp at tx ty td ⊢ <;> omega
def nh(x y c:Nat):Nat:=if x<y+c then 1 else 0
def kt(x y c:Nat):Nat:=(x+(4294967296-y)+(4294967296-c))%4294967296
theorem qh(x y c:Nat)(hx:x<4294967296)(hy:y<4294967296)(hc:c<=1):kt x y c+y+c=x+4294967296*nh x y c/\nh x y c<=1/\kt x y c<4294967296:=by
 unfold kt nh;split<;>omega
theorem F3(x y c:Nat)(w:World)(hx:x<4294967296)(hy:y<4294967296)(hc:c<=1) :
  Calls Tryz.prog 288 #[.int .u32 x,.int .u32 y,.int .u32 c] w fun e w'=>e = .returned (.tuple #[.int .u32 (kt x y c:Nat),.int .u32 (nh x y c:Nat)])/\w=w':=by
 go_enter Tryz.func288,Tryz.ntmps288;go_wp2;go_ret2;refine⟨?_,rfl⟩;have hd:((x:Int)-(y:Int)-(c:Int))%4294967296=((kt x y c:Nat):Int):=by unfold kt;omega
 have hb:=Sj x y c (kt x y c) hx hy hc rfl;have hl:=(qh x y c hx hy hc).2.2;have em:IntKind.u32.max=((4294967295:Nat):Int):=rfl;refine Fk hd ?_;rw[hd,em,u32_xor_nat _ _ (by decide) hx,u32_xor_nat _ _ hx hy];have h1:4294967295 ^^^ x<2^32:=Nat.xor_lt_two_pow (by decide) hx;have h2:x ^^^ y<2^32:=Nat.xor_lt_two_pow hx hy
 have h3:4294967295 ^^^ (x ^^^ y)<2^32:=Nat.xor_lt_two_pow (by decide) h2;rw[u32_xor_nat _ _ (by decide) h2,u32_and_nat _ _ h1 hy,u32_and_nat _ _ h3 hl];have h4:(4294967295 ^^^ x) &&& y<2^32:=Nat.and_lt_two_pow _ hy;have h5:(4294967295 ^^^ (x ^^^ y)) &&& kt x y c<2^32:=Nat.and_lt_two_pow _ hl;rw[u32_or_nat _ _ h4 h5];unfold nh;rw[<-hb];omega
open Go.RowKit Fp
theorem Af{O:List Nat}{k c x y P Q P' Q':Nat}(ho:O[k]? = some 0)(h:val O+4294967296^k*c=P+Q)
  (hP:P'=P+4294967296^k*x) (hQ:Q'=Q+4294967296^k*y) :
  val (O.set k ((x+y+c)%4294967296))+4294967296^(k+1)*((x+y+c)/4294967296)=P'+Q':=by
 have h1:=DM (a:=1) (b:=x+y) (c:=c) ho;rw[Nat.one_mul,Nat.add_zero]at h1;rw[h1,h,hP,hQ,Nat.mul_add];omega
theorem F5{O:List Nat}{k c x y d c' P Q P' Q':Nat}(ho:O[k]? = some 0)(h:val O+Q=P+4294967296^k*c)
  (hP:P'=P+4294967296^k*x) (hQ:Q'=Q+4294967296^k*y) (hd:d+y+c=x+4294967296*c') :
  val (O.set k d)+Q'=P'+4294967296^(k+1)*c':=by
 obtain⟨hk,h0⟩:=List.getElem?_eq_some_iff.1 ho;have h1:=zo (x:=d) hk;rw[h0,Nat.mul_zero,Nat.add_zero]at h1;have e:=congrArg (4294967296^k * ·) hd;simp only[Nat.mul_add,<-Nat.mul_assoc]at e;rw[Nat.pow_succ,h1,hP,hQ];omega
def iM(O:List Nat)(k:Nat):Prop:=∀ j,k<=j->j<O.length->O[j]? = some 0
theorem iM.at{O:List Nat}{k:Nat}(h:iM O k)(hk:k<O.length):O[k]? = some 0:=h k (Nat.le_refl _) hk
theorem iM.set{O:List Nat}{k:Nat}(h:iM O k)(v:Nat):iM (O.set k v) (k+1):=fun j h1 h2=>by
 rw[List.getElem?_set_ne (by omega)];exact h j (by omega) (by simpa using h2)
theorem iM.zG(n:Nat):iM (List.replicate n 0) 0:=fun j _ h=>by
 rw[List.getElem?_replicate];rw[if_pos (by simpa using h)]
def u9(w:World)(v n:Nat)(e:Ending)(w':World):Prop:=∃ T,val T=v/\ay T/\T.length=n/\iL w T e w'
def zV(w:World)(v n:Nat)(e:Ending)(w':World):Prop:=∃ T,val T=v/\ay T/\T.length<=n/\iL w T e w'
theorem Pc(A B:Option Addr)(c d:Nat)(L M:List Nat)(w:World)(hs:Sl w A c L)(hr:Sl w B d M)(h1:L.length<=3000)(_h2:M.length<=3000)(hc:M.length<=L.length) :
  Calls Tryz.prog 260 #[.slice A L.length c,.slice B M.length d] w (u9 w (val L+val M) (L.length+1)):=by
 obtain⟨l,hl⟩:∃ l,l=L.length:=⟨_,rfl⟩
 obtain⟨m,hm⟩:∃ m,m=M.length:=⟨_,rfl⟩
 rw[<-hl,<-hm]at hc;rw[<-hl]at h1;rw[<-hm]at _h2;have HL:=Lib.hid hl;have HM:=Lib.hid hm;rw[<-hl,<-hm];clear hl hm;have d0:decide ((l:Int)<(m:Int))=false:=decide_eq_false (by omega);have d1:decide (l<m)=false:=decide_eq_false (by omega);have hmk:=qG (l+1) (by omega);rw[show((l+1:Nat):Int)=(l:Int)+1 by omega]at hmk;have hR0:=Lib.hid (Rw.made w (l+1));go_enter Tryz.func260,Tryz.ntmps260;go_wp2
 go_loopw [6,7,8,9,23] (fun cy _ _ _ i wr=>∃ (k q:Nat) (O:List Nat),k<=l/\i = .int .i64 k/\cy = .int .u32 q/\q<=1/\O.length=l+1/\ay O/\iM O k/\val O+4294967296^k*q=val (L.take k)+val (M.take k)/\Rw wr w.heap.size O/\Ext w wr) (fun _ _ _ _ i _=>l-(intOf i).toNat)
 case atStart =>
  exact⟨0,0,List.replicate (l+1) 0,Nat.zero_le _,rfl,rfl,by decide,by simp,ay.py _,iM.zG _,by simp[mW],hR0.out,Ext.alloc _ _⟩
 case round =>
  obtain⟨k,q,O,hk,rfl,rfl,hq,hO,hok,hz,hval,hR,hb⟩:=hrel;have HV:=Lib.hid hval;have HO:=Lib.hid hO;clear hval hO;have HZ:=Lib.hid hz;clear hz;by_cases hlt:k<l
  .have hkX:k<L.length:=by have:=HL.out;omega
   obtain⟨ab,ao,e1,_,c1⟩:=(hs.below hb).at_ hkX;have hx32:L[k]<4294967296:=hs.ok.get hkX;have ho:=HZ.out.at (by have:=HO.out;omega)
   have c4:=hR.frozen k;have hcz:=hR.cell ho;have HT:=Lib.hid (mX L k hkX);have HY:=Lib.hid (jJ M k);have hy32:M.getD k 0<4294967296:=hr.ok.getD k;have HYc:=Lib.hid (fun(h:k<M.length)=>(hr.below hb).at_ h);have HYg:=Lib.hid (fun(h:k<M.length)=>mv h);have HYn:=Lib.hid (fun(h:¬k<M.length)=>oX h);have HX:=Lib.hid (rfl:L[k]=L[k]);obtain⟨a,ha⟩:∃ a,a=L[k]:=⟨_,rfl⟩
   rw[<-ha]at c1 hx32 HT;clear ha HX hkX;have HS:=Lib.hid (Af ho HV.out HT.out HY.out);have HN:=Lib.hid (fun v=>HZ.out.set v);have HOK:=Lib.hid (fun v=>hok.FM k v);have HR2:=Lib.hid (fun v:Nat=>hR.set k v);have HE2:=Lib.hid (fun v:Value=>hb.setCell (p:=⟨w.heap.size,k,none⟩) (Nat.le_refl _) v);clear ho hR hb hok;subst e1;by_cases hym:k<m
   .have hkY:k<M.length:=by have:=HM.out;omega
    obtain⟨bb,bo,e2,_,c2⟩:=HYc.out hkY;subst e2;rw[<-HYg.out hkY]at c2;generalize M.getD k 0=b at *
    clear HYc HYg HYn hkY;have HA:=Lib.hid (fun w=>pP a b q w hx32 hy32 hq);go_wp2_with fail;refine(HA.out _).mono ?_;rintro e w1 ⟨rfl,rfl⟩;go_wp2;go_roundw
    case rel =>
     exact⟨k+1,(a+b+q)/4294967296,O.set k ((a+b+q)%4294967296),by omega,by go_num,rfl,by omega,by rw[List.length_set];exact HO.out,HOK.out _,HN.out _,HS.out,HR2.out _,HE2.out _⟩
    case measure=>simp[intOf];omega
   .rw [HYn.out (by have:=HM.out;omega)]at HS
    clear HYc HYg HYn hy32 HY;have HA:=Lib.hid (fun w=>pP a 0 q w hx32 (by decide) hq);go_wp2_with fail;refine(HA.out _).mono ?_;rintro e w1 ⟨rfl,rfl⟩;go_wp2;go_roundw
    case rel =>
     exact⟨k+1,(a+0+q)/4294967296,O.set k ((a+0+q)%4294967296),by omega,by go_num,rfl,by omega,by rw[List.length_set];exact HO.out,HOK.out _,HN.out _,HS.out,HR2.out _,HE2.out _⟩
    case measure=>simp[intOf];omega
  .obtain rfl:k=l:=by omega
   have ho:=HZ.out.at (by have:=HO.out;omega)
   have c4:=hR.frozen k;have hcz:=hR.cell ho;have HF:=Lib.hid (show val (O.set k q)=val L+val M by
    have h:=Bh (c:=q) ho;rw[Nat.zero_add,Nat.mod_eq_of_lt (by omega),Nat.div_eq_of_lt (by omega),Nat.mul_zero,Nat.add_zero,HV.out,show L.take k=L from List.take_of_length_le (by rw[HL.out];exact Nat.le_refl _),show M.take k=M from List.take_of_length_le (by rw[<-HM.out];omega)]at h;omega)
   have HLn:=Lib.hid (show(O.set k q).length=k+1 by rw[List.length_set];exact HO.out);have HOK:Hid (ay (O.set k q)):=hok.set k (by omega);have HR2:=Lib.hid (hR.set k q);have HE2:=Lib.hid (fun v:Value=>hb.setCell (p:=⟨w.heap.size,k,none⟩) (Nat.le_refl _) v);clear ho hR hb hok;go_wp2;go_ret;have hsl:=HR2.out.sl HOK.out (by rw[HLn.out];omega);rw[HLn.out]at hsl
   exact⟨_,HF.out,HOK.out,HLn.out,_,_,(by rw[HLn.out];rfl),hsl,HE2.out _⟩
theorem Pd(A B:Option Addr)(c d:Nat)(L M:List Nat)(w:World)(hs:Sl w A c L)(hr:Sl w B d M)(h1:L.length<=3000)(h2:M.length<=3000)(hc:L.length<M.length) :
  Calls Tryz.prog 260 #[.slice A L.length c,.slice B M.length d] w (u9 w (val L+val M) (M.length+1)):=by
 obtain⟨l,hl⟩:∃ l,l=L.length:=⟨_,rfl⟩
 obtain⟨m,hm⟩:∃ m,m=M.length:=⟨_,rfl⟩
 rw[<-hl,<-hm]at hc;rw[<-hl]at h1;rw[<-hm]at h2;have HL:=Lib.hid hl;have HM:=Lib.hid hm;rw[<-hl,<-hm];clear hl hm;have d0:decide ((l:Int)<(m:Int))=true:=decide_eq_true (by omega);have d1:decide (l<m)=true:=decide_eq_true (by omega);have hmk:=qG (m+1) (by omega);rw[show((m+1:Nat):Int)=(m:Int)+1 by omega]at hmk;have hR0:=Lib.hid (Rw.made w (m+1));go_enter Tryz.func260,Tryz.ntmps260;go_wp2
 go_loopw [6,7,8,9,23] (fun cy _ _ _ i wr=>∃ (k q:Nat) (O:List Nat),k<=m/\i = .int .i64 k/\cy = .int .u32 q/\q<=1/\O.length=m+1/\ay O/\iM O k/\val O+4294967296^k*q=val (M.take k)+val (L.take k)/\Rw wr w.heap.size O/\Ext w wr) (fun _ _ _ _ i _=>m-(intOf i).toNat)
 case atStart =>
  exact⟨0,0,List.replicate (m+1) 0,Nat.zero_le _,rfl,rfl,by decide,by simp,ay.py _,iM.zG _,by simp[mW],hR0.out,Ext.alloc _ _⟩
 case round =>
  obtain⟨k,q,O,hk,rfl,rfl,hq,hO,hok,hz,hval,hR,hb⟩:=hrel;have HV:=Lib.hid hval;have HO:=Lib.hid hO;clear hval hO;have HZ:=Lib.hid hz;clear hz;by_cases hlt:k<m
  .have hkX:k<M.length:=by have:=HM.out;omega
   obtain⟨ab,ao,e1,_,c1⟩:=(hr.below hb).at_ hkX;have hx32:M[k]<4294967296:=hr.ok.get hkX;have ho:=HZ.out.at (by have:=HO.out;omega)
   have c4:=hR.frozen k;have hcz:=hR.cell ho;have HT:=Lib.hid (mX M k hkX);have HY:=Lib.hid (jJ L k);have hy32:L.getD k 0<4294967296:=hs.ok.getD k;have HYc:=Lib.hid (fun(h:k<L.length)=>(hs.below hb).at_ h);have HYg:=Lib.hid (fun(h:k<L.length)=>mv h);have HYn:=Lib.hid (fun(h:¬k<L.length)=>oX h);have HX:=Lib.hid (rfl:M[k]=M[k]);obtain⟨a,ha⟩:∃ a,a=M[k]:=⟨_,rfl⟩
   rw[<-ha]at c1 hx32 HT;clear ha HX hkX;have HS:=Lib.hid (Af ho HV.out HT.out HY.out);have HN:=Lib.hid (fun v=>HZ.out.set v);have HOK:=Lib.hid (fun v=>hok.FM k v);have HR2:=Lib.hid (fun v:Nat=>hR.set k v);have HE2:=Lib.hid (fun v:Value=>hb.setCell (p:=⟨w.heap.size,k,none⟩) (Nat.le_refl _) v);clear ho hR hb hok;subst e1;by_cases hym:k<l
   .have hkY:k<L.length:=by have:=HL.out;omega
    obtain⟨bb,bo,e2,_,c2⟩:=HYc.out hkY;subst e2;rw[<-HYg.out hkY]at c2;generalize L.getD k 0=b at *
    clear HYc HYg HYn hkY;have HA:=Lib.hid (fun w=>pP a b q w hx32 hy32 hq);go_wp2_with fail;refine(HA.out _).mono ?_;rintro e w1 ⟨rfl,rfl⟩;go_wp2;go_roundw
    case rel =>
     exact⟨k+1,(a+b+q)/4294967296,O.set k ((a+b+q)%4294967296),by omega,by go_num,rfl,by omega,by rw[List.length_set];exact HO.out,HOK.out _,HN.out _,HS.out,HR2.out _,HE2.out _⟩
    case measure=>simp[intOf];omega
   .rw [HYn.out (by have:=HL.out;omega)]at HS
    clear HYc HYg HYn hy32 HY;have HA:=Lib.hid (fun w=>pP a 0 q w hx32 (by decide) hq);go_wp2_with fail;refine(HA.out _).mono ?_;rintro e w1 ⟨rfl,rfl⟩;go_wp2;go_roundw
    case rel =>
     exact⟨k+1,(a+0+q)/4294967296,O.set k ((a+0+q)%4294967296),by omega,by go_num,rfl,by omega,by rw[List.length_set];exact HO.out,HOK.out _,HN.out _,HS.out,HR2.out _,HE2.out _⟩
    case measure=>simp[intOf];omega
  .obtain rfl:k=m:=by omega
   have ho:=HZ.out.at (by have:=HO.out;omega)
   have c4:=hR.frozen k;have hcz:=hR.cell ho;have HF:=Lib.hid (show val (O.set k q)=val L+val M by
    have h:=Bh (c:=q) ho;rw[Nat.zero_add,Nat.mod_eq_of_lt (by omega),Nat.div_eq_of_lt (by omega),Nat.mul_zero,Nat.add_zero,HV.out,show M.take k=M from List.take_of_length_le (by rw[HM.out];exact Nat.le_refl _),show L.take k=L from List.take_of_length_le (by rw[<-HL.out];omega)]at h;omega)
   have HLn:=Lib.hid (show(O.set k q).length=k+1 by rw[List.length_set];exact HO.out);have HOK:Hid (ay (O.set k q)):=hok.set k (by omega);have HR2:=Lib.hid (hR.set k q);have HE2:=Lib.hid (fun v:Value=>hb.setCell (p:=⟨w.heap.size,k,none⟩) (Nat.le_refl _) v);clear ho hR hb hok;go_wp2;go_ret;have hsl:=HR2.out.sl HOK.out (by rw[HLn.out];omega);rw[HLn.out]at hsl
   exact⟨_,HF.out,HOK.out,HLn.out,_,_,(by rw[HLn.out];rfl),hsl,HE2.out _⟩
theorem D2(A B:Option Addr)(c d:Nat)(L M:List Nat)(w:World)(hs:Sl w A c L)(hr:Sl w B d M)(h1:L.length<=3000)(h2:M.length<=3000) :
  Calls Tryz.prog 260 #[.slice A L.length c,.slice B M.length d] w (u9 w (val L+val M) (max L.length M.length+1)):=by
 by_cases hc:M.length<=L.length
 .rw [Nat.max_eq_left hc];exact Pc A B c d L M w hs hr h1 h2 hc
 .rw [Nat.max_eq_right (by omega)];exact Pd A B c d L M w hs hr h1 h2 (by omega)
theorem Pb(A B:Option Addr)(c d:Nat)(L M:List Nat)(w:World)(hs:Sl w A c L)(hr:Sl w B d M)(h1:L.length<=3000)(h2:M.length<=3000) :
  Calls Tryz.prog 260 #[.slice A L.length c,.slice B M.length d] w (zV w (val L+val M) (max L.length M.length+1)) :=
 (D2 A B c d L M w hs hr h1 h2).mono fun _ _ ⟨T,a,b,c,d⟩=>⟨T,a,b,Nat.le_of_eq c,d⟩
theorem Pe(A B:Option Addr)(c d:Nat)(L M:List Nat)(w:World)(hs0:Sl w A c L)(hr0:Sl w B d M)(h1:L.length<=3000)(_h2:M.length<=3000)(hle:val M<=val L) :
  Calls Tryz.prog 261 #[.slice A L.length c,.slice B M.length d] w (zV w (val L-val M) L.length):=by
 have hTL:=Lib.hid (fun w (h:Sl w A c L)=>iV A c L w h);have hTM:=Lib.hid (fun w (h:Sl w B d M)=>iV B d M w h);have hs:=hs0.trim;have hr:=hr0.trim;have hvl:=eP L;have hvm:=eP M;have hl1:=eD L;have hl2:=eD M;have hlt0:(aw M).length<=(aw L).length:=by
  apply Classical.byContradiction;intro h;have:=uP hs.ok (lM M) (by omega);omega
 unfold cN at hl1 hl2;rw[<-hvl,<-hvm]at hle ⊢;clear hvl hvm;obtain⟨n1,hn1⟩:∃ n,n=L.length:=⟨_,rfl⟩
 obtain⟨n2,hn2⟩:∃ n,n=M.length:=⟨_,rfl⟩
 rw[<-hn1]at h1 hl1 hTL ⊢;rw[<-hn2]at _h2 hl2 hTM ⊢;have HTL:=Lib.hid (hTL.out w hs0);have HTM:=Lib.hid (hTM.out w hr0);clear hTL hTM hs0 hr0 hn1 hn2;generalize aw L=L at *
 generalize aw M=M at *
 obtain⟨l,hl⟩:∃ l,l=L.length:=⟨_,rfl⟩
 obtain⟨m,hm⟩:∃ m,m=M.length:=⟨_,rfl⟩
 rw[<-hl]at hl1 HTL hlt0;rw[<-hm]at hl2 HTM hlt0;have HL:=Lib.hid hl;have HM:=Lib.hid hm;have HLE:=Lib.hid hle;clear hl hm hle;have hmk:=qG l (by omega);have hR0:=Lib.hid (Rw.made w l);go_enter Tryz.func261,Tryz.ntmps261;go_wp2_with fail;refine HTL.out.mono ?_;rintro e w1 ⟨rfl,rfl⟩;go_wp2_with fail;refine HTM.out.mono ?_;rintro e w1 ⟨rfl,rfl⟩;go_wp2
 go_loopw [6,7,8,9,19] (fun cy _ _ _ i wr=>∃ (k q:Nat) (O:List Nat),k<=l/\i = .int .i64 k/\cy = .int .u32 q/\q<=1/\O.length=l/\ay O/\iM O k/\val O+val (M.take k)=val (L.take k)+4294967296^k*q/\Rw wr w.heap.size O/\Ext w wr) (fun _ _ _ _ i _=>l-(intOf i).toNat)
 case atStart =>
  exact⟨0,0,List.replicate l 0,Nat.zero_le _,rfl,rfl,by decide,by simp,ay.py _,iM.zG _,by simp[mW],hR0.out,Ext.alloc _ _⟩
 case round =>
  obtain⟨k,q,O,hk,rfl,rfl,hq,hO,hok,hz,hval,hR,hb⟩:=hrel;have HV:=Lib.hid hval;have HO:=Lib.hid hO;clear hval hO;have HZ:=Lib.hid hz;clear hz;by_cases hlt:k<l
  .have hkX:k<L.length:=by have:=HL.out;omega
   obtain⟨ab,ao,e1,_,c1⟩:=(hs.below hb).at_ hkX;have hx32:L[k]<4294967296:=hs.ok.get hkX;have ho:=HZ.out.at (by have:=HO.out;omega)
   have c4:=hR.frozen k;have hcz:=hR.cell ho;have HT:=Lib.hid (mX L k hkX);have HY:=Lib.hid (jJ M k);have hy32:M.getD k 0<4294967296:=hr.ok.getD k;have HYc:=Lib.hid (fun(h:k<M.length)=>(hr.below hb).at_ h);have HYg:=Lib.hid (fun(h:k<M.length)=>mv h);have HYn:=Lib.hid (fun(h:¬k<M.length)=>oX h);obtain⟨a,ha⟩:∃ a,a=L[k]:=⟨_,rfl⟩
   rw[<-ha]at c1 hx32 HT;clear ha hkX;have HN:=Lib.hid (fun v=>HZ.out.set v);have HOK:=Lib.hid (fun(v:Nat) (h:v<4294967296)=>hok.set k h);have HR2:=Lib.hid (fun v:Nat=>hR.set k v);have HE2:=Lib.hid (fun v:Value=>hb.setCell (p:=⟨w.heap.size,k,none⟩) (Nat.le_refl _) v);have HO0:=Lib.hid ho;clear ho hR hb hok;subst e1;by_cases hym:k<m
   .have hkY:k<M.length:=by have:=HM.out;omega
    obtain⟨bb,bo,e2,_,c2⟩:=HYc.out hkY;subst e2;rw[<-HYg.out hkY]at c2;generalize M.getD k 0=b at *
    clear HYc HYg HYn hkY;have HS:=Lib.hid (F5 HO0.out HV.out HT.out HY.out (qh a b q hx32 hy32 hq).1);have HD:=Lib.hid (qh a b q hx32 hy32 hq).2;have HA:=Lib.hid (fun w=>F3 a b q w hx32 hy32 hq);generalize kt a b q=dd at *
    generalize nh a b q=bb' at *
    go_wp2_with fail;refine(HA.out _).mono ?_;rintro e w1 ⟨rfl,rfl⟩;go_wp2;go_roundw
    case rel =>
     exact⟨k+1,bb',O.set k dd,by omega,by go_num,rfl,HD.out.1,by rw[List.length_set];exact HO.out,HOK.out _ HD.out.2,HN.out _,HS.out,HR2.out _,HE2.out _⟩
    case measure=>simp[intOf];omega
   .rw [HYn.out (by have:=HM.out;omega)]at HY
    clear HYc HYg HYn hy32;have HS:=Lib.hid (F5 HO0.out HV.out HT.out HY.out (qh a 0 q hx32 (by decide) hq).1);have HD:=Lib.hid (qh a 0 q hx32 (by decide) hq).2;have HA:=Lib.hid (fun w=>F3 a 0 q w hx32 (by decide) hq);generalize kt a 0 q=dd at *
    generalize nh a 0 q=bb' at *
    go_wp2_with fail;refine(HA.out _).mono ?_;rintro e w1 ⟨rfl,rfl⟩;go_wp2;go_roundw
    case rel =>
     exact⟨k+1,bb',O.set k dd,by omega,by go_num,rfl,HD.out.1,by rw[List.length_set];exact HO.out,HOK.out _ HD.out.2,HN.out _,HS.out,HR2.out _,HE2.out _⟩
    case measure=>simp[intOf];omega
  .obtain rfl:k=l:=by omega
   have HF:=Lib.hid (show val O=val L-val M by
    have h:=HV.out;rw[show L.take k=L from List.take_of_length_le (by rw[HL.out];exact Nat.le_refl _),show M.take k=M from List.take_of_length_le (by rw[<-HM.out];exact hlt0)]at h;exact(F4 hok HO.out h HLE.out).2)
   go_wp2;go_ret;have hsl:=hR.sl hok (by rw[HO.out];omega);exact⟨_,HF.out,hok,by rw[HO.out];exact hl1,_,_,(by rw[HO.out];rfl),hsl,hb⟩
open Go.RowKit Fp
theorem Gv{T:List Nat}{v:Nat}(h:ay T)(hv:val T=v):aw T=af v:=by rw[fN h,hv]
theorem DO(A B:Option Addr)(c d:Nat)(L M:List Nat)(w:World)(hs:Sl w A c L)(hr:Sl w B d M)(h1:L.length<=256)(h2:M.length<=256)(hf:(af (val L+val M)).length<=256) :
  Calls Tryz.prog 218 #[.slice A L.length c,.slice B M.length d] w (oj w (af (val L+val M)) 0):=by
 have H1:=Lib.hid (fun w (h:Sl w A c L) (k:Sl w B d M)=>Pb A B c d L M w h k (by omega) (by omega));generalize val L+val M=v at *
 go_enter Tryz.func218,Tryz.ntmps218;go_wp2_with fail;refine(Dp _ A B _ c _ d _ false (zY _ _ _ _ _ _ _) (zZ _ _ _ _ _ _ _) (by simp;omega)).mono ?_;rintro e w' ⟨rfl,rfl⟩;go_wp2_with fail;refine(H1.out _ (hs.alloc _) (hr.alloc _)).mono ?_;rintro e w' ⟨T,hv,hk,hl,A',c',rfl,hs',hb⟩;have ht:=Lib.hid (Gv hk hv);go_wp2_with fail
 refine(qP A' c' T _ hs' (by rw[ht.out];exact hf)).mono ?_;rintro e w'' ⟨A'',c'',rfl,hs'',hb'⟩;rw[ht.out]at hs'' ⊢;go_wp2;go_ret2;exact⟨A'',c'',rfl,hs'',(Ext.alloc _ _).trans (hb.trans hb')⟩
theorem xB(A B:Option Addr)(c d:Nat)(L M:List Nat)(w:World)(hs:Sl w A c L)(hr:Sl w B d M)(h1:L.length<=256)(h2:M.length<=256)(hle:val M<=val L) :
  Calls Tryz.prog 219 #[.slice A L.length c,.slice B M.length d] w (oj w (af (val L-val M)) 0):=by
 have H1:=Lib.hid (fun w (h:Sl w A c L) (k:Sl w B d M)=>Pe A B c d L M w h k (by omega) (by omega) hle);have HC:=Lib.hid (fun w (h:Sl w A c L) (k:Sl w B d M)=>qO A B c d L M w h k (by omega) (by omega));have hc:decide (bH (val L) (val M)<0)=false:=by
  apply decide_eq_false;unfold bH;rw[if_neg (by omega)];split<;>decide
 have hf:(af (val L-val M)).length<=256:=Nat.le_trans (cJ (Nat.sub_le _ _)) (Oy hs.ok h1);generalize val L-val M=v at *
 generalize bH (val L) (val M)=q at *
 clear hle;go_enter Tryz.func219,Tryz.ntmps219;go_wp2_with fail;refine(Dp _ A B _ c _ d _ false (zY _ _ _ _ _ _ _) (zZ _ _ _ _ _ _ _) (by simp;omega)).mono ?_;rintro e w' ⟨rfl,rfl⟩;go_wp2_with fail;refine(HC.out _ (hs.alloc _) (hr.alloc _)).mono ?_;rintro e w1 ⟨rfl,hb1⟩;go_wp2_with fail;refine(H1.out _ ((hs.alloc _).below hb1) ((hr.alloc _).below hb1)).mono ?_
 rintro e w' ⟨T,hv,hk,hl,A',c',rfl,hs',hb⟩;have ht:=Lib.hid (Gv hk hv);go_wp2_with fail;refine(qP A' c' T _ hs' (by rw[ht.out];exact hf)).mono ?_;rintro e w'' ⟨A'',c'',rfl,hs'',hb'⟩;rw[ht.out]at hs'' ⊢;go_wp2;go_ret2;exact⟨A'',c'',rfl,hs'',(Ext.alloc _ _).trans (hb1.trans (hb.trans hb'))⟩
end Go.Proofs.YtdgnpeddgdclhaaGreatDoor
namespace Go.Proofs.YtdgnpeddgdclhaaGreatDoor.Fp
def aO(d:Dy):Dy:=if cY d then d else aT
def bV(d:Dy):Int:=if cY d then 0 else 9
theorem mj{d:Dy}(h:cY d):aO d=d:=if_pos h
theorem pZ{d:Dy}(h:cY d):bV d=0:=if_pos h
theorem sG{d:Dy}(h:¬cY d):aO d=aT:=if_neg h
theorem pY{d:Dy}(h:¬cY d):bV d=9:=if_neg h
theorem vK{d:Dy}(h:d.Canon):(aO d).Valid:=by
 by_cases hr:cY d
 .rw [mj hr];exact⟨h,hr⟩
 .rw [sG hr];exact gL
theorem y3{a b:Dy}(ha:a.m≠0)(hb:b.m≠0):av a b=av b a:=by
 unfold av;rw[if_neg ha,if_neg hb,if_neg hb,if_neg ha,Int.min_comm,Int.add_comm]
theorem Gb{a b:Dy}(ha:a.Valid)(hb:b.Valid)(a0:a.m≠0)(b0:b.m≠0){k:Int}(hk:min a.e b.e=k)(h1:4097<a.top-k)(h2:1<a.top-b.top):¬cY (av a b):=by
 have hka:k<=a.e:=by omega
 have hkb:k<=b.e:=by omega
 have m1:=sB a0 hka;have m2:=sB b0 hkb;have ta:a.top=ak a.m+a.e:=by unfold Dy.top;rw[if_neg a0]
 have tb:b.top=ak b.m+b.e:=by unfold Dy.top;rw[if_neg b0]
 have ba:ak a.m<=4096:=by rcases ha.range with h|⟨h,_⟩;exact absurd h a0;exact h
 have hne:a.e≠k:=by omega
 have hbk:b.e=k:=by omega
 have oa:a.aZ k%2=0:=by
  unfold Dy.aZ;obtain⟨j,hj⟩:∃ j,(a.e-k).toNat=j+1:=⟨(a.e-k).toNat-1,by omega⟩
  rw[hj,Nat.pow_succ,<-Nat.mul_assoc,Nat.mul_mod_left]
 have ob:b.aZ k%2=1:=by
  unfold Dy.aZ;rw[hbk,show(k-k).toNat=0 by omega,Nat.pow_zero,Nat.mul_one];rcases hb.canon with⟨h,_,_⟩|h
  .exact absurd h b0
  .exact h
 have pa:=kB a0 k;obtain⟨p,hp⟩:∃ p,ak (a.aZ k)=p+2:=⟨ak (a.aZ k)-2,by omega⟩
 have l1:=iq (show a.aZ k≠0 by omega);have l2:=gi (b.aZ k);rw[hp,show p+2-1=p+1 by omega,Nat.pow_succ]at l1;have l3:2^ak (b.aZ k)<=2^p:=Nat.pow_le_pow_right (by decide) (by omega);have hz:(a.num k+b.num k).natAbs%2=1/\2^p<=(a.num k+b.num k).natAbs:=by
  unfold Dy.num;generalize a.aZ k=x at *
  generalize b.aZ k=y at *
  generalize 2^p=P at *
  split<;>split<;>omega
 unfold av;rw[if_neg a0,if_neg b0,hk];unfold bS;generalize (a.num k+b.num k).natAbs=z at *
 generalize decide (a.num k+b.num k<0)=s at *
 have hc:canon s z k=⟨s,z,k⟩:=Dy.Canon.oD (d:=⟨s,z,k⟩) (.inr hz.1);rw[hc];have hb:=jz.2 hz.2;rintro(h|⟨h,_⟩)
 .simp only at h;omega
 .simp only at h;omega
theorem So{a b:Dy}(ha:a.Valid)(hb:b.Valid)(a0:a.m≠0)(b0:b.m≠0){k:Int}(hk:min a.e b.e=k)(h1:4097<max a.top b.top-k)(h2:1<a.top-b.top\/1<b.top-a.top):¬cY (av a b):=by
 rcases h2 with h2|h2
 .exact Gb ha hb a0 b0 hk (by omega) h2
 .rw [y3 a0 b0]
  exact Gb (k:=k) hb ha b0 a0 (by rw[Int.min_comm];exact hk) (by omega) h2
theorem Sr{a b:Dy}(ha:a.Valid)(hb:b.Valid)(a0:a.m≠0)(b0:b.m≠0){k:Int}(hk:min a.e b.e=k)(h:¬(4097<max a.top b.top-k/\(1<a.top-b.top\/1<b.top-a.top))) :
  ak (a.m*2^(a.e-k).toNat)<=4097/\ak (b.m*2^(b.e-k).toNat)<=4097:=by
 have ta:a.top=ak a.m+a.e:=by unfold Dy.top;rw[if_neg a0]
 have tb:b.top=ak b.m+b.e:=by unfold Dy.top;rw[if_neg b0]
 have ba:ak a.m<=4096:=by rcases ha.range with h|⟨h,_⟩;exact absurd h a0;exact h
 have bb:ak b.m<=4096:=by rcases hb.range with h|⟨h,_⟩;exact absurd h b0;exact h
 rw[fu a0,fu b0];omega
theorem IQ{x y n:Nat}(hx:ak x<=n)(hy:ak y<=n):ak (x+y)<=n+1:=by
 rw[cv]at *
 rw[Nat.pow_succ];omega
def a7(m:Nat)(e:Int)(p:Nat):Nat:=(max (max ((ak m:Int)-p) (-16384-e)) 0).toNat
def bX(m:Nat)(e:Int)(more:Bool)(p:Nat)(out:Bool):Nat :=
 m/2^a7 m e p+if out=true/\(more=true\/m%2^a7 m e p≠0)then 1 else 0
def cH(m:Nat)(e:Int)(more:Bool)(p:Nat)(out:Bool):Bool :=
 decide (bX m e more p out≠0)&&decide (16384<(ak (bX m e more p out):Int)+e+a7 m e p)
def bn(neg:Bool)(m:Nat)(e:Int)(more:Bool)(p:Nat)(up:Bool):Dy :=
 if cH m e more p (neg != up)=true then(if(neg != up)=true then aT else canon neg (2^p-1) (16384-p))else canon neg (bX m e more p (neg != up)) (e+a7 m e p)
def bd(neg:Bool)(m:Nat)(e:Int)(more:Bool)(p:Nat)(up:Bool):Int :=
 if(cH m e more p (neg != up)&&(neg != up))=true then 9 else 0
theorem KE{N d k:Nat}:(N/2^d%2^k≠0\/N%2^d≠0)↔N%2^(d+k)≠0:=by
 have e1:N%2^(d+k)=N%2^d+2^d*(N/2^d%2^k):=by rw[Nat.pow_add,Nat.mod_mul]
 have hp:0<2^d:=Nat.pow_pos (by decide);rw[e1];constructor
 .rintro (h|h)
  .have:=Nat.mul_pos hp (Nat.pos_of_ne_zero h)
   omega
  .omega
 .intro h
  by_cases h1:N%2^d=0
  .left
   intro h2;rw[h1,h2,Nat.mul_zero]at h;exact h rfl
  .exact .inr h1
theorem Ks{N:Nat}{E:Int}{more:Bool}{d p:Nat}(hb:p<ak (N/2^d)) :
  a7 (N/2^d) (E+d) p+d=a7 N E p /\
  ∀ out,bX (N/2^d) (E+d) (more||decide (N%2^d≠0)) p out=bX N E more p out:=by
 have hN:d<ak N:=by
  apply Classical.byContradiction;intro h;have h1:N<2^d:=cv.1 (by omega);rw[Nat.div_eq_of_lt h1]at hb;simp[ak]at hb
 have hbits:ak (N/2^d)+d=ak N:=by
  have h0:N/2^d≠0:=by intro h;rw[h]at hb;simp[ak]at hb
  have h1:=iq h0;have h2:=gi (N/2^d);obtain⟨j,hj⟩:∃ j,ak (N/2^d)=j+1:=⟨ak (N/2^d)-1,by omega⟩
  rw[hj]at h1 h2 ⊢;rw[Nat.add_sub_cancel,Nat.le_div_iff_mul_le (Nat.pow_pos (by decide)),<-Nat.pow_add]at h1;rw[Nat.div_lt_iff_lt_mul (Nat.pow_pos (by decide)),<-Nat.pow_add]at h2;have:=kR (k:=j+d) h1 (by rw[show j+d+1=j+1+d by omega];exact h2);omega
 have hk:a7 (N/2^d) (E+d) p+d=a7 N E p:=by
  unfold a7;omega
 refine⟨hk,fun out=>?_⟩;unfold bX;rw[<-hk];generalize a7 (N/2^d) (E+d) p=k;have hdm:=@KE N d k;rw[show k+d=d+k by omega,Nat.div_div_eq_div_mul,<-Nat.pow_add];congr 1;have:((more||decide (N%2^d≠0))=true\/N/2^d%2^k≠0)↔(more=true\/N%2^(d+k)≠0):=by
  rw[<-hdm];simp only[Bool.or_eq_true,decide_eq_true_eq];constructor
  .rintro ((h|h)|h)
   .exact .inl h
   .exact .inr (.inr h)
   .exact .inr (.inl h)
  .rintro (h|h|h)
   .exact .inl (.inl h)
   .exact .inr h
   .exact .inl (.inr h)
 by_cases ho:out=true
 .simp only[ho,true_and,this]
 .rw [if_neg (fun h=>ho h.1),if_neg (fun h=>ho h.1)]
theorem sI{N:Nat}{E:Int}{more:Bool}{d p:Nat}(neg up:Bool)(hb:p<ak (N/2^d)) :
  bn neg (N/2^d) (E+d) (more||decide (N%2^d≠0)) p up=bn neg N E more p up /\
  bd neg (N/2^d) (E+d) (more||decide (N%2^d≠0)) p up=bd neg N E more p up:=by
 obtain⟨hk,hq⟩:=Ks (more:=more) (E:=E) hb;have hq:=hq (neg != up);have e1:E+(d:Int)+(a7 (N/2^d) (E+d) p:Int)=E+(a7 N E p:Int):=by omega
 have e2:(ak (bX N E more p (neg != up)):Int)+(E+(d:Int))+(a7 (N/2^d) (E+d) p:Int)=(ak (bX N E more p (neg != up)):Int)+E+(a7 N E p:Int):=by omega
 have ho:cH (N/2^d) (E+d) (more||decide (N%2^d≠0)) p (neg != up)=cH N E more p (neg != up):=by
  unfold cH;rw[hq,e2]
 unfold bn bd;rw[hq,ho,e1];exact⟨rfl,rfl⟩
theorem vI(s:Bool)(m:Nat)(e:Int)(j:Nat):canon s (m*2^j) (e-j)=canon s m e:=by
 by_cases h0:m=0
 .subst h0;rw[Nat.zero_mul];rfl
 .have h1:m*2^j≠0:=Nat.mul_ne_zero h0 (Nat.ne_of_gt (Nat.pow_pos (by decide)))
  obtain⟨q,hq,he⟩:=nj h0;have hc:aY (m*2^j)=aY m+j:=by
   conv=>lhs;rw[he,Nat.mul_assoc,<-Nat.pow_add]
   exact kW hq _
  unfold canon;rw[if_neg h1,if_neg h0,hc,Nat.pow_add,Nat.mul_comm (2^aY m),<-Nat.div_div_eq_div_mul,Nat.mul_div_cancel _ (Nat.pow_pos (by decide))];rw[show e-(j:Int)+((aY m+j:Nat):Int)=e+(aY m:Int)by omega]
theorem Kr(neg up:Bool)(N:Nat)(E:Int)(j p:Nat)(h0:N≠0) :
  bn neg (N*2^j) (E-j) false p up=bn neg N E false p up/\bd neg (N*2^j) (E-j) false p up=bd neg N E false p up:=by
 have hbits:=fu h0 j;by_cases hk:a7 N E p=0
 .
  have hk2:a7 (N*2^j) (E-j) p<=j:=by unfold a7 at hk ⊢;rw[hbits];omega
  obtain⟨i,hi⟩:∃ i,j=i+a7 (N*2^j) (E-j) p:=⟨j-a7 (N*2^j) (E-j) p,by omega⟩
  generalize hK:a7 (N*2^j) (E-j) p=k at *
  have hdiv:N*2^j/2^k=N*2^i:=by
   rw[hi,Nat.pow_add,<-Nat.mul_assoc,Nat.mul_div_cancel _ (Nat.pow_pos (by decide))]
  have hmod:N*2^j%2^k=0:=by
   rw[hi,Nat.pow_add,<-Nat.mul_assoc];exact Nat.mul_mod_left _ _
  have hq:∀ out,bX (N*2^j) (E-j) false p out=N*2^i:=fun out=>by
   unfold bX;rw[hK,hdiv,hmod];simp
  have hq2:∀ out,bX N E false p out=N:=fun out=>by
   unfold bX;rw[hk];simp[Nat.mod_one]
  have hne:N*2^i≠0:=Nat.mul_ne_zero h0 (Nat.ne_of_gt (Nat.pow_pos (by decide)));have ho:∀ out,cH (N*2^j) (E-j) false p out=cH N E false p out:=fun out=>by
   unfold cH;rw[hq,hq2,hK,hk,fu h0 i];simp only[ne_eq,hne,h0,not_false_eq_true,decide_true,Bool.true_and];rw[decide_eq_decide];omega
  unfold bn bd;rw[ho,hq,hq2,hK,hk];rw[show E-(j:Int)+(k:Int)=E+((0:Nat):Int)-(i:Int)by omega,vI];exact⟨rfl,rfl⟩
 .have hk2:a7 (N*2^j) (E-j) p=a7 N E p+j:=by unfold a7 at hk ⊢;rw[hbits];omega
  have hq:∀ out,bX (N*2^j) (E-j) false p out=bX N E false p out:=fun out=>by
   unfold bX;rw[hk2,Nat.pow_add,Nat.mul_comm (2^a7 N E p),<-Nat.div_div_eq_div_mul,Nat.mul_div_cancel _ (Nat.pow_pos (by decide)),Nat.mul_comm N,Nat.mul_mod_mul_left];have:(2^j*(N%2^a7 N E p)≠0)↔(N%2^a7 N E p≠0):=by
    rw[ne_eq,ne_eq,Nat.mul_eq_zero];have:=Nat.pow_pos (n:=j) (by decide:0<2);omega
   simp only[this]
  have ho:∀ out,cH (N*2^j) (E-j) false p out=cH N E false p out:=fun out=>by
   unfold cH;rw[hq,hk2];congr 2;rw[eq_iff_iff];omega
  unfold bn bd;rw[ho,hq,hk2];rw[show E-(j:Int)+((a7 N E p+j:Nat):Int)=E+(a7 N E p:Int)by omega];exact⟨rfl,rfl⟩
def bq(d:Dy)(p:Nat)(up:Bool):Dy:=bn d.neg d.m d.e false p up
def bg(d:Dy)(p:Nat)(up:Bool):Int:=bd d.neg d.m d.e false p up
theorem Fl(s up:Bool)(m:Nat)(e:Int)(p:Nat)(h0:m≠0) :
  bq (canon s m e) p up=bn s m e false p up/\bg (canon s m e) p up=bd s m e false p up:=by
 have hm:=qk h0;have hq:m/2^aY m≠0:=by have:=pk h0;omega
 have h:=Kr s up (m/2^aY m) (e+aY m) (aY m) p hq;rw[hm,show e+(aY m:Int)-(aY m:Int)=e by omega]at h;unfold bq bg canon;rw[if_neg h0];exact⟨h.1.symm,h.2.symm⟩
theorem ni{s:Bool}{m:Nat}{e:Int}(h0:m≠0):(ak (canon s m e).m:Int)+(canon s m e).e=ak m+e/\e<=(canon s m e).e/\(canon s m e).m≠0/\ak (canon s m e).m<=ak m:=by
 have hm:=qk h0;have hq:m/2^aY m≠0:=by have:=pk h0;omega
 have h:=fu hq (aY m);rw[hm]at h;unfold canon;rw[if_neg h0];simp only;exact⟨by omega,by omega,hq,by omega⟩
theorem BM(m:Nat)(e:Int)(p:Nat):m/2^a7 m e p<2^p:=by
 rw[Nat.div_lt_iff_lt_mul (Nat.pow_pos (by decide)),<-Nat.pow_add];refine cv.1 ?_;unfold a7;omega
theorem J3{s:Bool}{q p:Nat}{e:Int}(h:q<=2^p)(hp:1<=p):ak (canon s q e).m<=p:=by
 by_cases h0:q=0
 .subst h0;exact Nat.zero_le _
 .by_cases h1:q=2^p
  .have hc:aY q=p:=by rw[h1];have:=kW (m:=1) rfl p;rwa[Nat.one_mul]at this
   unfold canon;rw[if_neg h0,hc,h1,Nat.div_self (Nat.pow_pos (by decide))];exact Nat.le_trans (cv.2 (show 1<2^1 by decide)) hp
  .exact Nat.le_trans (ni h0).2.2.2 (cv.2 (by omega))
theorem BC(m:Nat)(e:Int)(more:Bool)(p:Nat)(out:Bool):bX m e more p out<=2^p:=by
 have:=BM m e p;unfold bX;split<;>omega
theorem ia(neg:Bool)(m:Nat)(e:Int)(more:Bool)(p:Nat)(up:Bool)(hp:1<=p)(hp2:p<=4096):(bn neg m e more p up).Valid:=by
 unfold bn;by_cases ho:cH m e more p (neg != up)=true
 .rw [if_pos ho]
  by_cases hn:(neg != up)=true
  .rw [if_pos hn];exact gL
  .rw [if_neg hn]
   have hpp:2<=2^p:=by
    have:=Nat.pow_le_pow_right (n:=2) (by decide) hp;omega
   have h0:2^p-1≠0:=by omega
   have hb:ak (2^p-1)=p:=by
    obtain⟨j,rfl⟩:∃ j,p=j+1:=⟨p-1,by omega⟩
    have h2:2^(j+1)=2^j*2:=Nat.pow_succ _ _;have h3:=Nat.pow_pos (n:=j) (by decide:0<2);exact kR (by omega) (by omega)
   obtain⟨h1,h2,h3,h4⟩:=ni (s:=neg) (e:=(16384:Int)-p) h0;have h5:=dX h3;exact⟨gY _ _ _,.inr ⟨by omega,by omega,by omega,by omega⟩⟩
 .rw [if_neg ho]
  refine⟨gY _ _ _,?_⟩;by_cases h0:bX m e more p (neg != up)=0
  .rw [h0];exact .inl rfl
  .have hq:=J3 (s:=neg) (e:=e+(a7 m e p:Int)) (BC m e more p (neg != up)) hp
   obtain⟨h1,h2,h3,h4⟩:=ni (s:=neg) (e:=e+(a7 m e p:Int)) h0;have h5:=dX h3;have h6:-16384<=e+(a7 m e p:Int):=by unfold a7;omega
   unfold cH at ho;simp only[ne_eq,h0,not_false_eq_true,decide_true,Bool.true_and,decide_eq_true_eq]at ho;exact .inr ⟨by omega,by omega,by omega,by omega⟩
theorem qe{neg:Bool}{m:Nat}{e:Int}{more:Bool}{p:Nat}{up:Bool}:bd neg m e more p up=0↔¬(cH m e more p (neg != up)=true/\(neg != up)=true):=by
 unfold bd;cases cH m e more p (neg != up)<;>cases(neg != up)<;>simp
theorem BD(neg:Bool)(m:Nat)(e:Int)(more:Bool)(p:Nat)(h1:bd neg m e more p false=0)(h2:bd neg m e more p true=0) :
  aD (bn neg m e more p false) (bn neg m e more p true)<=0:=by
 have hout:¬cH m e more p true=true:=by
  cases neg
  .rw [qe]at h2;simpa using h2
  .rw [qe]at h1;simpa using h1
 have hle:bX m e more p false<=bX m e more p true:=by
  unfold bX;simp only[Bool.false_eq_true,false_and,if_false];omega
 have hin:¬cH m e more p false=true:=by
  unfold cH at hout ⊢;intro h;apply hout;simp only[Bool.and_eq_true,decide_eq_true_eq]at h ⊢;have:=jN hle;exact⟨by omega,by omega⟩
 have key:∀ o:Bool,¬cH m e more p o=true:=fun o=>by cases o;exact hin;exact hout
 unfold bn;rw[if_neg (key _),if_neg (key _)];rw[qa (k:=e+(a7 m e p:Int)) (mc (Int.le_refl _)) (mc (Int.le_refl _)),nM (Int.le_refl _),nM (Int.le_refl _)];rw[show(e+(a7 m e p:Int)-(e+(a7 m e p:Int))).toNat=0 by omega];simp only[Nat.pow_zero,Nat.mul_one];unfold ks;cases neg
 .simp only[Bool.false_eq_true,if_false,Bool.false_bne]
  split
  .decide
  .split<;>omega
 .simp only[if_true,Bool.true_bne,Bool.not_false,Bool.not_true]
  split
  .decide
  .split<;>omega
def cX(b:Dy)(low:Int):Nat:=if low<=b.e then b.m*2^(b.e-low).toNat else b.m/2^(low-b.e).toNat
def dz(b:Dy)(low:Int):Bool:=decide (¬low<=b.e)&&decide (b.m%2^(low-b.e).toNat≠0)
theorem F6{a b:Dy}(ha:a.Canon)(hb:b.Canon){K:Int}(h1:K<=a.e)(h2:K<=b.e):av a b=bS (a.num K+b.num K) K:=by
 refine BY (k:=K) (kT ha hb) (gY _ _ _) (r8 (.inr h1) (.inr h2)) (vf (Int.le_refl _)) ?_;rw[uF (.inr h1) (.inr h2),xG (Int.le_refl _),show(K-K).toNat=0 by omega];simp
theorem ur{a b:Dy}(ha:a.Canon)(hb:b.Canon){K:Int}(h1:K<=a.e)(h2:K<=b.e)(s:Bool)(Z:Nat)(h0:Z≠0)(hz:a.num K+b.num K=if s then -(Z:Int)else(Z:Int))(p:Nat)(up:Bool) :
  bq (av a b) p up=bn s Z K false p up/\bg (av a b) p up=bd s Z K false p up:=by
 have:av a b=canon s Z K:=by rw[F6 ha hb h1 h2,hz,sE]
 rw[this];exact Fl s up Z K p h0
theorem tN(d:Dy)(K:Int):d.num K=if d.neg then -(d.aZ K:Int)else(d.aZ K:Int):=rfl
section
variable {a b:Dy} {low:Int} {p:Nat}
theorem yI(a0:a.m≠0)(b0:b.m≠0)(h1:low<=a.e)(h2:low<=a.top-p-8)(h3:low<=b.e\/3<=a.top-b.top) :
  ∃ (K:Int) (d:Nat),K<=a.e/\K<=b.e/\low=K+d/\a.aZ K=a.m*2^(a.e-low).toNat*2^d/\cX b low=b.aZ K/2^d/\(dz b low=decide (b.aZ K%2^d≠0)) /\
   (d=0\/(p+8<=ak (a.m*2^(a.e-low).toNat)/\ak (b.aZ K/2^d)+3<=ak (a.m*2^(a.e-low).toNat))):=by
 have ta:a.top=ak a.m+a.e:=by unfold Dy.top;rw[if_neg a0]
 have tb:b.top=ak b.m+b.e:=by unfold Dy.top;rw[if_neg b0]
 have hx:=fu a0 (a.e-low).toNat
 by_cases h:low<=b.e
 .refine ⟨low,0,h1,h,by omega,by unfold Dy.aZ;simp,?_,?_,.inl rfl⟩
  .unfold cX Dy.aZ;rw[if_pos h];simp
  .unfold dz;simp[h,Nat.mod_one]
 .refine ⟨b.e,(low-b.e).toNat,by omega,Int.le_refl _,by omega,?_,?_,?_,.inr ⟨by omega,?_⟩⟩
  .unfold Dy.aZ
   rw[Nat.mul_assoc,<-Nat.pow_add];congr 2;omega
  .unfold cX Dy.aZ;rw[if_neg h];simp
  .unfold dz Dy.aZ;simp[h]
  .have hm:b.aZ b.e=b.m:=by unfold Dy.aZ;simp
   rw[hm];have hd:ak (b.m/2^(low-b.e).toNat)<=ak b.m-(low-b.e).toNat:=by
    rw[cv,Nat.div_lt_iff_lt_mul (Nat.pow_pos (by decide)),<-Nat.pow_add];exact cv.1 (by omega)
   have:=h3.resolve_left h;omega
theorem RF(ha:a.Canon)(hb:b.Canon)(a0:a.m≠0)(b0:b.m≠0)(h1:low<=a.e)(h2:low<=a.top-p-8)(h3:low<=b.e\/3<=a.top-b.top)(hs:a.neg=b.neg)(up:Bool) :
  bn a.neg (a.m*2^(a.e-low).toNat+cX b low) low (dz b low) p up=bq (av a b) p up/\bd a.neg (a.m*2^(a.e-low).toNat+cX b low) low (dz b low) p up=bg (av a b) p up:=by
 obtain⟨K,d,k1,k2,rfl,hx,hy,hl,hd⟩:=yI (p:=p) a0 b0 h1 h2 h3;generalize a.m*2^(a.e-(K+d)).toNat=x at *
 have ma:=kB a0 K;have mb:=kB b0 K;obtain⟨r1,r2⟩:=ur ha hb k1 k2 a.neg (a.aZ K+b.aZ K) (by omega) (by
  rw[tN a,tN b,<-hs];cases a.neg<;>simp<;>omega) p up
 rw[r1,r2,hy,hl];have e1:(a.aZ K+b.aZ K)/2^d=x+b.aZ K/2^d:=by
  rw[hx,Nat.mul_comm x,Nat.mul_add_div (Nat.pow_pos (by decide))]
 have e2:(a.aZ K+b.aZ K)%2^d=b.aZ K%2^d:=by
  rw[hx,Nat.mul_comm x,Nat.mul_add_mod]
 rcases hd with rfl|⟨hd1,hd2⟩
 .simp only[Nat.pow_zero,Nat.div_one,Nat.mod_one]at e1 ⊢
  rw[<-e1];have:K+((0:Nat):Int)=K:=by omega
  rw[this];simp
 .have hb:p<ak ((a.aZ K+b.aZ K)/2^d):=by
   rw[e1];have:=jN (show x<=x+b.aZ K/2^d by omega);omega
  have h:=sI (E:=K) (more:=false) a.neg up hb;rw[e1,e2,Bool.false_or]at h;exact h
theorem Sk{x N D:Nat}(hD:0<D)(h:N<=x*D):(x*D-N)/D=x-(N/D+if N%D≠0 then 1 else 0)/\((x*D-N)%D≠0↔N%D≠0)/\N/D+(if N%D≠0 then 1 else 0)<=x:=by
 have hN:=Nat.div_add_mod N D;have hr:=Nat.mod_lt N hD;generalize N/D=q at *
 generalize N%D=r at *
 by_cases h0:r=0
 .subst h0
  simp only[ne_eq,not_true_eq_false,if_false,Nat.add_zero]at hN ⊢;have hq:q<=x:=by
   apply Classical.byContradiction;intro h';have:=Nat.mul_le_mul_right D (show x+1<=q by omega);rw[Nat.add_mul,Nat.mul_comm q]at this;omega
  have e:x*D-N=(x-q)*D:=by rw[Nat.sub_mul,<-hN,Nat.mul_comm q]
  rw[e,Nat.mul_div_cancel _ hD,Nat.mul_mod_left];exact⟨rfl,by simp,hq⟩
 .have hq:q+1<=x:=by
   apply Classical.byContradiction;intro h';have:=Nat.mul_le_mul_right D (show x<=q by omega);rw[Nat.mul_comm q]at this;omega
  have e:x*D-N=(D-r)+D*(x-(q+1)):=by
   have h1:D*(x-(q+1))=D*x-D*(q+1):=Nat.mul_sub _ _ _;have h2:D*(q+1)<=D*x:=Nat.mul_le_mul_left _ hq;rw[Nat.mul_add,Nat.mul_one]at h1 h2;rw[Nat.mul_comm x];omega
  have hlt:D-r<D:=by omega
  rw[e,Nat.add_mul_div_left _ _ hD,Nat.div_eq_of_lt hlt,Nat.add_mul_mod_self_left,Nat.mod_eq_of_lt hlt];simp only[ne_eq,h0,not_false_eq_true,if_true];exact⟨by omega,⟨fun _=>trivial,fun _=>by omega⟩,hq⟩
theorem RE(ha:a.Canon)(hb:b.Canon)(a0:a.m≠0)(b0:b.m≠0)(h1:low<=a.e)(h2:low<=a.top-p-8)(h3:low<=b.e\/3<=a.top-b.top)(hs:a.neg≠b.neg)(up:Bool) :
  (a.m*2^(a.e-low).toNat<cX b low+(if dz b low=true then 1 else 0) ->
   bn (!a.neg) (cX b low+(if dz b low=true then 1 else 0)-a.m*2^(a.e-low).toNat) low false p up=bq (av a b) p up/\bd (!a.neg) (cX b low+(if dz b low=true then 1 else 0)-a.m*2^(a.e-low).toNat) low false p up=bg (av a b) p up) /\
  (cX b low+(if dz b low=true then 1 else 0)<=a.m*2^(a.e-low).toNat ->
   (a.m*2^(a.e-low).toNat-(cX b low+(if dz b low=true then 1 else 0))=0/\dz b low=false->av a b=aT) /\
   (¬(a.m*2^(a.e-low).toNat-(cX b low+(if dz b low=true then 1 else 0))=0/\dz b low=false) ->
    bn a.neg (a.m*2^(a.e-low).toNat-(cX b low+(if dz b low=true then 1 else 0))) low (dz b low) p up=bq (av a b) p up/\bd a.neg (a.m*2^(a.e-low).toNat-(cX b low+(if dz b low=true then 1 else 0))) low (dz b low) p up=bg (av a b) p up)):=by
 obtain⟨K,d,k1,k2,rfl,hx,hy,hl,hd⟩:=yI (p:=p) a0 b0 h1 h2 h3;generalize a.m*2^(a.e-(K+d)).toNat=x at *
 have ma:=kB a0 K;have mb:=kB b0 K;have hnum:a.num K+b.num K=if a.neg then(b.aZ K:Int)-a.aZ K else(a.aZ K:Int)-b.aZ K:=by
  rw[tN a,tN b];cases h:a.neg<;>cases h':b.neg<;>simp[h,h']at hs ⊢ <;> omega
 rw[hy,hl];rcases hd with rfl|⟨hd1,hd2⟩
 .
  rw[Nat.pow_zero,Nat.mul_one]at hx;have e0:K+((0:Nat):Int)=K:=by omega
  simp only[Nat.pow_zero,Nat.div_one,Nat.mod_one,ne_eq,not_true_eq_false,decide_false,Bool.false_eq_true,if_false,Nat.add_zero,e0,and_true];refine⟨fun hlt=>?_,fun hle=>⟨fun hz=>?_,fun hz=>?_⟩⟩
  .obtain ⟨r1,r2⟩:=ur ha hb k1 k2 (!a.neg) (b.aZ K-x) (by omega) (by
    rw[hnum,hx];cases a.neg<;>simp<;>omega) p up
   exact⟨r1.symm,r2.symm⟩
  .rw [F6 ha hb k1 k2,hnum,hx]
   have:x=b.aZ K:=by omega
   rw[this];cases a.neg<;>simp[bS,canon,aT]
  .obtain ⟨r1,r2⟩:=ur ha hb k1 k2 a.neg (x-b.aZ K) (by omega) (by
    rw[hnum,hx];cases a.neg<;>simp<;>omega) p up
   exact⟨r1.symm,r2.symm⟩
 .
  have hD:=Nat.pow_pos (n:=d) (by decide:0<2);have hx0:x≠0:=by intro h;rw[h]at hd1;simp[ak]at hd1
  obtain⟨j,hj⟩:∃ j,ak x=j+3:=⟨ak x-3,by omega⟩
  have hxl:=iq hx0;rw[hj,show j+3-1=j+2 by omega,Nat.pow_add]at hxl;have hyl:b.aZ K/2^d<2^j:=cv.1 (by omega);have hle:b.aZ K<=x*2^d:=by
   have h5:=Nat.div_add_mod (b.aZ K) (2^d);have h6:=Nat.mod_lt (b.aZ K) hD;have h7:2^d*(b.aZ K/2^d+1)<=2^d*x:=Nat.mul_le_mul_left _ (by omega);rw[Nat.mul_add,Nat.mul_one,Nat.mul_comm _ x]at h7;omega
  obtain⟨e1,e2,e3⟩:=Sk hD hle;have hc:(if decide (b.aZ K%2^d≠0)=true then 1 else 0)=(if b.aZ K%2^d≠0 then 1 else 0):=by simp only[decide_eq_true_eq]
  rw[hc];have hbig:p<ak (x-(b.aZ K/2^d+if b.aZ K%2^d≠0 then 1 else 0)):=by
   have h8:2^(j+1)<=x-(b.aZ K/2^d+if b.aZ K%2^d≠0 then 1 else 0):=by
    rw[Nat.pow_succ];have h9:2^j*2^2<=x:=hxl;have h10:=Nat.pow_pos (n:=j) (by decide:0<2);split<;>omega
   have:=jz.2 h8;omega
  refine⟨fun hlt=>by omega,fun _=>⟨fun hz=>?_,fun _=>?_⟩⟩
  .exfalso
   rw[hz.1]at hbig;simp[ak]at hbig
  .obtain ⟨r1,r2⟩:=ur ha hb k1 k2 a.neg (a.aZ K-b.aZ K) (by
    intro h;rw[<-hx,h,Nat.zero_div]at e1;rw[<-e1]at hbig;simp[ak]at hbig) (by
    rw[hnum];cases a.neg<;>simp<;>omega) p up
   rw[r1,r2,hx];rw[<-e1]at hbig ⊢;have h:=sI (E:=K) (more:=false) a.neg up hbig;rw[Bool.false_or]at h;have e4:decide ((x*2^d-b.aZ K)%2^d≠0)=decide (b.aZ K%2^d≠0):=decide_eq_decide.2 e2;rw[e4]at h;exact h
end
def aG(m:Nat)(e:Int)(p:Nat):Int:=max (e+ak m-p) (-16384)
def dC(m:Nat)(e:Int)(more:Bool)(p:Nat)(up:Bool):Nat :=
 if aG m e p<=e then m*2^(e-aG m e p).toNat else m/2^(aG m e p-e).toNat+if(up&&(more||decide (m%2^(aG m e p-e).toNat≠0)))=true then 1 else 0
theorem BB{m:Nat}{e:Int}{more:Bool}{p:Nat}(up:Bool)(h0:m≠0)(hm:more=true->p<ak m)(hp:1<=p) :
  (ak (dC m e more p up):Int)+aG m e p<=16384/\bn false m e more p up=canon false (dC m e more p up) (aG m e p)/\bd false m e more p up=0 \/
  16384<(ak (dC m e more p up):Int)+aG m e p/\((up=true/\bn false m e more p up=aT/\bd false m e more p up=9)\/(up=false/\bn false m e more p up=canon false (2^p-1) (16384-p)/\bd false m e more p up=0)):=by
 have hout:(false != up)=up:=by cases up<;>rfl
 by_cases hU:aG m e p<=e
 .
  have hmf:more=false:=by
   cases hmore:more with
   | false=>rfl
   | true=>have:=hm hmore;unfold aG at hU;omega
  subst hmf;have hK:a7 m e p=0:=by unfold aG at hU;unfold a7;omega
  have hQ:bX m e false p up=m:=by unfold bX;rw[hK];simp[Nat.mod_one]
  have hP:dC m e false p up=m*2^(e-aG m e p).toNat:=by unfold dC;rw[if_pos hU]
  have hb:ak (dC m e false p up)=ak m+(e-aG m e p).toNat:=by rw[hP];exact fu h0 _
  have hc:canon false (dC m e false p up) (aG m e p)=canon false m e:=by
   rw[hP];have:=vI false m e (e-aG m e p).toNat
   rwa[show e-((e-aG m e p).toNat:Int)=aG m e p by omega]at this
  have hO:cH m e false p up=decide (16384<(ak m:Int)+e):=by
   unfold cH;rw[hQ,hK];simp[h0]
  by_cases hov:16384<(ak m:Int)+e
  .refine .inr ⟨by omega,?_⟩
   unfold bn bd;rw[hout,hO,decide_eq_true hov];cases up
   .exact .inr ⟨rfl,rfl,rfl⟩
   .exact .inl ⟨rfl,rfl,rfl⟩
  .refine .inl ⟨by omega,?_,?_⟩
   .unfold bn
    rw[hout,hO,decide_eq_false hov,if_neg (by decide),hQ,hK,hc];simp
   .unfold bd
    rw[hout,hO,decide_eq_false hov];simp
 .have hK:a7 m e p=(aG m e p-e).toNat:=by unfold aG at hU ⊢;unfold a7;omega
  have hQ:bX m e more p up=dC m e more p up:=by
   unfold bX dC;rw[if_neg hU,hK];congr 1;cases up<;>cases more<;>simp
  have heK:e+(a7 m e p:Int)=aG m e p:=by rw[hK];omega
  have hne:16384<(ak (dC m e more p up):Int)+aG m e p->dC m e more p up≠0:=by
   intro h hz;have hp0:m/2^(aG m e p-e).toNat=0:=by
    unfold dC at hz;rw[if_neg hU]at hz;exact(Nat.add_eq_zero_iff.1 hz).1
   have hlt:m<2^(aG m e p-e).toNat:=by
    rcases Nat.div_eq_zero_iff.1 hp0 with h|h
    .exact absurd h (Nat.ne_of_gt (Nat.pow_pos (by decide)))
    .exact h
   have:=cv.2 hlt;rw[hz,gQ]at h;have hpos:=dX h0;unfold aG at h hU this;omega
  have hO:cH m e more p up=decide (16384<(ak (dC m e more p up):Int)+aG m e p):=by
   unfold cH;rw[hQ,show(ak (dC m e more p up):Int)+e+(a7 m e p:Int)=(ak (dC m e more p up):Int)+aG m e p by omega];by_cases hov:16384<(ak (dC m e more p up):Int)+aG m e p
   .simp [hne hov]
   .simp [hov]
  by_cases hov:16384<(ak (dC m e more p up):Int)+aG m e p
  .refine .inr ⟨hov,?_⟩
   unfold bn bd;rw[hout,hO,decide_eq_true hov];cases up
   .exact .inr ⟨rfl,rfl,rfl⟩
   .exact .inl ⟨rfl,rfl,rfl⟩
  .refine .inl ⟨by omega,?_,?_⟩
   .unfold bn
    rw[hout,hO,decide_eq_false hov,if_neg (by decide),hQ,heK]
   .unfold bd
    rw[hout,hO,decide_eq_false hov];simp
theorem BA{m:Nat}{e:Int}{more:Bool}{p:Nat}{up:Bool}(h0:m≠0):ak (dC m e more p up)<=p+1:=by
 unfold dC;split
 .rename_i h
  rw[fu h0];unfold aG at h ⊢;omega
 .rename_i h
  have h1:m/2^(aG m e p-e).toNat<2^p:=by
   rw[Nat.div_lt_iff_lt_mul (Nat.pow_pos (by decide)),<-Nat.pow_add];refine cv.1 ?_;unfold aG at h ⊢;omega
  refine cv.2 ?_;rw[Nat.pow_succ];have:0<2^p:=Nat.pow_pos (by decide);split<;>omega
theorem en{m k:Nat}(h:ak m<=32*k):(af m).length<=k:=by
 refine jy ?_;rw[gG];exact cv.1 h
theorem nc{m k:Nat}(h:(af m).length<=k):ak m<=32*k:=by
 have:=pg h;rw[gG]at this;exact cv.2 this
theorem BO{m n:Nat}(h:ak m<=n):m/2^n=0/\m%2^n=m:=by
 have:=cv.1 h;exact⟨Nat.div_eq_of_lt this,Nat.mod_eq_of_lt this⟩
theorem Dt(m n:Nat):(bH (m/2^n*2^n) m != 0)=decide (m%2^n≠0):=by
 have h:=Nat.div_add_mod m (2^n);rw[Nat.mul_comm]at h;unfold bH;by_cases h0:m%2^n=0
 .rw [if_neg (by omega),if_neg (by omega)];simp[h0]
 .rw [if_pos (by omega)];simp[h0]
theorem BF(neg:Bool)(m:Nat)(e:Int)(more:Bool)(p:Nat)(up:Bool) :
  bd neg m e more p up=bd false m e more p (up != neg) /\
  (bd false m e more p (up != neg)=0->neg=true->aC (bn false m e more p (up != neg))=bn neg m e more p up) /\
  ((bd false m e more p (up != neg)≠0\/neg=false)->bn false m e more p (up != neg)=bn neg m e more p up):=by
 have hout:(false != (up != neg))=(neg != up):=by cases up<;>cases neg<;>rfl
 have hE:bd neg m e more p up=bd false m e more p (up != neg):=by unfold bd;rw[hout]
 refine⟨hE,fun h hn=>?_,fun h=>?_⟩
 .have h':=qe.1 h
  rw[hout]at h';have neg_canon:∀ q u,aC (canon false q u)=canon true q u:=by
   intro q u;unfold canon aC;by_cases hq:q=0
   .simp [hq]
   .rw [if_neg hq,if_neg hq]
    have:=pk hq;have h0:q/2^aY q≠0:=by omega
    simp[h0]
  subst hn;unfold bn;rw[hout];by_cases ho:cH m e more p (true != up)=true
  .have hu:(true != up)=false:=by
    cases hq:(true != up)with
    | false=>rfl
    | true=>exact absurd ⟨ho,hq⟩ h'
   rw[if_pos ho,if_pos ho,hu];simp only[Bool.false_eq_true,if_false];exact neg_canon _ _
  .rw [if_neg ho,if_neg ho]
   exact neg_canon _ _
 .rcases h with h|h
  .have h1:cH m e more p (neg != up)=true/\(neg != up)=true:=by
    by_cases q:cH m e more p (neg != up)=true/\(neg != up)=true
    .exact q
    .exact absurd (qe.2 (by rw[hout];exact q)) h
   unfold bn;rw[hout,if_pos h1.1,if_pos h1.2,if_pos h1.1,if_pos h1.2]
  .subst h
   cases up<;>rfl
def aH(a b:Dy)(p:Nat):Int:=if a.top-b.top<=2 then min (min a.e (a.top-p-8)) b.e else min a.e (a.top-p-8)
def dF(a b:Dy)(p:Nat):Nat:=a.m*2^(a.e-aH a b p).toNat
def cV(a b:Dy)(p:Nat):Nat:=cX b (aH a b p)+if(a.neg != b.neg&&dz b (aH a b p))=true then 1 else 0
def eB(a b:Dy)(p:Nat):Bool:=(a.neg != b.neg)&&decide (dF a b p<cV a b p)
def cw(a b:Dy)(p:Nat):Nat:=if a.neg=b.neg then dF a b p+cV a b p else if dF a b p<cV a b p then cV a b p-dF a b p else dF a b p-cV a b p
def dq(a b:Dy)(p:Nat):Bool:=dz b (aH a b p) && !eB a b p
theorem yC(a b:Dy)(p:Nat):aH a b p<=a.e/\aH a b p<=a.top-p-8/\(aH a b p<=b.e\/3<=a.top-b.top):=by
 unfold aH;split<;>omega
theorem rI{a:Dy}(a0:a.m≠0):a.top=ak a.m+a.e:=by unfold Dy.top;rw[if_neg a0]
structure Hf(a b:Dy)(p:Nat):Prop where
 lo:-17000<=aH a b p
 hi:aH a b p<=16384
 x:ak (dF a b p)<=4100
 x0:dF a b p≠0
 sh:(a.e-aH a b p).toNat<=60000
 T2:(b.e-aH a b p).toNat<=60000
 T3:(aH a b p-b.e).toNat<=60000
 y:ak (cX b (aH a b p))<=4100
 l:dz b (aH a b p)=true->p+8<=ak (dF a b p)/\ak (cX b (aH a b p))+3<=ak (dF a b p)
theorem uH{a b:Dy}{p:Nat}(ha:a.Valid)(hb:b.Valid)(a0:a.m≠0)(b0:b.m≠0)(ht:b.top<=a.top)(hp2:p<=512):Hf a b p:=by
 have ra:=ha.range.resolve_left a0;have rb:=hb.range.resolve_left b0;have ta:=rI a0;have tb:=rI b0;obtain⟨h1,h2,h3⟩:=yC a b p;have hx:ak (dF a b p)=ak a.m+(a.e-aH a b p).toNat:=fu a0 _;have hlow:aH a b p=a.e\/aH a b p=a.top-p-8\/(a.top-b.top<=2/\aH a b p=b.e):=by unfold aH;split<;>omega
 have hy:ak (cX b (aH a b p))<=ak (dF a b p):=by
  unfold cX;split
  .rw [fu b0];omega
  .have:ak (b.m/2^(aH a b p-b.e).toNat)<=ak b.m-(aH a b p-b.e).toNat:=by
    rw[cv,Nat.div_lt_iff_lt_mul (Nat.pow_pos (by decide)),<-Nat.pow_add];exact cv.1 (by omega)
   omega
 have pa:=dX a0;have pb:=dX b0;refine⟨by omega,by omega,by omega,?_,by omega,by omega,by omega,by omega,fun hl=>?_⟩
 .intro h
  unfold dF at h;exact(Nat.mul_ne_zero a0 (Nat.ne_of_gt (Nat.pow_pos (by decide)))) h
 .obtain ⟨K,d,k1,k2,k3,k4,k5,k6,k7⟩:=yI (p:=p) a0 b0 h1 h2 h3
  rcases k7 with rfl|⟨k7,k8⟩
  .rw [k6]at hl;simp[Nat.mod_one]at hl
  .rw [k5];exact⟨k7,k8⟩
theorem y4{a b:Dy}{p:Nat}(ha:a.Valid)(hb:b.Valid)(a0:a.m≠0)(b0:b.m≠0)(ht:b.top<=a.top)(hp2:p<=512) :
  ak (cV a b p)<=4101/\ak (cw a b p)<=4102/\(dq a b p=true->p<ak (cw a b p)):=by
 obtain⟨l1,l2,l3,l4,l5,l6,l7,l8,l9⟩:=uH ha hb a0 b0 ht hp2;have hy:cV a b p<=cX b (aH a b p)+1:=by unfold cV;split<;>omega
 obtain⟨K,hK⟩:∃ K:Nat,K=4100:=⟨_,rfl⟩
 have g1:4101=K+1:=by omega
 have g2:4102=K+2:=by omega
 rw[g1,g2];rw[<-hK]at l3 l8;have hy4:cX b (aH a b p)<2^K:=cv.1 l8;have hx4:dF a b p<2^K:=cv.1 l3;have e1:(2:Nat)^(K+1)=2*2^K:=by rw[Nat.pow_succ];omega
 have e2:(2:Nat)^(K+2)=4*2^K:=by rw[Nat.pow_add];omega
 generalize (2:Nat)^K=Z at *
 refine⟨cv.2 (by omega),cv.2 ?_,fun hl=>?_⟩
 .unfold cw;split
  .omega
  .split<;>omega
 .unfold dq at hl
  simp only[Bool.and_eq_true,Bool.not_eq_true']at hl;obtain⟨q1,q2⟩:=l9 hl.1;have hX:2^(ak (dF a b p)-1)<=dF a b p:=iq l4;rw[jz];have hY:cX b (aH a b p)<2^(ak (dF a b p)-3):=cv.1 (by omega);have e3:(2:Nat)^(ak (dF a b p)-1)=4*2^(ak (dF a b p)-3):=by
   rw[show ak (dF a b p)-1=(ak (dF a b p)-3)+2 by omega,Nat.pow_add];omega
  have hp:(2:Nat)^p<=2^(ak (dF a b p)-3):=Nat.pow_le_pow_right (by decide) (by omega);unfold cw;split
  .omega
  .rename_i hs
   unfold eB at hl;rw[if_neg (by
    have:=hl.2;simp[hs]at this;omega)]
   omega
theorem Ge{a b:Dy}{p:Nat}(ha:a.Valid)(hb:b.Valid)(a0:a.m≠0)(b0:b.m≠0)(up:Bool) :
  (cw a b p=0/\dq a b p=false->av a b=aT) /\
  (¬(cw a b p=0/\dq a b p=false)->bn (a.neg != eB a b p) (cw a b p) (aH a b p) (dq a b p) p up=bq (av a b) p up/\bd (a.neg != eB a b p) (cw a b p) (aH a b p) (dq a b p) p up=bg (av a b) p up):=by
 obtain⟨h1,h2,h3⟩:=yC a b p;by_cases hs:a.neg=b.neg
 .have hn:(a.neg != b.neg)=false:=by rw[hs];simp
  have e1:eB a b p=false:=by unfold eB;rw[hn];rfl
  have e2:dq a b p=dz b (aH a b p):=by unfold dq;rw[e1];simp
  have e3:cw a b p=a.m*2^(a.e-aH a b p).toNat+cX b (aH a b p):=by unfold cw;rw[if_pos hs];unfold dF cV;rw[hn];simp
  have hx:cw a b p≠0:=by
   rw[e3];have:=Nat.mul_ne_zero a0 (Nat.ne_of_gt (Nat.pow_pos (n:=(a.e-aH a b p).toNat) (show 0<2 by decide)));omega
  refine⟨fun h=>absurd h.1 hx,fun _=>?_⟩;rw[e1,e2,e3];have:=RF ha.canon hb.canon a0 b0 h1 h2 h3 hs up;cases hA:a.neg<;>rw[hA]at this<;>exact this
 .have hn:(a.neg != b.neg)=true:=by simpa using hs
  have eY:cV a b p=cX b (aH a b p)+if dz b (aH a b p)=true then 1 else 0:=by unfold cV;rw[hn];simp
  obtain⟨r1,r2⟩:=RE (p:=p) ha.canon hb.canon a0 b0 h1 h2 h3 hs up;rw[<-eY]at r1 r2;change dF a b p<cV a b p->_ at r1;change cV a b p<=dF a b p->_ at r2;by_cases hc:dF a b p<cV a b p
  .have e1:eB a b p=true:=by unfold eB;rw[hn,decide_eq_true hc];rfl
   have e2:dq a b p=false:=by unfold dq;rw[e1];simp
   have e3:cw a b p=cV a b p-dF a b p:=by unfold cw;rw[if_neg hs,if_pos hc]
   rw[e1,e2,e3];refine⟨fun h=>by omega,fun _=>?_⟩;have:=r1 hc;cases hA:a.neg<;>rw[hA]at this<;>exact this
  .have e1:eB a b p=false:=by unfold eB;rw[hn,decide_eq_false hc];rfl
   have e2:dq a b p=dz b (aH a b p):=by unfold dq;rw[e1];simp
   have e3:cw a b p=dF a b p-cV a b p:=by unfold cw;rw[if_neg hs,if_neg hc]
   rw[e1,e2,e3];obtain⟨q1,q2⟩:=r2 (by omega);refine⟨q1,fun h=>?_⟩;have:=q2 h;cases hA:a.neg<;>rw[hA]at this<;>exact this
end Go.Proofs.YtdgnpeddgdclhaaGreatDoor.Fp
namespace Go.Proofs.YtdgnpeddgdclhaaGreatDoor
open Go.RowKit Fp
theorem IT(a b:Nat):ak (a*b)<=ak a+ak b:=by
 rw[cv,Nat.pow_add];exact Nat.mul_lt_mul'' (gi a) (gi b)
theorem Q7(a:Dy)(A:Option Addr)(c:Nat)(w:World)(h:Sl w A c (af a.m))(ha:a.Valid) :
  Calls Tryz.prog 46 #[DV a A c] w fun e w'=>e = .returned (.bool true)/\Ext w w' :=
 uj a.neg A c (af a.m) a.e w true h (by have:=ha.exp;omega) (by have:=ha.exp;omega) (by simp[ha.jl])
theorem Q4(a:Dy)(A:Option Addr)(c:Nat)(w:World)(h:Sl w A c (af a.m)) :
  Calls Tryz.prog 47 #[DV a A c] w fun e w'=>e = .returned (.int .i64 a.sign)/\Ext w w':=by
 have:=Q3 a.neg A c (af a.m) a.e w h (jf _);rw[bc]at this;exact this
theorem Q6(a:Dy)(A:Option Addr)(c:Nat)(w:World)(h:Sl w A c (af a.m))(ha:lY a) :
  Calls Tryz.prog 97 #[DV a A c] w fun e w'=>e = .returned (.int .i64 a.top)/\Ext w w':=by
 have:=Q5 a.neg A c (af a.m) a.e w h (jf _) (by have:=ha.len;omega) (by have:=ha.lo;omega) (by have:=ha.hi;omega);rw[bc]at this;exact this
open Go.RowKit Fp
theorem sF(d:Dy)(A:Option Addr)(c:Nat)(w:World)(hs:Sl w A c (af d.m))(hl:(af d.m).length<=100000000)(he1:-10000000<=d.e)(he2:d.e<=10000000) :
  Calls Tryz.prog 78 #[DV d A c] w (ix w (aO d) (bV d)):=by
 by_cases hd:cY d
 .rw [mj hd,pZ hd];exact Bm d A c w hs hl he1 he2 hd
 .rw [sG hd,pY hd];exact Kb d A c w hs hl he1 he2 hd
theorem vG(s:Bool)(m:Nat)(e:Int){n:Nat}(hm:(af m).length<=n):(af (canon s m e).m).length<=n/\e<=max (canon s m e).e e/\((canon s m e).e<=max 0 (e+32*n))/\min 0 e<=(canon s m e).e:=by
 unfold canon;by_cases h0:m=0
 .rw [if_pos h0];simp only[dP]
  exact⟨Nat.zero_le _,by omega,by omega,by omega⟩
 .rw [if_neg h0]
  have h1:aY m<32*n:=by
   have h1:=q7 h0;have h2:=pg hm;rw[gG]at h2;exact(Nat.pow_lt_pow_iff_right (by decide:1<2)).1 (Nat.lt_of_le_of_lt h1 h2)
  exact⟨Nat.le_trans (cJ (Nat.div_le_self _ _)) hm,by omega,by simp only;omega,by simp only;omega⟩
theorem oF(s:Bool)(m:Nat)(e:Int)(A:Option Addr)(c:Nat)(w:World)(hs:Sl w A c (af m))(hl:(af m).length<=256)(he1:-1000000<=e)(he2:e<=1000000)(hTb:Tb w) :
  Calls Tryz.prog 79 #[.bool s,.slice A (af m).length c,.int .i64 e] w (kj w (canon s m e)):=by
 have:=sN s A c (af m) e w hs (by omega) (by have:=eD (af m);unfold cN at this;omega) he1 he2 hTb;rw[bc]at this;exact this
theorem xE{m:Nat}(h:m=0):(((af m).length:Int)==0)=true:=by rw[h,dP];rfl
theorem tZ{m:Nat}(h:m≠0):(((af m).length:Int)==0)=false:=by
 refine beq_eq_false_iff_ne.2 ?_;have:af m≠[]:=fun e=>h (Di.1 e)
 have:=List.length_pos_iff.2 this;omega
theorem KU(a b:Dy)(A B:Option Addr)(c d:Nat)(w:World)(_hs:Sl w A c (af a.m))(hr:Sl w B d (af b.m))(hTb:Tb w)(hb:b.Valid)(h0:a.m=0) :
  Calls Tryz.prog 190 #[DV a A c,DV b B d] w (ix w (aO (av a b)) (bV (av a b))):=by
 have hsum:av a b=b:=by unfold av;rw[if_pos h0]
 rw[hsum,mj hb.range,pZ hb.range];have hl:=hb.len;obtain⟨he1,he2⟩:=hb.exp;have HC:=Lib.hid (fun w (h:Sl w B d (af b.m)) (ht:Tb w)=>oF b.neg b.m b.e B d w h hl (by omega) (by omega) ht);rw[hb.canon.oD]at HC;have n0:=xE h0;clear hsum h0
 have hE:=((Ext.alloc w (.cells #[.bool b.neg,.slice B ((af b.m).length) d,.int .i64 b.e] 31)).trans (Ext.alloc (w.alloc (.cells #[.bool b.neg,.slice B ((af b.m).length) d,.int .i64 b.e] 31)) (.cells #[.bool b.neg,.slice B ((af b.m).length) d,.int .i64 b.e] 31))).trans (Ext.alloc ((w.alloc (.cells #[.bool b.neg,.slice B ((af b.m).length) d,.int .i64 b.e] 31)).alloc (.cells #[.bool b.neg,.slice B ((af b.m).length) d,.int .i64 b.e] 31)) (.cells #[.bool false,.slice none 0 0,.int .i64 0] 31))
 have b1:=((aJ.newAt (W:=w) (g:=w.heap.size) (by simp) b.neg B ((af b.m).length) d b.e).alloc (.cells #[.bool b.neg,.slice B ((af b.m).length) d,.int .i64 b.e] 31)).alloc (.cells #[.bool false,.slice none 0 0,.int .i64 0] 31)
 have b2:=(aJ.newAt (W:=(w.alloc (.cells #[.bool b.neg,.slice B ((af b.m).length) d,.int .i64 b.e] 31))) (g:=w.heap.size+1) (by simp) b.neg B ((af b.m).length) d b.e).alloc (.cells #[.bool false,.slice none 0 0,.int .i64 0] 31)
 have b3:=aJ.newAt (W:=((w.alloc (.cells #[.bool b.neg,.slice B ((af b.m).length) d,.int .i64 b.e] 31)).alloc (.cells #[.bool b.neg,.slice B ((af b.m).length) d,.int .i64 b.e] 31))) (g:=w.heap.size+2) (by simp) false none 0 0 0;replace hr:=hr.below hE;replace hTb:=hTb.below hE;go_enter Tryz.func190,Tryz.ntmps190;go_wp2_with fail
 (with_reducible refine(HC.out _ hr hTb).mono ?_)
 rintro r w1 ⟨A_h4,c_h4,rfl,h4,hb⟩;replace hE:=hE.trans hb;replace hr:=hr.below hb;replace hTb:=hTb.below hb;replace b1:=b1.ext hb;replace b2:=b2.ext hb;replace b3:=b3.ext hb;clear hb;have xb30:=b3.c0;have yb30:=b3.fr 0;have xb31:=b3.c1;have yb31:=b3.fr 1;have xb32:=b3.c2;have yb32:=b3.fr 2;go_wp2
 exact jm (d:=b) rfl rfl rfl rfl (b3.set _ _ _ _ _) rfl (b3.fF h4 _ _ _ _ _) (aJ.fi hE (by omega) _ _ _ _ _)
theorem KV(a b:Dy)(A B:Option Addr)(c d:Nat)(w:World)(hs:Sl w A c (af a.m))(hTb:Tb w)(ha:a.Valid)(h1:a.m≠0)(h0:b.m=0) :
  Calls Tryz.prog 190 #[DV a A c,DV b B d] w (ix w (aO (av a b)) (bV (av a b))):=by
 have hsum:av a b=a:=by unfold av;rw[if_neg h1,if_pos h0]
 rw[hsum,mj ha.range,pZ ha.range];have hl:=ha.len;obtain⟨he1,he2⟩:=ha.exp;have HC:=Lib.hid (fun w (h:Sl w A c (af a.m)) (ht:Tb w)=>oF a.neg a.m a.e A c w h hl (by omega) (by omega) ht);rw[ha.canon.oD]at HC;have n0:=xE h0;have n1:=tZ h1;clear hsum h0 h1
 have hE:=((Ext.alloc w (.cells #[.bool a.neg,.slice A ((af a.m).length) c,.int .i64 a.e] 31)).trans (Ext.alloc (w.alloc (.cells #[.bool a.neg,.slice A ((af a.m).length) c,.int .i64 a.e] 31)) (.cells #[.bool b.neg,.slice B ((af b.m).length) d,.int .i64 b.e] 31))).trans (Ext.alloc ((w.alloc (.cells #[.bool a.neg,.slice A ((af a.m).length) c,.int .i64 a.e] 31)).alloc (.cells #[.bool b.neg,.slice B ((af b.m).length) d,.int .i64 b.e] 31)) (.cells #[.bool false,.slice none 0 0,.int .i64 0] 31))
 have b1:=((aJ.newAt (W:=w) (g:=w.heap.size) (by simp) a.neg A ((af a.m).length) c a.e).alloc (.cells #[.bool b.neg,.slice B ((af b.m).length) d,.int .i64 b.e] 31)).alloc (.cells #[.bool false,.slice none 0 0,.int .i64 0] 31)
 have b2:=(aJ.newAt (W:=(w.alloc (.cells #[.bool a.neg,.slice A ((af a.m).length) c,.int .i64 a.e] 31))) (g:=w.heap.size+1) (by simp) b.neg B ((af b.m).length) d b.e).alloc (.cells #[.bool false,.slice none 0 0,.int .i64 0] 31)
 have b3:=aJ.newAt (W:=((w.alloc (.cells #[.bool a.neg,.slice A ((af a.m).length) c,.int .i64 a.e] 31)).alloc (.cells #[.bool b.neg,.slice B ((af b.m).length) d,.int .i64 b.e] 31))) (g:=w.heap.size+2) (by simp) false none 0 0 0;replace hs:=hs.below hE;replace hTb:=hTb.below hE;go_enter Tryz.func190,Tryz.ntmps190;go_wp2_with fail
 (with_reducible refine(HC.out _ hs hTb).mono ?_)
 rintro r w1 ⟨A_h4,c_h4,rfl,h4,hb⟩;replace hE:=hE.trans hb;replace hs:=hs.below hb;replace hTb:=hTb.below hb;replace b1:=b1.ext hb;replace b2:=b2.ext hb;replace b3:=b3.ext hb;clear hb;have xb30:=b3.c0;have yb30:=b3.fr 0;have xb31:=b3.c1;have yb31:=b3.fr 1;have xb32:=b3.c2;have yb32:=b3.fr 2;go_wp2
 exact jm (d:=a) rfl rfl rfl rfl (b3.set _ _ _ _ _) rfl (b3.fF h4 _ _ _ _ _) (aJ.fi hE (by omega) _ _ _ _ _)
theorem vZ(a:Dy)(A:Option Addr)(c:Nat)(w:World)(h:Sl w A c (af a.m))(ha:a.Valid) :
  Calls Tryz.prog 130 #[DV a A c] w fun e w'=>e = .returned (.int .i64 a.top)/\Ext w w':=by
 have:=vY a.neg A c (af a.m) a.e w h ha.jl;rw[bc]at this;exact this
def z8(L:List Nat)(w:World)(v:Value):Prop:=∃ A c,v = .slice A L.length c/\Sl w A c L
theorem TU{fn:Func}{p t:Tmp}(h:fn.results = #[.cell p 31,.tmp t]){a:Act}{w W:World}{k:Int}{g:Nat}
  (hp:a.tmps.getD p undef = .pointer (some ⟨g,0,none⟩)) (ht:a.tmps.getD t undef = .int .i64 k) (hd:a.defers=[]) (hb:aJ W g false none 0 0 0) (he:Ext w W) :
  bodyPost Tryz.prog fn (ix w aT k) .ret a W :=
 jm (d:=aT) h hp ht hd hb (by rw[show aT.m=0 from rfl,dP];rfl) (by rw[show aT.m=0 from rfl,dP];exact Sl.nil _) he
set_option maxRecDepth 100000 in
set_option maxHeartbeats 8000000 in
theorem KW(a b:Dy)(A B:Option Addr)(c d:Nat)(w:World)(hs:Sl w A c (af a.m))(hr:Sl w B d (af b.m))(hTb:Tb w)(ha:a.Valid)(hb:b.Valid)(a0:a.m≠0)(b0:b.m≠0) :
  Calls Tryz.prog 190 #[DV a A c,DV b B d] w (ix w (aO (av a b)) (bV (av a b))):=by
 have n1:=tZ a0;have n2:=tZ b0;have la:=ha.len;have lb:=hb.len;obtain⟨ea1,ea2⟩:=ha.exp;obtain⟨eb1,eb2⟩:=hb.exp;obtain⟨k,hk⟩:∃ k,min a.e b.e=k:=⟨_,rfl⟩
 have hka:k<=a.e:=by omega
 have hkb:k<=b.e:=by omega
 have hk1:-16384<=k:=by omega
 have hk2:k<=16384:=by omega
 have HTa:=Lib.hid (fun w (h:Sl w A c (af a.m))=>vZ a A c w h ha);have HTb:=Lib.hid (fun w (h:Sl w B d (af b.m))=>vZ b B d w h hb);have HBIG:=Lib.hid (fun h1 h2=>So ha hb a0 b0 hk h1 h2);have HFIT:=Lib.hid (fun h=>Sr ha hb a0 b0 hk h);have HS1:=Lib.hid (fun(h:a.neg=b.neg)=>show av a b=canon a.neg (a.m*2^(a.e-k).toNat+b.m*2^(b.e-k).toNat) k from by
  have:=F9 (s:=a.neg) a0 b0 hk;rw[<-this,show(⟨a.neg,b.m,b.e⟩:Dy)=b by rw[h]])
 have HS2:=Lib.hid (fun(h:a.neg≠b.neg) (hge:b.m*2^(b.e-k).toNat<=a.m*2^(a.e-k).toNat)=>F7 a0 b0 hk h hge);have HS3:=Lib.hid (fun(h:a.neg≠b.neg) (hge:a.m*2^(a.e-k).toNat<b.m*2^(b.e-k).toNat)=>F8 a0 b0 hk h hge);have hta:-16384<=a.top/\a.top<=16384:=by unfold Dy.top;rw[if_neg a0];have:=ha.Gq a0;omega
 have htb:-16384<=b.top/\b.top<=16384:=by unfold Dy.top;rw[if_neg b0];have:=hb.Gq b0;omega
 obtain⟨hta1,hta2⟩:=hta;obtain⟨htb1,htb2⟩:=htb;obtain⟨S,hS⟩:∃ S,av a b=S:=⟨_,rfl⟩
 rw[hS]at HBIG HS1 ⊢;have HS2:=Lib.hid (fun h h'=>hS▸HS2.out h h');have HS3:=Lib.hid (fun h h'=>hS▸HS3.out h h');have HXa:=Lib.hid (fun w (h:Sl w A c (af a.m)) (hf:(af (a.m*2^(a.e-k).toNat)).length<=256)=>uA A c (af a.m) (a.e-k) w h la (by omega) (by omega) (by rw[bc];exact hf))
 have HXb:=Lib.hid (fun w (h:Sl w B d (af b.m)) (hf:(af (b.m*2^(b.e-k).toNat)).length<=256)=>uA B d (af b.m) (b.e-k) w h lb (by omega) (by omega) (by rw[bc];exact hf));rw[bc]at HXa HXb;generalize a.m*2^(a.e-k).toNat=x at *
 generalize b.m*2^(b.e-k).toNat=y at *
 generalize a.top=ta at *
 generalize b.top=tb at *
 obtain⟨mx,hmx⟩:∃ mx,max ta tb=mx:=⟨_,rfl⟩
 have hm1:-16384<=mx/\mx<=16384:=by omega
 obtain⟨hm1,hm2⟩:=hm1;rw[hmx]at HBIG HFIT;have hTb0:=hTb;have hs0:=hs;have hr0:=hr;clear a0 b0 hS
 have hE:=((Ext.alloc w (.cells #[.bool a.neg,.slice A ((af a.m).length) c,.int .i64 a.e] 31)).trans (Ext.alloc (w.alloc (.cells #[.bool a.neg,.slice A ((af a.m).length) c,.int .i64 a.e] 31)) (.cells #[.bool b.neg,.slice B ((af b.m).length) d,.int .i64 b.e] 31))).trans (Ext.alloc ((w.alloc (.cells #[.bool a.neg,.slice A ((af a.m).length) c,.int .i64 a.e] 31)).alloc (.cells #[.bool b.neg,.slice B ((af b.m).length) d,.int .i64 b.e] 31)) (.cells #[.bool false,.slice none 0 0,.int .i64 0] 31))
 have b1:=((aJ.newAt (W:=w) (g:=w.heap.size) (by simp) a.neg A ((af a.m).length) c a.e).alloc (.cells #[.bool b.neg,.slice B ((af b.m).length) d,.int .i64 b.e] 31)).alloc (.cells #[.bool false,.slice none 0 0,.int .i64 0] 31)
 have b2:=(aJ.newAt (W:=(w.alloc (.cells #[.bool a.neg,.slice A ((af a.m).length) c,.int .i64 a.e] 31))) (g:=w.heap.size+1) (by simp) b.neg B ((af b.m).length) d b.e).alloc (.cells #[.bool false,.slice none 0 0,.int .i64 0] 31)
 have b3:=aJ.newAt (W:=((w.alloc (.cells #[.bool a.neg,.slice A ((af a.m).length) c,.int .i64 a.e] 31)).alloc (.cells #[.bool b.neg,.slice B ((af b.m).length) d,.int .i64 b.e] 31))) (g:=w.heap.size+2) (by simp) false none 0 0 0;replace hs:=hs.below hE;replace hr:=hr.below hE;replace hTb:=hTb.below hE;go_enter Tryz.func190,Tryz.ntmps190;have xb10:=b1.c0;have xb11:=b1.c1;have xb12:=b1.c2
 have xb20:=b2.c0;have xb21:=b2.c1;have xb22:=b2.c2;go_upto_region 6 with fail;clear xb10 xb11 xb12 xb20 xb21 xb22;obtain⟨W1,hW⟩:∃ W,(((w.alloc (.cells #[.bool a.neg,.slice A ((af a.m).length) c,.int .i64 a.e] 31)).alloc (.cells #[.bool b.neg,.slice B ((af b.m).length) d,.int .i64 b.e] 31)).alloc (.cells #[.bool false,.slice none 0 0,.int .i64 0] 31))=W:=⟨_,rfl⟩
 rw[hW]at hs hr hTb b1 b2 b3 hE ⊢;clear hW;go_cut [7,8] (fun s0 s1 wx=>s0=(.int .i64 ta)/\s1=(.int .i64 tb)/\Ext W1 wx)
 case first =>
  have b1':=b1.drew;have b2':=b2.drew;have hs':=hs.drew;have hr':=hr.drew
  go_region_held3 (fun w'=>w'.cell? ⟨w.heap.size,0,none⟩=some (.bool a.neg)/\w'.cell? ⟨w.heap.size,1,none⟩=some (.slice A ((af a.m).length) c)/\w'.cell? ⟨w.heap.size,2,none⟩=some (.int .i64 a.e)/\w'.cell? ⟨w.heap.size+1,0,none⟩=some (.bool b.neg)/\w'.cell? ⟨w.heap.size+1,1,none⟩=some (.slice B ((af b.m).length) d)/\w'.cell? ⟨w.heap.size+1,2,none⟩=some (.int .i64 b.e))
   (first|with_reducible exact⟨(b1').c0,(b1').c1,(b1').c2,(b2').c0,(b2').c1,(b2').c2⟩|with_reducible exact⟨(b1'.ext hb0).c0,(b1'.ext hb0).c1,(b1'.ext hb0).c2,(b2'.ext hb0).c0,(b2'.ext hb0).c1,(b2'.ext hb0).c2⟩|with_reducible exact⟨(b1'.ext hb1).c0,(b1'.ext hb1).c1,(b1'.ext hb1).c2,(b2'.ext hb1).c0,(b2'.ext hb1).c1,(b2'.ext hb1).c2⟩|with_reducible exact⟨(b1'.ext (hb0.trans hb1)).c0,(b1'.ext (hb0.trans hb1)).c1,(b1'.ext (hb0.trans hb1)).c2,(b2'.ext (hb0.trans hb1)).c0,(b2'.ext (hb0.trans hb1)).c1,(b2'.ext (hb0.trans hb1)).c2⟩|with_reducible exact⟨(b1'.ext (hb1.trans hb0)).c0,(b1'.ext (hb1.trans hb0)).c1,(b1'.ext (hb1.trans hb0)).c2,(b2'.ext (hb1.trans hb0)).c0,(b2'.ext (hb1.trans hb0)).c1,(b2'.ext (hb1.trans hb0)).c2⟩)
   (first
    | (go_at_call_of 130 (Value.agg #[.bool a.neg,.slice A (af a.m).length c,.int .i64 a.e]);(first|(with_reducible refine(HTa.out _ hs').mono ?_)|(with_reducible refine(HTa.out _ (hs'.below hb1)).mono ?_));rintro r wx0 ⟨rfl,hb0⟩)
    | (go_at_call_of 130 (Value.agg #[.bool b.neg,.slice B (af b.m).length d,.int .i64 b.e]);(first|(with_reducible refine(HTb.out _ hr').mono ?_)|(with_reducible refine(HTb.out _ (hr'.below hb0)).mono ?_));rintro r wx1 ⟨rfl,hb1⟩))
  all_goals (go_wp2_with fail;go_meet;(first|exact⟨rfl,rfl,(Ext.drew _).trans (hb0.trans hb1)⟩|exact⟨rfl,rfl,(Ext.drew _).trans (hb1.trans hb0)⟩))
 obtain⟨rfl,rfl,hb⟩:=hcut;replace hE:=hE.trans hb;replace hs:=hs.below hb;replace hr:=hr.below hb;replace hTb:=hTb.below hb;replace b1:=b1.ext hb;replace b2:=b2.ext hb;replace b3:=b3.ext hb;clear hb;go_upto_region 7 with fail;go_cut [63] (fun s wx=>s = .bool (decide (4097<mx-k/\(1<ta-tb\/1<tb-ta)))/\wx=wc)
 case first =>
  by_cases c1:4097<mx-k
  .by_cases c2:1<ta-tb
   .go_wp2
    go_meet;exact⟨congrArg Value.bool (decide_eq_true ⟨c1,.inl c2⟩).symm,rfl⟩
   .by_cases c3:1<tb-ta
    .go_wp2
     go_meet;exact⟨congrArg Value.bool (decide_eq_true ⟨c1,.inr c3⟩).symm,rfl⟩
    .go_wp2
     go_meet;exact⟨congrArg Value.bool (decide_eq_false (by omega)).symm,rfl⟩
  .go_wp2
   go_meet;exact⟨congrArg Value.bool (decide_eq_false (by omega)).symm,rfl⟩
 obtain⟨rfl,hwc⟩:=hcut;subst hwc;by_cases hB:4097<mx-k/\(1<ta-tb\/1<tb-ta)
 .have hd:decide (4097<mx-k/\(1<ta-tb\/1<tb-ta))=true:=decide_eq_true hB
  have hno:=Lib.hid (HBIG.out hB.1 hB.2);rw[hd];clear hB hd;have xb30:=b3.c0;have yb30:=b3.fr 0;have xb31:=b3.c1;have yb31:=b3.fr 1;have xb32:=b3.c2;have yb32:=b3.fr 2;go_wp2;rw[sG hno.out,pY hno.out];exact TU rfl rfl rfl rfl (b3.set _ _ _ _ _) (aJ.fi hE (by omega) _ _ _ _ _)
 .have hd:decide (4097<mx-k/\(1<ta-tb\/1<tb-ta))=false:=decide_eq_false hB
  obtain⟨hx1,hy1⟩:=HFIT.out hB;have HXY:=Lib.hid (qD (k:=129) (Nat.le_trans (IQ hx1 hy1) (by decide)));have hx2:=qD (k:=129) (Nat.le_trans hx1 (by decide));have hy2:=qD (k:=129) (Nat.le_trans hy1 (by decide));have HXa2:=Lib.hid (fun w h=>HXa.out w h (by omega));have HXb2:=Lib.hid (fun w h=>HXb.out w h (by omega));rw[hd]
  clear hB hd hx1 hy1 hmx HBIG HFIT HXa HXb HTa HTb;have hwe:IntKind.i64.wrap (a.e-k)=a.e-k:=i64_in _ (by omega) (by omega);have hwf:IntKind.i64.wrap (b.e-k)=b.e-k:=i64_in _ (by omega) (by omega);have xb10:=b1.c0;have xb11:=b1.c1;have xb12:=b1.c2;have xb20:=b2.c0;have xb21:=b2.c1;have xb22:=b2.c2;go_upto_region 9 with fail;clear xb10 xb11 xb12 xb20 xb21 xb22
  go_cut [9,10] (fun s0 s1 wx=>z8 ((af x)) wx s0/\z8 ((af y)) wx s1/\Ext wc wx)
  case first =>
   have b1':=b1.drew;have b2':=b2.drew;have hs':=hs.drew;have hr':=hr.drew
   go_region_held3 (fun w'=>w'.cell? ⟨w.heap.size,0,none⟩=some (.bool a.neg)/\w'.cell? ⟨w.heap.size,1,none⟩=some (.slice A ((af a.m).length) c)/\w'.cell? ⟨w.heap.size,2,none⟩=some (.int .i64 a.e)/\w'.cell? ⟨w.heap.size+1,0,none⟩=some (.bool b.neg)/\w'.cell? ⟨w.heap.size+1,1,none⟩=some (.slice B ((af b.m).length) d)/\w'.cell? ⟨w.heap.size+1,2,none⟩=some (.int .i64 b.e))
    (first|with_reducible exact⟨(b1').c0,(b1').c1,(b1').c2,(b2').c0,(b2').c1,(b2').c2⟩|with_reducible exact⟨(b1'.ext hb0).c0,(b1'.ext hb0).c1,(b1'.ext hb0).c2,(b2'.ext hb0).c0,(b2'.ext hb0).c1,(b2'.ext hb0).c2⟩|with_reducible exact⟨(b1'.ext hb1).c0,(b1'.ext hb1).c1,(b1'.ext hb1).c2,(b2'.ext hb1).c0,(b2'.ext hb1).c1,(b2'.ext hb1).c2⟩|with_reducible exact⟨(b1'.ext (hb0.trans hb1)).c0,(b1'.ext (hb0.trans hb1)).c1,(b1'.ext (hb0.trans hb1)).c2,(b2'.ext (hb0.trans hb1)).c0,(b2'.ext (hb0.trans hb1)).c1,(b2'.ext (hb0.trans hb1)).c2⟩|with_reducible exact⟨(b1'.ext (hb1.trans hb0)).c0,(b1'.ext (hb1.trans hb0)).c1,(b1'.ext (hb1.trans hb0)).c2,(b2'.ext (hb1.trans hb0)).c0,(b2'.ext (hb1.trans hb0)).c1,(b2'.ext (hb1.trans hb0)).c2⟩)
    (first
     | (go_at_call_of 132 (Value.slice A (af a.m).length c);(first|(with_reducible refine(HXa2.out _ hs').mono ?_)|(with_reducible refine(HXa2.out _ (hs'.below hb1)).mono ?_));rintro r wx0 ⟨A0,c0,rfl,hn0,hb0⟩)
     | (go_at_call_of 132 (Value.slice B (af b.m).length d);(first|(with_reducible refine(HXb2.out _ hr').mono ?_)|(with_reducible refine(HXb2.out _ (hr'.below hb0)).mono ?_));rintro r wx1 ⟨A1,c1,rfl,hn1,hb1⟩))
   all_goals (go_wp2_with fail;go_meet;(first|exact⟨⟨_,_,rfl,hn0.below hb1⟩,⟨_,_,rfl,hn1⟩,(Ext.drew _).trans (hb0.trans hb1)⟩|exact⟨⟨_,_,rfl,hn0⟩,⟨_,_,rfl,hn1.below hb0⟩,(Ext.drew _).trans (hb1.trans hb0)⟩))
  obtain⟨⟨A_hx,c_hx,rfl,hx⟩,⟨A_hy,c_hy,rfl,hy⟩,hb⟩:=hcut;replace hE:=hE.trans hb;replace hs:=hs.below hb;replace hr:=hr.below hb;replace hTb:=hTb.below hb;replace b1:=b1.ext hb;replace b2:=b2.ext hb;replace b3:=b3.ext hb;clear hb
  have HA:=Lib.hid (fun w A c B d (h:Sl w A c (af x)) (k:Sl w B d (af y))=>DO A B c d (af x) (af y) w h k (by omega) (by omega) (by rw[bc,bc];exact Nat.le_trans HXY.out (by decide)));rw[bc,bc]at HA;by_cases hn:a.neg=b.neg
  .have e1:(a.neg==b.neg)=true:=by rw[hn];exact beq_self_eq_true _
   have hD:=Lib.hid (HS1.out hn);have HO:=Lib.hid (fun w A c (h:Sl w A c (af (x+y))) (ht:Tb w)=>oF a.neg (x+y) k A c w h (Nat.le_trans HXY.out (by decide)) (by omega) (by omega) ht);clear hn;have hcl:=vG a.neg (x+y) k HXY.out;have HK:=Lib.hid (fun w A c (h:Sl w A c (af (canon a.neg (x+y) k).m))=>sF (canon a.neg (x+y) k) A c w h (by omega) (by omega) (by omega))
   generalize canon a.neg (x+y) k=D at *
   clear hcl HS1 HS2 HS3;have xb10:=b1.c0;have xb11:=b1.c1;have xb12:=b1.c2;have xb20:=b2.c0;have xb21:=b2.c1;have xb22:=b2.c2;go_wp2_with fail
   (with_reducible refine(HA.out _ _ _ _ _ hx hy).mono ?_)
   rintro r w2 ⟨A3,c3,rfl,h3,hb⟩;clear xb10 xb11 xb12 xb20 xb21 xb22;replace hE:=hE.trans hb;replace hs:=hs.below hb;replace hr:=hr.below hb;replace hTb:=hTb.below hb;replace hx:=hx.below hb;replace hy:=hy.below hb;replace b1:=b1.ext hb;replace b2:=b2.ext hb;replace b3:=b3.ext hb;clear hb;have xb10:=b1.c0;have xb11:=b1.c1;have xb12:=b1.c2;go_wp2_with fail
   (with_reducible refine(HO.out _ _ _ h3 hTb).mono ?_)
   rintro r w3 ⟨A_h4,c_h4,rfl,h4,hb⟩;clear xb10 xb11 xb12;replace hE:=hE.trans hb;replace hs:=hs.below hb;replace hr:=hr.below hb;replace hTb:=hTb.below hb;replace hx:=hx.below hb;replace hy:=hy.below hb;replace h3:=h3.below hb;replace b1:=b1.ext hb;replace b2:=b2.ext hb;replace b3:=b3.ext hb;clear hb;have xb10:=b1.c0;have xb11:=b1.c1;have xb12:=b1.c2;go_wp2_with fail
   (with_reducible refine(HK.out _ _ _ h4).mono ?_)
   rintro r w4 ⟨A_h5,c_h5,rfl,h5,hb⟩;clear xb10 xb11 xb12;replace hE:=hE.trans hb;replace hs:=hs.below hb;replace hr:=hr.below hb;replace hTb:=hTb.below hb;replace hx:=hx.below hb;replace hy:=hy.below hb;replace h3:=h3.below hb;replace h4:=h4.below hb;replace b1:=b1.ext hb;replace b2:=b2.ext hb;replace b3:=b3.ext hb;clear hb
   have xb30:=b3.c0;have yb30:=b3.fr 0;have xb31:=b3.c1;have yb31:=b3.fr 1;have xb32:=b3.c2;have yb32:=b3.fr 2;go_wp2;rw[hD.out];exact jm (d:=(aO D)) rfl rfl rfl rfl (b3.set _ _ _ _ _) rfl (b3.fF h5 _ _ _ _ _) (aJ.fi hE (by omega) _ _ _ _ _)
  .have e1:(a.neg==b.neg)=false:=beq_eq_false_iff_ne.2 hn
   have HC:=Lib.hid (fun w A c B d (h:Sl w A c (af x)) (k:Sl w B d (af y))=>qO A B c d (af x) (af y) w h k (by omega) (by omega));rw[bc,bc]at HC;by_cases hlt:x<y
   .have hD:=Lib.hid (HS3.out hn hlt)
    have d0:decide (bH x y<0)=true:=by unfold bH;rw[if_pos hlt];rfl
    have HSb:=Lib.hid (fun w A c B d (h:Sl w A c (af y)) (k:Sl w B d (af x))=>xB A B c d (af y) (af x) w h k (by omega) (by omega) (by rw[bc,bc];omega));rw[bc,bc]at HSb;have hyl:=Nat.le_trans (cJ (Nat.sub_le y x)) hy2
    have HO:=Lib.hid (fun w A c (h:Sl w A c (af (y-x))) (ht:Tb w)=>oF b.neg (y-x) k A c w h (by omega) (by omega) (by omega) ht);have hcl:=vG b.neg (y-x) k hyl;have HK:=Lib.hid (fun w A c (h:Sl w A c (af (canon b.neg (y-x) k).m))=>sF (canon b.neg (y-x) k) A c w h (by omega) (by omega) (by omega));generalize canon b.neg (y-x) k=D at *
    generalize bH x y=q at *
    clear hcl HS1 HS2 HS3 hn hlt hyl HA;have xb10:=b1.c0;have xb11:=b1.c1;have xb12:=b1.c2;have xb20:=b2.c0;have xb21:=b2.c1;have xb22:=b2.c2;go_wp2_with fail
    (with_reducible refine(HC.out _ _ _ _ _ hx hy).mono ?_)
    rintro r w2 ⟨rfl,hb⟩;clear xb10 xb11 xb12 xb20 xb21 xb22;replace hE:=hE.trans hb;replace hs:=hs.below hb;replace hr:=hr.below hb;replace hTb:=hTb.below hb;replace hx:=hx.below hb;replace hy:=hy.below hb;replace b1:=b1.ext hb;replace b2:=b2.ext hb;replace b3:=b3.ext hb;clear hb;have hlt1:w.heap.size<=w.heap.size:=Nat.le_refl _;have xb10:=b1.c0;have xb11:=b1.c1;have xb12:=b1.c2
    have xb20:=b2.c0;have xb21:=b2.c1;have xb22:=b2.c2;have fb0:=b1.fr 0;have fb1:=b1.fr 1;have fb2:=b1.fr 2;have hx:=b1.fF hx b.neg b.e (af b.m).length d B;have hy:=b1.fF hy b.neg b.e (af b.m).length d B;have hE:=aJ.fi hE (Nat.le_refl _) b.neg B (af b.m).length d b.e;have b3:=b3.kx (g':=w.heap.size) (by omega) (.bool b.neg) (.slice B (af b.m).length d) (.int .i64 b.e)
    have b1:=b1.set b.neg B (af b.m).length d b.e;have hTb:=hTb0.below hE;clear hs hr b2;go_wp2_with fail
    (with_reducible refine(HSb.out _ _ _ _ _ hy hx).mono ?_)
    rintro r w3 ⟨A3,c3,rfl,h3,hb⟩;clear xb10 xb11 xb12 xb20 xb21 xb22;replace hE:=hE.trans hb;replace hTb:=hTb.below hb;replace hx:=hx.below hb;replace hy:=hy.below hb;replace b1:=b1.ext hb;replace b3:=b3.ext hb;clear hb;have xb10:=b1.c0;have xb11:=b1.c1;have xb12:=b1.c2;go_wp2_with fail
    (with_reducible refine(HO.out _ _ _ h3 hTb).mono ?_)
    rintro r w4 ⟨A_h4,c_h4,rfl,h4,hb⟩;clear xb10 xb11 xb12;replace hE:=hE.trans hb;replace hTb:=hTb.below hb;replace hx:=hx.below hb;replace hy:=hy.below hb;replace h3:=h3.below hb;replace b1:=b1.ext hb;replace b3:=b3.ext hb;clear hb;have xb10:=b1.c0;have xb11:=b1.c1;have xb12:=b1.c2;go_wp2_with fail
    (with_reducible refine(HK.out _ _ _ h4).mono ?_)
    rintro r w5 ⟨A_h5,c_h5,rfl,h5,hb⟩;clear xb10 xb11 xb12;replace hE:=hE.trans hb;replace hTb:=hTb.below hb;replace hx:=hx.below hb;replace hy:=hy.below hb;replace h3:=h3.below hb;replace h4:=h4.below hb;replace b1:=b1.ext hb;replace b3:=b3.ext hb;clear hb;have xb30:=b3.c0;have yb30:=b3.fr 0;have xb31:=b3.c1;have yb31:=b3.fr 1;have xb32:=b3.c2;have yb32:=b3.fr 2;go_wp2;rw[hD.out]
    exact jm (d:=(aO D)) rfl rfl rfl rfl (b3.set _ _ _ _ _) rfl (b3.fF h5 _ _ _ _ _) (aJ.fi hE (by omega) _ _ _ _ _)
   .have hD:=Lib.hid (HS2.out hn (by omega))
    have d0:decide (bH x y<0)=false:=by unfold bH;rw[if_neg hlt];split<;>rfl
    have HSb:=Lib.hid (fun w A c B d (h:Sl w A c (af x)) (k:Sl w B d (af y))=>xB A B c d (af x) (af y) w h k (by omega) (by omega) (by rw[bc,bc];omega));rw[bc,bc]at HSb;have hyl:=Nat.le_trans (cJ (Nat.sub_le x y)) hx2
    have HO:=Lib.hid (fun w A c (h:Sl w A c (af (x-y))) (ht:Tb w)=>oF a.neg (x-y) k A c w h (by omega) (by omega) (by omega) ht);have hcl:=vG a.neg (x-y) k hyl;have HK:=Lib.hid (fun w A c (h:Sl w A c (af (canon a.neg (x-y) k).m))=>sF (canon a.neg (x-y) k) A c w h (by omega) (by omega) (by omega));generalize canon a.neg (x-y) k=D at *
    generalize bH x y=q at *
    clear hcl HS1 HS2 HS3 hn hlt hyl HA;have xb10:=b1.c0;have xb11:=b1.c1;have xb12:=b1.c2;have xb20:=b2.c0;have xb21:=b2.c1;have xb22:=b2.c2;go_wp2_with fail
    (with_reducible refine(HC.out _ _ _ _ _ hx hy).mono ?_)
    rintro r w2 ⟨rfl,hb⟩;clear xb10 xb11 xb12 xb20 xb21 xb22;replace hE:=hE.trans hb;replace hs:=hs.below hb;replace hr:=hr.below hb;replace hTb:=hTb.below hb;replace hx:=hx.below hb;replace hy:=hy.below hb;replace b1:=b1.ext hb;replace b2:=b2.ext hb;replace b3:=b3.ext hb;clear hb;go_wp2_with fail
    (with_reducible refine(HSb.out _ _ _ _ _ hx hy).mono ?_)
    rintro r w3 ⟨A3,c3,rfl,h3,hb⟩;replace hE:=hE.trans hb;replace hs:=hs.below hb;replace hr:=hr.below hb;replace hTb:=hTb.below hb;replace hx:=hx.below hb;replace hy:=hy.below hb;replace b1:=b1.ext hb;replace b2:=b2.ext hb;replace b3:=b3.ext hb;clear hb;have xb10:=b1.c0;have xb11:=b1.c1;have xb12:=b1.c2;go_wp2_with fail
    (with_reducible refine(HO.out _ _ _ h3 hTb).mono ?_)
    rintro r w4 ⟨A_h4,c_h4,rfl,h4,hb⟩;clear xb10 xb11 xb12;replace hE:=hE.trans hb;replace hs:=hs.below hb;replace hr:=hr.below hb;replace hTb:=hTb.below hb;replace hx:=hx.below hb;replace hy:=hy.below hb;replace h3:=h3.below hb;replace b1:=b1.ext hb;replace b2:=b2.ext hb;replace b3:=b3.ext hb;clear hb;have xb10:=b1.c0;have xb11:=b1.c1;have xb12:=b1.c2;go_wp2_with fail
    (with_reducible refine(HK.out _ _ _ h4).mono ?_)
    rintro r w5 ⟨A_h5,c_h5,rfl,h5,hb⟩;clear xb10 xb11 xb12;replace hE:=hE.trans hb;replace hs:=hs.below hb;replace hr:=hr.below hb;replace hTb:=hTb.below hb;replace hx:=hx.below hb;replace hy:=hy.below hb;replace h3:=h3.below hb;replace h4:=h4.below hb;replace b1:=b1.ext hb;replace b2:=b2.ext hb;replace b3:=b3.ext hb;clear hb
    have xb30:=b3.c0;have yb30:=b3.fr 0;have xb31:=b3.c1;have yb31:=b3.fr 1;have xb32:=b3.c2;have yb32:=b3.fr 2;go_wp2;rw[hD.out];exact jm (d:=(aO D)) rfl rfl rfl rfl (b3.set _ _ _ _ _) rfl (b3.fF h5 _ _ _ _ _) (aJ.fi hE (by omega) _ _ _ _ _)
theorem BX(a b:Dy)(A B:Option Addr)(c d:Nat)(w:World)(hs:Sl w A c (af a.m))(hr:Sl w B d (af b.m))(hTb:Tb w)(ha:a.Valid)(hb:b.Valid) :
  Calls Tryz.prog 190 #[DV a A c,DV b B d] w (ix w (aO (av a b)) (bV (av a b))):=by
 by_cases a0:a.m=0
 .exact KU a b A B c d w hs hr hTb hb a0
 .by_cases b0:b.m=0
  .exact KV a b A B c d w hs hTb ha a0 b0
  .exact KW a b A B c d w hs hr hTb ha hb a0 b0
theorem BU(a : Dy)(A : Option Addr)(c : Nat)(w : World)(hs : Sl w A c (af a.m))(ha : a.Valid) :
    Calls Tryz.prog 191 #[DV a A c] w (kj w (aC a)) := by
  have HV := Lib.hid (fun w (h : Sl w A c (af a.m)) => sQ a A c w h ha);have hl := ha.len;by_cases h0 : a.m=0
  . have hz : Hid (aC a=aT) := by
      show aC a=aT;obtain⟨s, m, e⟩ := a;rcases ha.canon with⟨h1, h2, h3⟩|h1
      . simp only at h1 h2 h3;subst h1 h2 h3;rfl
      . simp only at h0 h1;omega
    have n0 := xE h0;clear h0;have hE := (Ext.alloc w (.cells #[.bool a.neg, .slice A ((af a.m).length) c, .int .i64 a.e] 31)).trans (Ext.alloc (w.alloc (.cells #[.bool a.neg, .slice A ((af a.m).length) c, .int .i64 a.e] 31)) (.cells #[.bool false, .slice none 0 0, .int .i64 0] 31))
    have b1 := (aJ.newAt (W := w) (g := w.heap.size) (by simp) a.neg A ((af a.m).length) c a.e).alloc (.cells #[.bool false, .slice none 0 0, .int .i64 0] 31);have b2 := aJ.newAt (W := (w.alloc (.cells #[.bool a.neg, .slice A ((af a.m).length) c, .int .i64 a.e] 31))) (g := w.heap.size+1) (by simp) false none 0 0 0;replace hs := hs.below hE;go_enter Tryz.func191, Tryz.ntmps191
    go_wp2_with fail
    (with_reducible refine(HV.out _ hs).mono ?_)
    rintro r w1 ⟨rfl, hb⟩;replace hE := hE.trans hb;replace hs := hs.below hb;replace b1 := b1.ext hb;replace b2 := b2.ext hb;clear hb;have xb10 := b1.c0;have xb11 := b1.c1;have xb12 := b1.c2;have xb20 := b2.c0;have yb20 := b2.fr 0;have xb21 := b2.c1;have yb21 := b2.fr 1;have xb22 := b2.c2;have yb22 := b2.fr 2;go_wp2;rw[hz.out]
    exact iN (d := aT) rfl rfl rfl (b2.set _ _ _ _ _) (by rw[show aT.m=0 from rfl, dP];rfl) (by rw[show aT.m=0 from rfl, dP];exact Sl.nil _) (aJ.fi hE (by omega) _ _ _ _ _)
  . have n0 := tZ h0
    have HN := Lib.hid (show aC a=⟨!a.neg, a.m, a.e⟩by unfold aC;simp[h0]);have HC := Lib.hid (fun w (h : Sl w A c (af a.m)) => vN A c (af a.m) w h (by omega));clear h0
    have hE := (Ext.alloc w (.cells #[.bool a.neg, .slice A ((af a.m).length) c, .int .i64 a.e] 31)).trans (Ext.alloc (w.alloc (.cells #[.bool a.neg, .slice A ((af a.m).length) c, .int .i64 a.e] 31)) (.cells #[.bool false, .slice none 0 0, .int .i64 0] 31))
    have b1 := (aJ.newAt (W := w) (g := w.heap.size) (by simp) a.neg A ((af a.m).length) c a.e).alloc (.cells #[.bool false, .slice none 0 0, .int .i64 0] 31);have b2 := aJ.newAt (W := (w.alloc (.cells #[.bool a.neg, .slice A ((af a.m).length) c, .int .i64 a.e] 31))) (g := w.heap.size+1) (by simp) false none 0 0 0;replace hs := hs.below hE;go_enter Tryz.func191, Tryz.ntmps191
    go_wp2_with fail
    (with_reducible refine(HV.out _ hs).mono ?_)
    rintro r w1 ⟨rfl, hb⟩;replace hE := hE.trans hb;replace hs := hs.below hb;replace b1 := b1.ext hb;replace b2 := b2.ext hb;clear hb;have xb10 := b1.c0;have xb11 := b1.c1;have xb12 := b1.c2;clear xb10 xb11 xb12;have xb10 := b1.c0;have xb11 := b1.c1;have xb12 := b1.c2;go_wp2_with fail;clear xb10 xb11 xb12
    replace hs := hs.drew;replace b1 := b1.drew;replace b2 := b2.drew;replace hE := hE.trans (Ext.drew _);go_region_held3 (fun w' => w'.cell? ⟨w.heap.size, 0, none⟩=some (.bool a.neg)/\w'.cell? ⟨w.heap.size, 1, none⟩=some (.slice A ((af a.m).length) c)/\w'.cell? ⟨w.heap.size, 2, none⟩=some (.int .i64 a.e))
      (first|with_reducible exact⟨(b1).c0, (b1).c1, (b1).c2⟩|with_reducible exact⟨(b1.ext hb0).c0, (b1.ext hb0).c1, (b1.ext hb0).c2⟩|with_reducible exact⟨((b1.ext hb0).kx (g' := w.heap.size+1) (by omega) _ _ _).c0, ((b1.ext hb0).kx (g' := w.heap.size+1) (by omega) _ _ _).c1, ((b1.ext hb0).kx (g' := w.heap.size+1) (by omega) _ _ _).c2⟩)
      (first
        | (go_at_call 129
           (with_reducible refine(HC.out _ hs).mono ?_)
           rintro r wx0 ⟨A_h4, c_h4, rfl, h4, hb0⟩;have bz := b2.ext hb0;have z0 := bz.c0;have z1 := bz.c1;have z2 := bz.c2;have y0 := bz.fr 0;have y1 := bz.fr 1;have y2 := bz.fr 2))
    replace hE := hE.trans hb0;replace hs := hs.below hb0;replace b1 := b1.ext hb0;replace b2 := b2.ext hb0;go_wp2;rw[HN.out];exact iN (d := ⟨!a.neg,a.m,a.e⟩) rfl rfl rfl (bz.set _ _ _ _ _) rfl (bz.fF h4 _ _ _ _ _) (aJ.fi hE (by omega) _ _ _ _ _)
theorem KT(a b : Dy)(A B : Option Addr)(c d : Nat)(w : World)(hs : Sl w A c (af a.m))(hr : Sl w B d (af b.m))(hTb : Tb w)(ha : a.Valid)(hb : b.Valid) :
    Calls Tryz.prog 156 #[DV a A c, DV b B d] w (ix w (aO (av a (aC b))) (bV (av a (aC b)))) := by
  have HVa := Lib.hid (fun w (h : Sl w A c (af a.m)) => sQ a A c w h ha);have HVb := Lib.hid (fun w (h : Sl w B d (af b.m)) => sQ b B d w h hb);have HN := Lib.hid (fun w (h : Sl w B d (af b.m)) => BU b B d w h hb)
  have HS := Lib.hid (fun w B d (h : Sl w A c (af a.m)) (k : Sl w B d (af (aC b).m)) (ht : Tb w) => BX a (aC b) A B c d w h k ht ha (kC hb));generalize bV (av a (aC b))=E at *
  generalize aO (av a (aC b))=D at *
  generalize aC b=nb at *
  have hE := ((Ext.alloc w (.cells #[.bool a.neg, .slice A ((af a.m).length) c, .int .i64 a.e] 31)).trans (Ext.alloc (w.alloc (.cells #[.bool a.neg, .slice A ((af a.m).length) c, .int .i64 a.e] 31)) (.cells #[.bool b.neg, .slice B ((af b.m).length) d, .int .i64 b.e] 31))).trans (Ext.alloc ((w.alloc (.cells #[.bool a.neg, .slice A ((af a.m).length) c, .int .i64 a.e] 31)).alloc (.cells #[.bool b.neg, .slice B ((af b.m).length) d, .int .i64 b.e] 31)) (.cells #[.bool false, .slice none 0 0, .int .i64 0] 31))
  have b1 := ((aJ.newAt (W := w) (g := w.heap.size) (by simp) a.neg A ((af a.m).length) c a.e).alloc (.cells #[.bool b.neg, .slice B ((af b.m).length) d, .int .i64 b.e] 31)).alloc (.cells #[.bool false, .slice none 0 0, .int .i64 0] 31)
  have b2 := (aJ.newAt (W := (w.alloc (.cells #[.bool a.neg, .slice A ((af a.m).length) c, .int .i64 a.e] 31))) (g := w.heap.size+1) (by simp) b.neg B ((af b.m).length) d b.e).alloc (.cells #[.bool false, .slice none 0 0, .int .i64 0] 31)
  have b3 := aJ.newAt (W := ((w.alloc (.cells #[.bool a.neg, .slice A ((af a.m).length) c, .int .i64 a.e] 31)).alloc (.cells #[.bool b.neg, .slice B ((af b.m).length) d, .int .i64 b.e] 31))) (g := w.heap.size+2) (by simp) false none 0 0 0;replace hs := hs.below hE;replace hr := hr.below hE;replace hTb := hTb.below hE;go_enter Tryz.func156, Tryz.ntmps156;go_wp2_with fail
  (with_reducible refine(HVa.out _ hs).mono ?_)
  rintro r w1 ⟨rfl, hb⟩;replace hE := hE.trans hb;replace hs := hs.below hb;replace hr := hr.below hb;replace hTb := hTb.below hb;replace b1 := b1.ext hb;replace b2 := b2.ext hb;replace b3 := b3.ext hb;clear hb;have xb10 := b1.c0;have xb11 := b1.c1;have xb12 := b1.c2;have xb20 := b2.c0;have xb21 := b2.c1;have xb22 := b2.c2;go_wp2_with fail
  (with_reducible refine(HVb.out _ hr).mono ?_)
  rintro r w2 ⟨rfl, hb⟩;clear xb10 xb11 xb12 xb20 xb21 xb22;replace hE := hE.trans hb;replace hs := hs.below hb;replace hr := hr.below hb;replace hTb := hTb.below hb;replace b1 := b1.ext hb;replace b2 := b2.ext hb;replace b3 := b3.ext hb;clear hb;have xb10 := b1.c0;have xb11 := b1.c1;have xb12 := b1.c2;have xb20 := b2.c0;have xb21 := b2.c1;have xb22 := b2.c2;go_wp2_with fail
  clear xb10 xb11 xb12 xb20 xb21 xb22;replace hs := hs.drew;replace hr := hr.drew;replace hTb := hTb.drew;replace b1 := b1.drew;replace b2 := b2.drew;replace b3 := b3.drew;replace hE := hE.trans (Ext.drew _)
  go_region_held3 (fun w' => w'.cell? ⟨w.heap.size, 0, none⟩=some (.bool a.neg)/\w'.cell? ⟨w.heap.size, 1, none⟩=some (.slice A ((af a.m).length) c)/\w'.cell? ⟨w.heap.size, 2, none⟩=some (.int .i64 a.e)/\w'.cell? ⟨w.heap.size+1, 0, none⟩=some (.bool b.neg)/\w'.cell? ⟨w.heap.size+1, 1, none⟩=some (.slice B ((af b.m).length) d)/\w'.cell? ⟨w.heap.size+1, 2, none⟩=some (.int .i64 b.e))
    (first|with_reducible exact⟨(b1).c0, (b1).c1, (b1).c2, (b2).c0, (b2).c1, (b2).c2⟩|with_reducible exact⟨(b1.ext hb0).c0, (b1.ext hb0).c1, (b1.ext hb0).c2, (b2.ext hb0).c0, (b2.ext hb0).c1, (b2.ext hb0).c2⟩|with_reducible exact⟨(b1.ext (hb0.trans hb1)).c0, (b1.ext (hb0.trans hb1)).c1, (b1.ext (hb0.trans hb1)).c2, (b2.ext (hb0.trans hb1)).c0, (b2.ext (hb0.trans hb1)).c1, (b2.ext (hb0.trans hb1)).c2⟩|with_reducible exact⟨((b1.ext (hb0.trans hb1)).kx (g' := w.heap.size+2) (by omega) _ _ _).c0, ((b1.ext (hb0.trans hb1)).kx (g' := w.heap.size+2) (by omega) _ _ _).c1, ((b1.ext (hb0.trans hb1)).kx (g' := w.heap.size+2) (by omega) _ _ _).c2, ((b2.ext (hb0.trans hb1)).kx (g' := w.heap.size+2) (by omega) _ _ _).c0, ((b2.ext (hb0.trans hb1)).kx (g' := w.heap.size+2) (by omega) _ _ _).c1, ((b2.ext (hb0.trans hb1)).kx (g' := w.heap.size+2) (by omega) _ _ _).c2⟩)
    (first
      | (go_at_call 191
         (with_reducible refine(HN.out _ hr).mono ?_)
         rintro r wx0 ⟨A_h4, c_h4, rfl, h4, hb0⟩)
      | (go_at_call 190
         (with_reducible refine(HS.out _ _ _ (hs.below hb0) h4 (hTb.below hb0)).mono ?_)
         rintro r wx1 ⟨A_h5, c_h5, rfl, h5, hb1⟩;have bz := b3.ext (hb0.trans hb1);have z0 := bz.c0;have z1 := bz.c1;have z2 := bz.c2;have y0 := bz.fr 0;have y1 := bz.fr 1;have y2 := bz.fr 2))
  replace h4 := h4.below hb1;replace hE := hE.trans (hb0.trans hb1);replace hs := hs.below (hb0.trans hb1);replace hr := hr.below (hb0.trans hb1);replace hTb := hTb.below (hb0.trans hb1);replace b1 := b1.ext (hb0.trans hb1);replace b2 := b2.ext (hb0.trans hb1);replace b3 := b3.ext (hb0.trans hb1);go_wp2
  exact jm (d := D) rfl rfl rfl rfl (bz.set _ _ _ _ _) rfl (bz.fF h5 _ _ _ _ _) (aJ.fi hE (by omega) _ _ _ _ _)
open Go.RowKit Fp Pu
section
variable {f:FuncId} {L M:List Nat} {res:E}
theorem qX(hk:ay L)(hc:∀ (vs:Array Value) (w:World),(callFunc f vs).run Tryz.prog w = .ok (.enter f vs) w)
  {R:Option Addr->Nat->World->Ending->World->Prop} (H:∀ A c w,Sl w A c L->Tb w->Calls Tryz.prog f #[.slice A L.length c] w (R A c w))
  (hR:∀ (A:Option Addr) (c:Nat) (B:Nat->Prop) w e w',Sl w A c L->(∀ b,B b->b<w.heap.size/\eo w b)->R A c w e w'->∃ v,e = .returned v/\Below w.heap.size w w'/\ax B (fun _=>True) w' res v):ae f [ah L] res:=by
 refine⟨hc,fun w B vs hK hB hr=>?_⟩;obtain⟨v1,vs,rfl,h1,hr⟩:=hr.cK;obtain rfl:=hr.fB;obtain⟨A,c,rfl,s1⟩:=jZ hk h1;exact(H A c w s1 hK).mono fun e w' h=>hR A c B w e w' s1 hB h
theorem qY(hk:ay L){n:Int}(hc:∀ (vs:Array Value) (w:World),(callFunc f vs).run Tryz.prog w = .ok (.enter f vs) w)
  {R:Option Addr->Nat->World->Ending->World->Prop} (H:∀ A c w,Sl w A c L->Tb w->Calls Tryz.prog f #[.slice A L.length c,.int .i64 n] w (R A c w))
  (hR:∀ (A:Option Addr) (c:Nat) (B:Nat->Prop) w e w',Sl w A c L->(∀ b,B b->b<w.heap.size/\eo w b)->R A c w e w'->∃ v,e = .returned v/\Below w.heap.size w w'/\ax B (fun _=>True) w' res v):ae f [ah L,iP n] res:=by
 refine⟨hc,fun w B vs hK hB hr=>?_⟩;obtain⟨v1,vs,rfl,h1,hr⟩:=hr.cK;obtain⟨v2,vs,rfl,h2,hr⟩:=hr.cK;obtain rfl:=hr.fB;obtain rfl:=ax.bQ h2;obtain⟨A,c,rfl,s1⟩:=jZ hk h1;exact(H A c w s1 hK).mono fun e w' h=>hR A c B w e w' s1 hB h
theorem mH(hk:ay L)(hm:ay M)(hc:∀ (vs:Array Value) (w:World),(callFunc f vs).run Tryz.prog w = .ok (.enter f vs) w)
  {R:World->Ending->World->Prop} (H:∀ A c B d w,Sl w A c L->Sl w B d M->Tb w->Calls Tryz.prog f #[.slice A L.length c,.slice B M.length d] w (R w))
  (hR:∀ (B:Nat->Prop) w e w',(∀ b,B b->b<w.heap.size/\eo w b)->R w e w'->∃ v,e = .returned v/\Below w.heap.size w w'/\ax B (fun _=>True) w' res v):ae f [ah L,ah M] res:=by
 refine⟨hc,fun w B vs hK hB hr=>?_⟩;obtain⟨v1,vs,rfl,h1,hr⟩:=hr.cK;obtain⟨v2,vs,rfl,h2,hr⟩:=hr.cK;obtain rfl:=hr.fB;obtain⟨A,c,rfl,s1⟩:=jZ hk h1;obtain⟨A',d,rfl,s2⟩:=jZ hm h2;exact(H A c A' d w s1 s2 hK).mono fun e w' h=>hR B w e w' hB h
end
theorem ru{L:List Nat}{n:Int}(B:Nat->Prop)(w:World)(e:Ending)(w':World)(hB:∀ b,B b->b<w.heap.size/\eo w b)(h:oj w L n e w'):∃ v,e = .returned v/\Below w.heap.size w w'/\ax B (fun _=>True) w' (.aq [ah L,iP n]) v :=
 let⟨_,_,h1,h2,h3⟩:=h
 ⟨_,h1,h3,bE.aq (.cons (mS hB h3 h2) (.cons (.v _) (.nil _ _ _)))⟩
theorem rl{L:List Nat}(B:Nat->Prop)(w:World)(e:Ending)(w':World)(hB:∀ b,B b->b<w.heap.size/\eo w b)(h:iL w L e w'):∃ v,e = .returned v/\Below w.heap.size w w'/\ax B (fun _=>True) w' (ah L) v :=
 let⟨_,_,h1,h2,h3⟩:=h
 ⟨_,h1,h3,mS hB h3 h2⟩
theorem iH(L:List Nat)(hk:ay L):ae 167 [ah L] (ah (aw L)) :=
 qX hk Tryz.call167 (fun A c w h _=>iV A c L w h) fun A c B w e w' h hB ⟨h1,h2⟩=>by subst h2;exact⟨_,h1,Below.refl _ _,mS hB (Below.refl _ _) h.trim⟩
theorem DQ(L:List Nat)(hk:ay L)(hl:(aw L).length<=256):ae 165 [ah L] (.aq [ah (aw L),iP 0]) :=
 qX hk Tryz.call165 (fun A c w h _=>qP A c L w h hl) fun A c B w e w' h hB r=>ru B w e w' hB r
theorem OY(L:List Nat)(hk:ay L)(hl:L.length<=100000):ae 194 [ah L] (iP (ak (val L))) :=
 qX hk Tryz.call194 (fun A c w h _=>DP A c L w h (by omega)) fun A c B w e w' h hB ⟨h1,h2⟩=>by subst h2;exact⟨_,h1,Below.refl _ _,.v _⟩
theorem xw(L M:List Nat)(hk:ay L)(hm:ay M)(hl:L.length<=100000)(hl2:M.length<=100000):ae 131 [ah L,ah M] (iP (bH (val L) (val M))) :=
 mH hk hm Tryz.call131 (fun A c B d w h k _=>qO A B c d L M w h k (by omega) (by omega)) rv
theorem DX(m n:Nat)(hl:(af m).length<=256)(hn:n<=65536)(hf:(af (m*2^n)).length<=256):ae 168 [ah (af m),iP (n:Int)] (.aq [ah (af (m*2^n)),iP 0]) :=
 qY (cA m) Tryz.call168 (fun A c w h _=>DW A c (af m) n w h hl hn (by rw[bc];exact hf)) fun A c B w e w' h hB r=>by rw[bc]at r;exact ru B w e w' hB r
theorem xA(m n:Nat)(hl:(af m).length<=256)(hn:n<=65536):ae 127 [ah (af m),iP (n:Int)] (.aq [ah (af (m/2^n)),iP 0]) :=
 qY (cA m) Tryz.call127 (fun A c w h _=>DZ A c (af m) n w h hl hn) fun A c B w e w' h hB r=>by rw[bc]at r;exact ru B w e w' hB r
theorem tH(m n:Nat)(h1:(af m).length<=256)(h2:(af n).length<=256)(hf:(af (m+n)).length<=256):ae 218 [ah (af m),ah (af n)] (.aq [ah (af (m+n)),iP 0]):=by
 refine mH (cA m) (cA n) Tryz.call218 (fun A c B d w h k _=>DO A B c d (af m) (af n) w h k h1 h2 (by rw[bc,bc];exact hf)) ?_;rw[bc,bc];exact ru
theorem qQ(m n:Nat)(h1:(af m).length<=256)(h2:(af n).length<=256)(hf:n<=m):ae 219 [ah (af m),ah (af n)] (.aq [ah (af (m-n)),iP 0]):=by
 refine mH (cA m) (cA n) Tryz.call219 (fun A c B d w h k _=>xB A B c d (af m) (af n) w h k h1 h2 (by rw[bc,bc];exact hf)) ?_;rw[bc,bc];exact ru
theorem gT(m:Nat)(hl:(af m).length<=100000):ae 194 [ah (af m)] (iP (ak m)):=by
 have:=OY (af m) (cA m) hl;rwa[bc]at this
theorem ln(m n:Nat)(hl:(af m).length<=100000)(hl2:(af n).length<=100000):ae 131 [ah (af m),ah (af n)] (iP (bH m n)):=by
 have:=xw (af m) (af n) (cA m) (cA n) hl hl2;rwa[bc,bc]at this
theorem kX(a:Dy)(ha:a.Valid):ae 191 [ag a] (ag (aC a)):=kG Tryz.call191 (fun A c w h _=>BU a A c w h ha) rd
theorem bR(a:Dy)(ha:a.Valid):ae 130 [ag a] (iP a.top):=kG Tryz.call130 (fun A c w h _=>vZ a A c w h ha) rv
theorem nk(s:Bool)(m:Nat)(e:Int)(hl:(af m).length<=256)(he1:-32768<=e)(he2:e<=32768)(hd:cY (canon s m e)):ae 262 [bP s,ah (af m),iP e] (.aq [ag (canon s m e),iP 0]):=by
 refine⟨Tryz.call262,fun w B vs hK hB hr=>?_⟩;obtain⟨v1,vs,rfl,h1,hr⟩:=hr.cK;obtain⟨v2,vs,rfl,h2,hr⟩:=hr.cK;obtain⟨v3,vs,rfl,h3,hr⟩:=hr.cK;obtain rfl:=hr.fB;obtain rfl:=ax.bQ h1;obtain rfl:=ax.bQ h3;obtain⟨A,c,rfl,s1⟩:=jZ (cA m) h2;have:=OQ s A c (af m) e w s1 hl he1 he2 hK (by rw[bc];exact hd);rw[bc]at this
 exact this.mono fun e w' h=>rn B w e w' hB h
theorem one_le:E.le (.sl false 1 1 fun i j=>[E.v (.int .u32 1)].getD (i*1+j) (.v (.bool false))) (ah (af 1)):=by
 have e1:af 1=[1]:=by rw[pe (by decide),show 1/4294967296=0 by decide,dP]
 rw[e1];refine .sl fun i j hi hj=>?_
 obtain rfl:i=0:=by omega
 obtain rfl:j=0:=by omega
 exact⟨.refl _,rfl⟩
def aQ(d:Dy):List E:=[bP d.neg,ah (af d.m),iP d.e]
def dx(l:List Dy):E:=.sl true l.length 3 fun i j=>(aQ (l.getD i aT)).getD j .any
theorem wa(a:Dy):E.le (.sl true 1 3 fun i j=>[bP a.neg,ah (af a.m),iP a.e].getD (i*3+j) (.v (.bool false))) (dx [a]):=.sl fun i j hi hj=>by
 obtain rfl:i=0:=by omega
 rcases j with _|_|_|j
 .exact ⟨.refl _,rfl⟩
 .exact ⟨.refl _,rfl⟩
 .exact ⟨.refl _,rfl⟩
 .omega
theorem jQ(a b:Dy):E.le (.sl true 2 3 fun i j=>[bP a.neg,ah (af a.m),iP a.e,bP b.neg,ah (af b.m),iP b.e].getD (i*3+j) (.v (.bool false))) (dx [a,b]):=.sl fun i j hi hj=>by
 obtain rfl|rfl:i=0\/i=1:=by omega
 all_goals
  rcases j with _|_|_|j
  .exact ⟨.refl _,rfl⟩
  .exact ⟨.refl _,rfl⟩
  .exact ⟨.refl _,rfl⟩
  .omega
theorem dZ{n:Nat}(h:n≠0):(((n:Nat):Int)==0)=false:=by simp;omega
theorem iW{n:Nat}(h:n=0):(((n:Nat):Int)==0)=true:=by subst h;rfl
theorem DT{n:Nat}(h:n=0):(((n:Nat):Int) != 0)=false:=by subst h;rfl
theorem DU{n:Nat}(h:n≠0):(((n:Nat):Int) != 0)=true:=by simp;omega
theorem iC{m:Nat}:(af m).length=0↔m=0:=by rw[List.length_eq_zero_iff,Di]
theorem fA{m:Nat}(h:m≠0):(af m).length≠0:=fun q=>h (iC.1 q)
theorem Fp.Dy.Valid.af{d:Dy}(h:d.Valid):(af d.m).length<=256:=by have:=h.len;omega
end Go.Proofs.YtdgnpeddgdclhaaGreatDoor
namespace Go.Proofs.YtdgnpeddgdclhaaGreatDoor.Fp
structure Iv where
 lo:Dy
 hi:Dy
 all:Bool
def aj:Iv:=⟨aT,aT,true⟩
def Iv.Valid(x:Iv):Prop:=(x.all=true/\x.lo=aT/\x.hi=aT)\/(x.all=false/\x.lo.Valid/\x.hi.Valid/\aD x.lo x.hi<=0)
theorem cC:aj.Valid:=.inl ⟨rfl,rfl,rfl⟩
def ck(lo:Dy)(e:Int)(hi:Dy)(f:Int):Iv:=if e≠0\/f≠0 then aj else⟨lo,hi,false⟩
def jU(a b:Dy):Dy:=canon (a.neg != b.neg) (a.m*b.m) (a.e+b.e)
def iI(x:Iv):Iv:=if x.all then aj else⟨aC x.hi,aC x.lo,false⟩
def bj(x y:Iv)(p:Nat):Iv :=
 if x.all||y.all then aj else ck (bq (av x.lo y.lo) p false) (bg (av x.lo y.lo) p false) (bq (av x.hi y.hi) p true) (bg (av x.hi y.hi) p true)
def yZ(x y:Iv)(p:Nat):Iv:=bj x (iI y) p
theorem Kg{x y:Int}:ks x y<=0↔x<=y:=by
 unfold ks;split
 .constructor<;>intro<;>omega
 .split<;>constructor<;>intro<;>omega
theorem le_iff{a b:Dy}{k:Int}(ha:eU a k)(hb:eU b k):aD a b<=0↔a.num k<=b.num k:=by rw[qa ha hb,Kg]
theorem le_trans{a b c:Dy}(h1:aD a b<=0)(h2:aD b c<=0):aD a c<=0:=by
 obtain⟨k,ka,kb,kc⟩:∃ k:Int,k<=a.e/\k<=b.e/\k<=c.e:=⟨min a.e (min b.e c.e),by omega,by omega,by omega⟩
 rw[le_iff (.inr ka) (.inr kb)]at h1;rw[le_iff (.inr kb) (.inr kc)]at h2;rw[le_iff (.inr ka) (.inr kc)];omega
theorem nE(a:Dy):aD a a<=0:=by rw[le_iff (k:=a.e) (.inr (Int.le_refl _)) (.inr (Int.le_refl _))];exact Int.le_refl _
theorem Oi(a b:Dy):aD a b<=0\/aD b a<=0:=by
 obtain⟨k,ka,kb⟩:∃ k:Int,k<=a.e/\k<=b.e:=⟨min a.e b.e,by omega,by omega⟩
 rw[le_iff (.inr ka) (.inr kb),le_iff (.inr kb) (.inr ka)];omega
theorem Pg{a b:Dy}(h:aD a b<=0):aD (aC b) (aC a)<=0:=by
 obtain⟨k,ka,kb⟩:∃ k:Int,k<=a.e/\k<=b.e:=⟨min a.e b.e,by omega,by omega⟩
 rw[le_iff (.inr ka) (.inr kb)]at h;rw[le_iff (k:=k) (vg (.inr kb)) (vg (.inr ka)),xH,xH];omega
theorem Ss{a b c d:Dy}(h1:aD a b<=0)(h2:aD c d<=0):aD (av a c) (av b d)<=0:=by
 obtain⟨k,ka,kb,kc,kd⟩:∃ k:Int,k<=a.e/\k<=b.e/\k<=c.e/\k<=d.e:=⟨min (min a.e b.e) (min c.e d.e),by omega,by omega,by omega,by omega⟩
 rw[le_iff (.inr ka) (.inr kb)]at h1;rw[le_iff (.inr kc) (.inr kd)]at h2;rw[le_iff (k:=k) (r8 (.inr ka) (.inr kc)) (r8 (.inr kb) (.inr kd)),uF (.inr ka) (.inr kc),uF (.inr kb) (.inr kd)];omega
theorem sJ(m:Nat)(e:Int)(p:Nat) :
  bX m e false p false*2^a7 m e p<=m/\m<=bX m e false p true*2^a7 m e p:=by
 have h:=Nat.div_add_mod m (2^a7 m e p);have hr:=Nat.mod_lt m (Nat.pow_pos (n:=a7 m e p) (by decide:0<2));unfold bX;simp only[Bool.false_eq_true,false_and,if_false,Nat.add_zero,false_or,true_and];rw[Nat.mul_comm];generalize m/2^a7 m e p=q at *
 generalize 2^a7 m e p=P at *
 refine⟨by omega,?_⟩;rw[Nat.add_mul,Nat.mul_comm q];split
 .omega
 .omega
theorem vH{s:Bool}{m n:Nat}{e f K:Int}(h1:K<=e)(h2:K<=f)(h:m*2^(e-K).toNat<=n*2^(f-K).toNat) :
  (s=false->aD (canon s m e) (canon s n f)<=0)/\(s=true->aD (canon s n f) (canon s m e)<=0):=by
 constructor
 .rintro rfl
  rw[le_iff (mc h1) (mc h2),Ed h1,Ed h2]
  exact_mod_cast h
 .rintro rfl
  rw[le_iff (mc h2) (mc h1),nM h1,nM h2];simp only[if_true];omega
theorem BE(neg:Bool)(m:Nat)(e:Int)(p:Nat)(up:Bool)(he:bd neg m e false p up=0)(_hp:1<=p) :
  (up=true->aD (canon neg m e) (bn neg m e false p up)<=0)/\(up=false->aD (bn neg m e false p up) (canon neg m e)<=0):=by
 rw[qe]at he;obtain⟨c1,c2⟩:=sJ m e p;have e1:(e-e).toNat=0:=by omega
 have e2:(e+(a7 m e p:Int)-e).toNat=a7 m e p:=by omega
 have hk:e<=e+(a7 m e p:Int):=by omega
 have A:=fun s:Bool=>vH (s:=s) (m:=bX m e false p false) (n:=m) (e:=e+a7 m e p) (f:=e) (K:=e) hk (Int.le_refl _) (by rw[e1,e2];simpa using c1)
 have B:=fun s:Bool=>vH (s:=s) (m:=m) (n:=bX m e false p true) (e:=e) (f:=e+a7 m e p) (K:=e) (Int.le_refl _) hk (by rw[e1,e2];simpa using c2)
 unfold bn;by_cases ho:cH m e false p (neg != up)=true
 .have hn:¬(neg != up)=true:=fun h=>he ⟨ho,h⟩
  rw[if_pos ho,if_neg hn];have hnu:neg=up:=by cases neg<;>cases up<;>simp at hn ⊢
  have hn2:(neg != up)=false:=by rw[hnu];simp
  rw[hn2]at ho;unfold cH at ho;simp only[Bool.and_eq_true,decide_eq_true_eq]at ho;obtain⟨o1,o2⟩:=ho;have hq:=iq o1;have hbp:=dX o1;obtain⟨K,k1,k2⟩:∃ K:Int,K<=e/\K<=16384-p:=⟨min e (16384-p),by omega,by omega⟩
  have C:(2^p-1)*2^((16384:Int)-p-K).toNat<=m*2^(e-K).toNat:=by
   have h1:2^(ak (bX m e false p false)-1)*2^a7 m e p<=m:=Nat.le_trans (Nat.mul_le_mul_right _ hq) c1;have h2:=Nat.mul_le_mul_right (2^(e-K).toNat) h1;rw[<-Nat.pow_add,<-Nat.pow_add]at h2;refine Nat.le_trans (Nat.mul_le_mul_right _ (Nat.sub_le _ _)) (Nat.le_trans ?_ h2);rw[<-Nat.pow_add];exact Nat.pow_le_pow_right (by decide) (by omega)
  have D:=vH (s:=neg) k2 k1 C;subst hnu;cases neg
  .exact ⟨fun h=>absurd h (by decide),fun _=>D.1 rfl⟩
  .exact ⟨fun _=>D.2 rfl,fun h=>absurd h (by decide)⟩
 .rw [if_neg ho]
  cases neg<;>cases up
  .exact ⟨fun h=>absurd h (by decide),fun _=>(A false).1 rfl⟩
  .exact ⟨fun _=>(B false).1 rfl,fun h=>absurd h (by decide)⟩
  .exact ⟨fun h=>absurd h (by decide),fun _=>(B true).2 rfl⟩
  .exact ⟨fun _=>(A true).2 rfl,fun h=>absurd h (by decide)⟩
theorem Fm{d:Dy}(hd:d.Canon)(p:Nat)(hp:1<=p) :
  (bg d p true=0->aD d (bq d p true)<=0)/\(bg d p false=0->aD (bq d p false) d<=0):=by
 have h:=hd.oD;constructor
 .intro he
  have:=(BE d.neg d.m d.e p true he hp).1 rfl;rwa[h]at this
 .intro he
  have:=(BE d.neg d.m d.e p false he hp).2 rfl;rwa[h]at this
theorem gO{x y:Iv}(hx:x.Valid)(hy:y.Valid){p:Nat}(hp:1<=p)(hp2:p<=4096):(bj x y p).Valid:=by
 unfold bj;rcases hx with⟨h,_⟩|⟨h1,h2,h3,h4⟩
 .rw [h];exact cC
 .rcases hy with⟨h,_⟩|⟨k1,k2,k3,k4⟩
  .rw [h,h1];exact cC
  .rw [h1,k1]
   simp only[Bool.or_self,Bool.false_eq_true,if_false];unfold ck;by_cases he:bg (av x.lo y.lo) p false≠0\/bg (av x.hi y.hi) p true≠0
   .rw [if_pos he];exact cC
   .rw [if_neg he]
    have e1:bg (av x.lo y.lo) p false=0:=by omega
    have e2:bg (av x.hi y.hi) p true=0:=by omega
    refine .inr ⟨rfl,ia _ _ _ _ _ _ hp hp2,ia _ _ _ _ _ _ hp hp2,?_⟩;exact le_trans ((Fm (kT h2.canon k2.canon) p hp).2 e1) (le_trans (Ss h4 k4) ((Fm (kT h3.canon k3.canon) p hp).1 e2))
theorem tI{x:Iv}(hx:x.Valid):(iI x).Valid:=by
 unfold iI;rcases hx with⟨h,_⟩|⟨h1,h2,h3,h4⟩
 .rw [if_pos h];exact cC
 .rw [h1]
  exact .inr ⟨rfl,kC h3,kC h2,Pg h4⟩
def minD(a b:Dy):Dy:=if aD b a<0 then b else a
def maxD(a b:Dy):Dy:=if 0<aD b a then b else a
theorem qH(a b:Dy):aD (minD a b) a<=0:=by
 unfold minD;split
 .omega
 .exact nE a
theorem DE(a b:Dy):aD (minD a b) b<=0:=by
 unfold minD;split
 .exact nE b
 .rcases Oi a b with h|h
  .exact h
  .have h0:aD b a=0:=by omega
   obtain⟨k,ka,kb⟩:∃ k:Int,k<=a.e/\k<=b.e:=⟨min a.e b.e,by omega,by omega⟩
   rw[qa (k:=k) (.inr kb) (.inr ka)]at h0;rw[le_iff (.inr ka) (.inr kb)];unfold ks at h0;split at h0
   .omega
   .split at h0<;>omega
theorem qb(a b:Dy):aD a b = -aD b a:=by
 obtain⟨k,ka,kb⟩:∃ k:Int,k<=a.e/\k<=b.e:=⟨min a.e b.e,by omega,by omega⟩
 rw[qa (k:=k) (.inr ka) (.inr kb),qa (k:=k) (.inr kb) (.inr ka)];unfold ks;split<;>split<;>(try split)<;>omega
theorem ph(a b:Dy):aD a (maxD a b)<=0:=by
 unfold maxD;split
 .rw [qb];omega
 .exact nE a
theorem DC(a b:Dy):aD b (maxD a b)<=0:=by
 unfold maxD;split
 .exact nE b
 .omega
theorem jS{a b:Dy}(ha:a.Valid)(hb:b.Valid):(minD a b).Valid:=by unfold minD;split;exact hb;exact ha
theorem iF{a b:Dy}(ha:a.Valid)(hb:b.Valid):(maxD a b).Valid:=by unfold maxD;split;exact hb;exact ha
def et(D : Dy->Dy->Bool->Dy)(E : Dy->Dy->Bool->Int)(x y : Iv) : Iv :=
  if(E x.lo y.lo false=0/\E x.lo y.lo true=0)/\(E x.lo y.hi false=0/\E x.lo y.hi true=0)/\(E x.hi y.lo false=0/\E x.hi y.lo true=0)/\(E x.hi y.hi false=0/\E x.hi y.hi true=0)then
    ⟨minD (minD (minD (D x.lo y.lo false) (D x.lo y.hi false)) (D x.hi y.lo false)) (D x.hi y.hi false),
     maxD (maxD (maxD (D x.lo y.lo true) (D x.lo y.hi true)) (D x.hi y.lo true)) (D x.hi y.hi true), false⟩
  else aj
theorem Cu{D:Dy->Dy->Bool->Dy}{E:Dy->Dy->Bool->Int}{x y:Iv}(hv:∀ a b up,(D a b up).Valid)
  (hle:E x.lo y.lo false=0->E x.lo y.lo true=0->aD (D x.lo y.lo false) (D x.lo y.lo true)<=0):(et D E x y).Valid:=by
 unfold et;split
 .rename_i h
  refine .inr ⟨rfl,jS (jS (jS (hv _ _ _) (hv _ _ _)) (hv _ _ _)) (hv _ _ _),iF (iF (iF (hv _ _ _) (hv _ _ _)) (hv _ _ _)) (hv _ _ _),?_⟩;refine le_trans (qH _ _) (le_trans (qH _ _) (le_trans (qH _ _) (le_trans (hle h.1.1 h.1.2) ?_)));exact le_trans (ph _ _) (le_trans (ph _ _) (ph _ _))
 .exact cC
def aV(x y:Iv)(p:Nat):Iv :=
 if x.all||y.all then aj else et (fun a b up=>bq (jU a b) p up) (fun a b up=>bg (jU a b) p up) x y
theorem iG(x y:Iv){p:Nat}(hp:1<=p)(hp2:p<=4096):(aV x y p).Valid:=by
 unfold aV;split
 .exact cC
 .exact Cu (fun _ _ _=>ia _ _ _ _ _ _ hp hp2) (fun h1 h2=>BD _ _ _ _ _ h1 h2)
def bZ(a b:Dy)(p:Nat)(g:Nat):Nat:=p+g+ak b.m-ak a.m
def ev(a b:Dy)(p:Nat)(up:Bool):Dy :=
 if a.m=0 then aT else bn (a.neg != b.neg) (a.m*2^bZ a b p 2/b.m) (a.e-b.e-bZ a b p 2) (decide (a.m*2^bZ a b p 2%b.m≠0)) p up
def fw(a b:Dy)(p:Nat)(up:Bool):Int :=
 if a.m=0 then 0 else bd (a.neg != b.neg) (a.m*2^bZ a b p 2/b.m) (a.e-b.e-bZ a b p 2) (decide (a.m*2^bZ a b p 2%b.m≠0)) p up
theorem vV{a b:Dy}(a0:a.m≠0)(b0:b.m≠0)(p g:Nat)(hg:2<=g):p<ak (a.m*2^bZ a b p g/b.m):=by
 have h1:=iq a0;have h2:=gi b.m;have ha:=dX a0;have h3:2^p<=a.m*2^bZ a b p g/b.m:=by
  rw[Nat.le_div_iff_mul_le (by omega)];refine Nat.le_trans (Nat.mul_le_mul_left _ (Nat.le_of_lt h2)) (Nat.le_trans ?_ (Nat.mul_le_mul_right _ h1));rw[<-Nat.pow_add,<-Nat.pow_add];exact Nat.pow_le_pow_right (by decide) (by unfold bZ;omega)
 exact jz.2 h3
theorem KG{a b:Dy}(a0:a.m≠0)(b0:b.m≠0)(p:Nat)(up:Bool) :
  bn (a.neg != b.neg) (a.m*2^bZ a b p 3/b.m) (a.e-bZ a b p 3-b.e) (decide (a.m*2^bZ a b p 3%b.m≠0)) p up=ev a b p up /\
  bd (a.neg != b.neg) (a.m*2^bZ a b p 3/b.m) (a.e-bZ a b p 3-b.e) (decide (a.m*2^bZ a b p 3%b.m≠0)) p up=fw a b p up:=by
 obtain⟨d,hd⟩:∃ d,bZ a b p 3=bZ a b p 2+d:=⟨bZ a b p 3-bZ a b p 2,by unfold bZ;omega⟩
 have hb:=vV a0 b0 p 2 (by decide);unfold ev fw;rw[if_neg a0,if_neg a0,hd];generalize bZ a b p 2=k at *
 have hB:0<b.m:=by omega
 have hP:=Nat.pow_pos (n:=d) (by decide:0<2);have e1:a.m*2^(k+d)/b.m/2^d=a.m*2^k/b.m:=by
  rw[Nat.div_div_eq_div_mul,Nat.pow_add,<-Nat.mul_assoc,Nat.mul_div_mul_right _ _ hP]
 have e2:(decide (a.m*2^(k+d)%b.m≠0)||decide (a.m*2^(k+d)/b.m%2^d≠0))=decide (a.m*2^k%b.m≠0):=by
  have h1:a.m*2^(k+d)%(b.m*2^d)=a.m*2^k%b.m*2^d:=by rw[Nat.pow_add,<-Nat.mul_assoc,Nat.mul_mod_mul_right]
  have h2:a.m*2^(k+d)%(b.m*2^d)=a.m*2^(k+d)%b.m+b.m*(a.m*2^(k+d)/b.m%2^d):=Nat.mod_mul;rw[h1]at h2;rw[Bool.eq_iff_iff];simp only[Bool.or_eq_true,decide_eq_true_eq];constructor
  .intro h h0
   rw[h0,Nat.zero_mul]at h2;rcases h with h|h
   .omega
   .have:=Nat.mul_pos hB (Nat.pos_of_ne_zero h)
    omega
  .intro h
   apply Classical.byContradiction;intro hn;have n1:a.m*2^(k+d)%b.m=0:=by
    apply Classical.byContradiction;intro h';exact hn (.inl h')
   have n2:a.m*2^(k+d)/b.m%2^d=0:=by
    apply Classical.byContradiction;intro h';exact hn (.inr h')
   rw[n1,n2,Nat.mul_zero]at h2;have:=Nat.mul_pos (Nat.pos_of_ne_zero h) hP;omega
 have h:=sI (N:=a.m*2^(k+d)/b.m) (E:=a.e-((k+d:Nat):Int)-b.e) (more:=decide (a.m*2^(k+d)%b.m≠0)) (d:=d) (p:=p) (a.neg != b.neg) up (by rw[e1];exact hb);rw[e1,e2,show a.e-((k+d:Nat):Int)-b.e+(d:Int)=a.e-b.e-(k:Int)by omega]at h;exact⟨h.1.symm,h.2.symm⟩
def dw(x:Iv):Int:=if x.all then 0 else if 0<x.lo.sign then 1 else if x.hi.sign<0 then -1 else 0
def bT(x y:Iv)(p:Nat):Iv :=
 if x.all||y.all||decide (dw y=0)then aj else et (fun a b up=>ev a b p up) (fun a b up=>fw a b p up) x y
theorem jP(x y:Iv){p:Nat}(hp:1<=p)(hp2:p<=4096):(bT x y p).Valid:=by
 unfold bT;split
 .exact cC
 .refine Cu (fun a b up=>?_) (fun h1 h2=>?_)
  .unfold ev;split
   .exact gL
   .exact ia _ _ _ _ _ _ hp hp2
  .unfold ev fw at *
   split
   .exact nE _
   .rename_i h
    rw[if_neg h]at h1 h2;exact BD _ _ _ _ _ h1 h2
def cE(d:Dy):Dy:=⟨false,d.m,d.e⟩
theorem kP{d:Dy}(h:d.Valid):(cE d).Valid:=by
 refine⟨?_,h.range⟩;rcases h.canon with⟨h1,_,h3⟩|h1
 .exact .inl ⟨h1,rfl,h3⟩
 .exact .inr h1
theorem Hh(d:Dy)(k:Int):(cE d).num k=(d.aZ k:Int):=by unfold Dy.num cE Dy.aZ;simp
def di(x:Iv):Dy:=maxD (cE x.lo) (cE x.hi)
def dY(x:Iv):Dy:=if dw x=0 then aT else minD (cE x.lo) (cE x.hi)
def bh(x:Iv):Iv:=if x.all then aj else⟨dY x,di x,false⟩
def cF(d:Dy):Iv:=⟨d,d,false⟩
theorem jF{d:Dy}(h:d.Valid):(cF d).Valid:=.inr ⟨rfl,h,h,nE d⟩
theorem tD{x:Iv}(h1:x.lo.Valid)(h2:x.hi.Valid):(di x).Valid:=iF (kP h1) (kP h2)
theorem sc{x:Iv}(h:x.Valid):(bh x).Valid:=by
 unfold bh;rcases h with⟨h,_⟩|⟨h,h1,h2,_⟩
 .rw [h];exact cC
 .rw [h]
  have v1:=kP h1;have v2:=kP h2;refine .inr ⟨rfl,?_,tD h1 h2,?_⟩
  .show (dY x).Valid
   unfold dY;split
   .exact gL
   .exact jS v1 v2
  .show aD (dY x) (di x)<=0
   unfold dY;split
   .refine le_trans (b:=cE x.lo) ?_ (ph _ _)
    rw[le_iff (a:=aT) (b:=cE x.lo) (k:=x.lo.e) (.inl rfl) (.inr (Int.le_refl _)),jD rfl,Hh];omega
   .exact le_trans (qH _ _) (ph _ _)
def az(n:Int):Dy:=bS n 0
def aN(n:Int):Iv:=cF (az n)
def iz:Iv:=cF (canon false 1 (-1))
end Go.Proofs.YtdgnpeddgdclhaaGreatDoor.Fp
namespace Go.Proofs.YtdgnpeddgdclhaaGreatDoor
open Go.RowKit Fp Pu
def aF(x:Iv):List E:=[bP x.lo.neg,ah (af x.lo.m),iP x.lo.e,bP x.hi.neg,ah (af x.hi.m),iP x.hi.e,bP x.all]
def ai(x:Iv):E:=.agg (aF x)
def an(l:List Iv):E:=.sl true l.length 7 fun i j=>(aF (l.getD i aj)).getD j .any
def fL(m:List (List Iv)):E:=.sl true m.length 1 fun i _=>an (m.getD i [])
def mz(x y:Iv):Bool:=y.all||(!x.all&&(decide (aD y.lo x.lo<=0)&&decide (aD x.hi y.hi<=0)))
theorem nK:E.le (.v (.slice none 0 0)) (ah (af 0)):=by
 have:ah (af 0) = .sl false 0 1 fun i _=>.v (.int .u32 (((af 0).getD i 0:Nat):Int)):=by unfold ah;rw[dP];rfl
 rw[this];exact .nil _ _ _
theorem uV:E.le (.agg [bP false,.v (.slice none 0 0),iP 0,bP false,.v (.slice none 0 0),iP 0,bP true]) (ai aj) :=
 .agg (.cons (.refl _) (.cons nK (.cons (.refl _) (.cons (.refl _) (.cons nK (.cons (.refl _) (.cons (.refl _) .nil)))))))
end Go.Proofs.YtdgnpeddgdclhaaGreatDoor
