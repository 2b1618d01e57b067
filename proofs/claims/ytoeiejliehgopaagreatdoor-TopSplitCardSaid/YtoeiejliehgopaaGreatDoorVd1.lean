/-
  Part 1 of the proof of TopSplit: framework, walks, plain laws.
-/
import Derived.Below
import Derived.OwnWalk
import Derived.Orders
import Derived.KernelRfl
import Derived.Laws.StructEq
import Derived.Laws.Shifts
import Derived.Laws.Strings
import Derived.Laws.Small
import Derived.Great.BuildSlice
import Derived.Laws.BytesString
import Derived.Laws.AppendOwnNone
import Derived.Maps.AppendAt
import Derived.Great.FillDense
import Derived.IntWalk
import Derived.Laws.ResultCell
import Derived.Laws.Rows
import Derived.Test.YtoeiejliehgopaaGreatDoorProg
import Derived.Lib.Bytealg
import Derived.Lib.Strings
import Derived.Lib.Slices
import Derived.Lib.Small
import Derived.Lib.Walk
import Derived.Lib.BitFns
set_option linter.defProp false
namespace Go
def ab:=@List.sublist_cons_self
def ae:=@decide_eq_false
def ah:=@if_neg
def ai:=@decide_eq_true
def aj:=@if_pos
def ak:=@List.getD_eq_getElem?_getD
def ao:=@List.sublist_append_right
def ap:=@List.sublist_append_left
def aw:=@Nat.zero_le
def ax:=@List.length_append
def ay:=@List.perm_append_comm
def aB:=@Nat.le_refl
def aF:=@List.getElem?_eq_getElem
def aG:=@List.append_assoc
def aH:=@List.mem_cons_self
def aI:=@Nat.mul_le_mul_right
def aJ:=@List.mem_cons_of_mem
def aK:=@List.append_nil
def aO:=@List.mem_singleton
def aQ:=@not_not_intro
def aS:=@Nat.not_lt_zero
def aU:=@List.take_of_length_le
def aV:=@Nat.mul_add
def aW:=@Nat.mod_eq_of_lt
def aZ:=@List.length_cons
def ba:=@Nat.mul_assoc
def bf:=@Bool.and_eq_true
def bj:=@List.length_map
def bk:=@List.Sublist.append
def bl:=@Nat.mod_lt
def bn:=@Nat.add_mul
def bA:=@Nat.mul_le_mul_left
def bB:=@congrArg
def bC:=@Nat.pow_succ
def bF:=@Nat.mul_comm
def bG:=@List.length_set
def bH:=@Nat.lt_or_ge
def bI:=@List.Sublist.refl
def bJ:=@Nat.pow_le_pow_right
def bK:=@Option.some.inj
def bM:=@List.mem_cons
def bN:=@List.mem_append
def bO:=@List.take_length
def bP:=@Rat.le_refl
def bQ:=@List.Perm.append_right
def bS:=@List.map_append
def bT:=@Rat.div_def
def bU:=@Nat.div_eq_of_lt
def bV:=@List.Perm.append_left
def bW:=@Rat.mul_inv_cancel
def bX:=@Nat.zero_add
def bY:=@List.cons_append
def bZ:=@Nat.lt_of_le_of_lt
def ca:=@List.mem_map
def ce:=@List.nil_append
def cj:=@List.flatMap_cons
def ct:=@Go.IntWalk.i64_in
def cx:=@Rat.intCast_natCast
def cy:=@Nat.pow_pos
def cB:=@List.eq_nil_of_length_eq_zero
def cF:=@Nat.eq_of_beq_eq_true
def cG:=@List.not_mem_nil
def cH:=@List.getElem?_append_right
def cI:=@Nat.div_add_mod
def cJ:=@List.map_cons
def cK:=@List.getElem?_append_left
def cO:=@List.all_eq_true
def cQ:=@Nat.le_trans
def cS:=@Go.run_underlying
def cU:=@Nat.pow_zero
def cV:=@Nat.div_div_eq_div_mul
def cW:=@List.nodup_append
def cZ:=@List.mem_range
def da:=@List.flatMap_singleton
def db:=@Nat.add_mul_div_left
def dc:=@List.take_append_drop
def de:=@Nat.mul_lt_mul_of_pos_right
def df:=@Nat.eq_zero_or_pos
def dg:=@Nat.div_lt_of_lt_mul
def dh:=@decide_eq_false_iff_not
def di:=@Rat.le_of_lt
def dj:=@List.getElem?_eq_none
def dk:=@Go.Result.andThen_ok
def dm:=@List.length_take
def dp:=@Bool.or_eq_true
def dq:=@Nat.lt_of_lt_of_le
def dt:=@Nat.lt_irrefl
def du:=@List.flatMap_append
def dw:=@List.getElem?_eq_some_iff
def dx:=@Nat.div_le_self
def dy:=@Rat.lt_irrefl
def dz:=@Array.all_eq_true'
def dA:=@Nat.pow_add
def dB:=@List.any_eq_true
def dE:=@List.length_range
def dG:=@Nat.one_mul
def dH:=@Nat.mul_pos
def dI:=@Go.Sem.run_bind
def dJ:=@decide_eq_decide
def dK:=@List.mem_flatMap
def dP:=@List.Perm.refl
def dQ:=@Int.tmod_eq_emod_of_nonneg
def dR:=@Nat.add_assoc
def dS:=@List.mem_filter
def dU:=@Nat.sub_self
def dV:=@Nat.lt_succ_self
def dW:=@List.mem_reverse
def dX:=@List.drop_eq_getElem_cons
def dY:=@List.getElem_of_mem
def dZ:=@Rat.one_mul
def ec:=@Nat.mod_one
def ef:=@Nat.le_div_iff_mul_le
def eg:=@Rat.mul_zero
def eh:=@Nat.add_zero
def en:=@List.set_cons_zero
def eo:=@Int.natCast_nonneg
def eu:=@List.mem_flatten
def ew:=@List.getElem_map
def eC:=@Nat.dvd_trans
def eD:=@Rat.zero_mul
def eE:=@Rat.mkRat_self
def eG:=@List.perm_append_singleton
def eI:=@List.foldl_append
def eJ:=@Rat.intCast_mul
def eN:=@Nat.mul_one
def eO:=@Nat.add_mul_mod_self_left
def eP:=@Nat.le_of_ble_eq_true
def eQ:=@List.length_singleton
def eR:=@List.length_replicate
def eV:=@Nat.sub_add_cancel
def eW:=@Rat.le_trans
def eY:=@Nat.mul_zero
def eZ:=@List.take_append_of_le_length
def fa:=@Bool.not_eq_false
def fb:=@List.flatten_append
def fc:=@Nat.add_comm
def fe:=@List.singleton_sublist
def ff:=@List.drop_of_length_le
def fg:=@Rat.mul_one
def fh:=@Rat.mkRat_eq_div
def fi:=@Option.getD_some
def fk:=@List.length_drop
def fm:=@List.ext_getElem
def fo:=@decide_eq_true_iff
def fp:=@Nat.mul_le_mul
def ft:=@List.take_zero
def fu:=@List.nodup_nil
def fv:=@Go.IntWalk.u64_in
def fw:=@Go.IntWalk.u32_in
def fy:=@Rat.num_eq_zero
def fz:=@Nat.mod_add_div
def fA:=@Nat.zero_mul
def fB:=@Nat.gcd_dvd_right
def fC:=@Nat.div_one
def fD:=@List.getElem?_set
def fE:=@Decidable.not_not
def fF:=@List.length_reverse
def fG:=@Int.toNat_of_nonneg
def fH:=@Nat.add_sub_cancel_left
def fI:=@List.prefix_refl
def fJ:=@List.getElem_mem
def fK:=@List.filter_cons
def fL:=@Nat.pow_mul
def fM:=@List.drop_append_of_le_length
def fN:=@Int.natAbs_natCast
def fO:=@Rat.mul_eq_zero
def fP:=@List.all_append
def fQ:=@decide_eq_true_eq
def fR:=@Bool.not_eq_true'
def fS:=@or_false
def fT:=@BitVec.ofInt_natCast
def fU:=@Nat.le_of_lt
def fV:=@Go.IntWalk.u16_in
def fW:=@List.replicate_succ
def fX:=@List.map_congr_left
def fY:=@List.length_pos_iff
def fZ:=@Array.length_toList
def f9:=@List.all_cons
def ga:=@Rat.natCast_mul
def gf:=@Nat.mul_ne_zero
def gh:=@List.length_nil
def gi:=@List.cons.injEq
def gj:=@Bool.eq_iff_iff
def gk:=@Rat.not_lt
def gl:=@Rat.div_mul_cancel
def gm:=@Nat.not_lt
def gn:=@BitVec.toNat_ofNat
def gq:=@dite_true
def gu:=@Nat.or_comm
def gw:=@List.length_eq_zero_iff
def gy:=@List.getElem?_replicate
def gz:=@Go.IntWalk.u8_in
def gA:=@Go.IntWalk.i64_quo
def gB:=@of_decide_eq_true
def gC:=@Rat.mul_comm
def gD:=@Option.some.injEq
def gE:=@List.flatten_singleton
def gF:=@List.any_eq_false
def gG:=@Array.getElem?_eq_none
def gH:=@Go.bodyPost_ret
def gI:=@List.getElem?_reverse
def gJ:=@Classical.choose_spec
def gK:=@Array.mem_of_getElem?
def gL:=@Nat.blt_eq
def gN:=@Nat.and_two_pow_sub_one_eq_mod
def gO:=@List.nil_sublist
def gP:=@List.flatMap_nil
def gQ:=@List.eq_nil_iff_forall_not_mem
def gR:=@Nat.le_sub_one_of_lt
def gS:=@List.reverse_reverse
def gT:=@List.mem_of_mem_take
def gU:=@List.mem_append_left
def gV:=@Rat.natCast_add
def gW:=@Rat.intCast_inj
def gX:=@Nat.min_eq_left
def gY:=@List.nodup_cons
def gZ:=@Int.natCast_mul
def g8:=@Nat.div_mul_le_self
def g9:=@if_true
def hJ:=@Rat.add_zero
def ia:=@List.map_set
def ib:=@Rat.sub_eq_add_neg
def ic:=@Nat.xor_lt_two_pow
def ie:=@Nat.mul_lt_mul_of_lt_of_le
def ig:=@Nat.mul_add_mod_self_right
def ij:=@Nat.and_lt_two_pow
def ik:=@Nat.add_sub_cancel
def im:=@List.filter_append
def io:=@Array.getElem?_eq_some_iff
def iq:=@Array.any_eq_true'
def iu:=@Go.Sem.run_pure
def iw:=@Go.mem_ready
def ix:=@Nat.mul_left_comm
def iy:=@Nat.div_pos
def iz:=@List.getElem_take
def iA:=@Go.Lib.bitLen_le8
def iC:=@Int.toNat_natCast
def iD:=@Rat.mul_assoc
def iE:=@Nat.gcd_pos_of_pos_right
def iF:=@List.sum_cons
def iG:=@Bool.not_true
def iH:=@Bool.false_or
def iI:=@Go.getD_set_ne
def iJ:=@Nat.le_of_not_lt
def iK:=@Nat.gcd_dvd_left
def iL:=@List.take_append
def iM:=@List.map_toArray
def iN:=@List.getElem_inj
def iO:=@Rat.zero_add
def iP:=@Rat.intCast_le_intCast
def iQ:=@Nat.succ_pos
def iR:=@Nat.lt_trans
def iS:=@List.map_map
def iT:=@Nat.mul_add_div
def iU:=@List.sum_append
def iV:=@List.range_succ
def iW:=@List.count_cons
def iX:=@Nat.mul_mod_mul_right
def iY:=@Nat.div_lt_iff_lt_mul
def iZ:=@Nat.add_mul_div_right
def i2:=@List.set_append_right
def i3:=@List.mem_append_right
def i4:=@List.length_filter_le
def i5:=@List.getElem?_toArray
def i6:=@Rat.mul_nonneg
def i7:=@Rat.add_mul
def i9:=@Go.Oper.upon_value
def jf:=@Nat.pow_one
def jg:=@List.mem_of_getElem?
def ji:=@List.drop_zero
def jj:=@Go.IntWalk.u64_quo
def jk:=@Int.natAbs_mul
def jy:=@Bool.false_and
def jA:=@Rat.mkRat_mul_right
def jB:=@Rat.le_iff_lt_or_eq
def jC:=@Nat.mul_div_cancel'
def jD:=@List.reverse_append
def jE:=@List.replicate_zero
def jF:=@List.prefix_append
def jG:=@List.map_singleton
def jH:=@List.getElem_range
def jI:=@List.getElem?_take
def jJ:=@List.Nodup.sublist
def jK:=@Int.natAbs_eq_zero
def jL:=@Bool.false_eq_true
def jM:=@List.set_eq_take_append_cons_drop
def jN:=@if_false
def jO:=@Go.getD_set_true
def jP:=@Prod.ext
def jQ:=@Ne.symm
def jR:=@Nat.gcd_one_right
def jS:=@Nat.gcd_comm
def jT:=@List.take_succ_eq_append_getElem
def jU:=@List.reverse_cons
def jV:=@List.map_nil
def jW:=@List.getElem?_map
def jX:=@List.ext_getElem?
def jZ:=@Int.emod_eq_of_lt
def j0:=@Nat.le_max_right
def j1:=@List.nodup_range
def j2:=@Int.neg_mul
def j3:=@UInt8.toNat_inj
def j4:=@Rat.natCast_pos
def j5:=@Rat.intCast_sub
def j6:=@Nat.gcd_le_left
def j7:=@Nat.div_lt_self
def j8:=@List.zip_append
def j9:=@List.prefix_append_right_inj
def ka:=@List.length_zip
end Go
set_option maxRecDepth 20000
set_option maxHeartbeats 8000000
namespace Go
theorem jY {p : Prop} (h : p := by assumption) : p := h
theorem oO {p : Prop} (h : p := by omega) : p := h
theorem dD {p : Prop} (h : p := by decide) : p := h
theorem kR {p : Prop} (h : p := by kernel_rfl) : p := h
theorem jz {α : Type _} (a : α) : ∃ x, x = a := ⟨_, rfl⟩
structure Jh (p : Prop) : Prop where x : p
theorem dT {p : Prop} [Decidable p] (h : p := by omega) : decide p = true := ai h
theorem dF {p : Prop} [Decidable p] (h : ¬ p := by omega) : decide p = false := ae h
theorem dO {p : Prop} (h : p := by first | omega | (simp; done) | (simp; omega)) : p := h
theorem dL {p : Prop} (h : p := by first | omega | (simp only [aZ, gh]; omega)) : p := h
theorem dM {m n : Nat} (h : Nat.ble m n = true := by exact rfl) : m ≤ n := eP h
end Go
namespace Go.Sx
open Go Go.RowKit
def mb (P:Program) (f:FuncId) (args:Array Value) (w:World) (R:Value->World->Prop):Prop:=
 Calls P f args w λe w'=>∃v,e= .returned v/\R v w'
theorem mb.mono {P:Program} {f:FuncId} {args:Array Value} {w:World} {R R':Value->World->Prop} (h:mb P f args w R) (hr:∀v w',R v w'->R' v w'):mb P f args w R':=
 Calls.mono h λ_ _ ⟨v,he,hR⟩=>⟨v,he,hr _ _ hR⟩
def T4:List Value->Nat->Value
 | [],_=>undef
 |v::_,0=>v
 |_::l,n+1=>T4 l n
def Xc (ρ:Nat->Value) (d:Nat) (v:Value):Nat->Value:=λt=>bif Nat.beq t d then v else ρ t
def tm (ρ:Nat->Value):Option Nat->Value->(Nat->Value)
 |some d,v=>Xc ρ d v
 |none,_=>ρ
def act (N:Nat) (ρ:Nat->Value):Act:=⟨Array.ofFn (n:=N) λi=>ρ i.val,[]⟩
def ev (N:Nat) (ρ:Nat->Value):Operand->Value
 | .tmp t=>bif Nat.blt t N then ρ t else undef
 | .const v=>v
 | .global g=> .pointer (some ⟨g,0,none⟩)
 | .func f=> .func (.func f) #[] #[]
theorem ot (N:Nat) (ρ:Nat->Value) (t:Nat):(act N ρ).tmps.getD t undef=ev N ρ (.tmp t):=by
 simp only[act,ev];by_cases h:t<N
 ·have hb:Nat.blt t N=true:=by rw[gL];exact h
  simp[hb,Array.getD,h]
 ·have hb:Nat.blt t N=false:=by
   cases h':Nat.blt t N with
   |false=>rfl
   |true=>rw[gL]at h';exact absurd h' h
  simp[hb,Array.getD,h]
theorem oV (N:Nat) (ρ:Nat->Value):(act N ρ).eval=ev N ρ:=by
 funext x;cases x with
 |tmp t=>exact ot N ρ t
 |_=>rfl
theorem px (N:Nat) (ρ:Nat->Value) (d:Option Tmp) (v:Value):(act N ρ).put d v=act N (tm ρ d v):=by
 cases d with
 |none=>rfl
 |some d=>
  simp only[Act.put,act,tm];congr 1;apply Array.ext
  ·simp
  ·intro i h1 h2;rw[Array.getElem_setIfInBounds (by simpa using h2)];simp only[Array.getElem_ofFn,Xc];by_cases h:d=i
   ·subst h;simp
   ·have:Nat.beq i d=false:=by cases h':Nat.beq i d with|false=>rfl|true=>exact absurd (cF h').symm h
    simp[h,this]
theorem M7 (args:List Value) (N:Nat) (h:args.length<=N):
  (args.toArray++Array.replicate (N-args.toArray.size) undef)=Array.ofFn (n:=N) λi=>T4 args i.val:=by
 apply Array.ext
 ·simp;omega
 ·intro i h1 h2;have key:∀(l:List Value) (i:Nat) (_:i<l.length),T4 l i=l[i]:=by
   intro l;induction l with
   |nil=>intro i hi;simp at hi
   |cons a l ih=>intro i hi;cases i with
    |zero=>rfl
    |succ i=>simpa[T4]using ih i (by simpa using hi)
  have key2:∀(l:List Value) (i:Nat) (_:l.length<=i),T4 l i=undef:=by
   intro l;induction l with
   |nil=>intro i hi;rfl
   |cons a l ih=>intro i hi;cases i with
    |zero=>simp at hi
    |succ i=>simpa[T4]using ih i (by simpa using hi)
  by_cases hi:i<args.length
  ·rw[Array.getElem_append_left (by simpa using hi)];simp[key args i hi]
  ·rw[Array.getElem_append_right (by simpa using hi)];simp[key2 args i oO]
theorem enter {P:Program} {f:FuncId} {fn:Func} {c:Code} {N:Nat} {l:List Value} {w:World} {R:Value->World->Prop}
  (hf:P.funcs[f]?=some fn) (hb:fn.body=some c) (hN:fn.ntmps=N) (hl:Nat.ble l.length N=true)
  (h:c.wp P (bodyPost P fn λe w'=>∃v,e= .returned v/\R v w') (act N (T4 l)) w):mb P f l.toArray w R:=by
 subst hN;refine calls_of_wp hf hb ?_;rw[M7 l fn.ntmps (eP hl)];exact h
section
variable {P : Program} {N : Nat} {ρ : Nat → Value} {w : World} {Q : Exit → Act → World → Prop}
structure wl (P:Program) (ops:Array Oper) (Q:Exit->Act->World->Prop) (l:List Oper) (N:Nat) (ρ:Nat->Value) (w:World):Prop where
 out:wpList P ops Q l (act N ρ) w
theorem Hs {id:Nat} {l:List Oper} (h:wl P l.toArray Q l N ρ w):(Code.region id l.toArray false).wp P Q (act N ρ) w:=wp_region_lit h.out
theorem zi {x y:Code} {a:Act} (h:x.wp P (Exit.then (y.wp P Q) Q) a w):(Code.seq x y).wp P Q a w:=wp_seq h
theorem xO {id:Nat} {c:Code} {a:Act} (h:c.wp P (Exit.inBlock id Q) a w):(Code.block id c).wp P Q a w:=wp_block h
theorem uE {a:Act} (h:Q .normal a w):Code.skip.wp P Q a w:=wp_skip h
theorem KV {a:Act} (h:Q .ret a w):Code.ret.wp P Q a w:=wp_ret h
theorem Cf {id:Nat} {a:Act} (h:Q (.exit id) a w):(Code.exit id).wp P Q a w:=wp_exit h
theorem W9 {c:Operand} {x y:Code} (p:Prop) [Decidable p] (hc:ev N ρ c= .bool (decide p)) (ht:p->x.wp P Q (act N ρ) w) (hf:¬p->y.wp P Q (act N ρ) w):
  (Code.cond c x y).wp P Q (act N ρ) w:=by
 refine wp_cond_split (t:=decide p) (by rw[oV];exact hc) (λh=>ht (gB h)) (λh=>hf (of_decide_eq_false h))
theorem lu {c:Operand} {x y:Code} {b:Bool} (hc:ev N ρ c= .bool b) (hb:b=true) (h:x.wp P Q (act N ρ) w):
 (Code.cond c x y).wp P Q (act N ρ) w:=wp_cond_true (by rw[oV,hc,hb]) h
theorem lH {c:Operand} {x y:Code} {b:Bool} (hc:ev N ρ c= .bool b) (hb:b=false) (h:y.wp P Q (act N ρ) w):
 (Code.cond c x y).wp P Q (act N ρ) w:=wp_cond_false (by rw[oV,hc,hb]) h
theorem kF {σ:Type} {c:Code} (I:σ->(Nat->Value)->World->Prop) (μ:σ->Nat) (s₀:σ) (h₀:I s₀ ρ w)
  (round:∀s ρ w,I s ρ w->c.wp P (Exit.then (λa' w'=>∃s' ρ',a'=act N ρ'/\I s' ρ' w'/\μ s'<μ s) Q) (act N ρ) w):
  (Code.loop c).wp P Q (act N ρ) w:=by
 have key:∀n,∀s ρ w,μ s<=n->I s ρ w->∀(b:Frame) (k:List Item) (cs:List Frame),
   ∃e a' w',Q e a' w'/\Arrives P (lone (b.at (act N ρ) (.code c:: .inLoop c::k)) cs w) b k cs e a' w':=by
  intro n;induction n with
  |zero=>
   intro s ρ w hn hI b k cs;obtain⟨e,a₁,w₁,hq,harr⟩:=round s ρ w hI b (.inLoop c::k) cs;cases e with
   |normal=>obtain⟨s',ρ',_,_,hlt⟩:=hq;omega
   |exit id=>exact⟨_,a₁,w₁,hq,.pass (x:= .inLoop c) rfl (λ_ _=> .inl (by simp)) harr⟩
   |goto l=>exact⟨_,a₁,w₁,hq,.pass (x:= .inLoop c) rfl (λ_ _=> .inl (by simp)) harr⟩
   |ret=>exact⟨_,a₁,w₁,hq,.pass (x:= .inLoop c) rfl (λ_ _=> .inl (by simp)) harr⟩
   |panic ch=>exact⟨_,a₁,w₁,hq,.pass (x:= .inLoop c) rfl (λ_ _=> .inl (by simp)) harr⟩
   |outgrown=>exact⟨_,a₁,w₁,hq,.pass (x:= .inLoop c) rfl (λ_ _=> .inl (by simp)) harr⟩
  |succ n ih=>
   intro s ρ w hn hI b k cs;obtain⟨e,a₁,w₁,hq,harr⟩:=round s ρ w hI b (.inLoop c::k) cs;cases e with
   |normal=>
    obtain⟨s',ρ',rfl,hI',hlt⟩:=hq;obtain⟨e₂,a₂,w₂,hq₂,harr₂⟩:=ih s' ρ' w₁ oO hI' b k cs;exact⟨e₂,a₂,w₂,hq₂,.of_steps (Steps.trans harr (.one step_inLoop)) harr₂⟩
   |exit id=>exact⟨_,a₁,w₁,hq,.pass (x:= .inLoop c) rfl (λ_ _=> .inl (by simp)) harr⟩
   |goto l=>exact⟨_,a₁,w₁,hq,.pass (x:= .inLoop c) rfl (λ_ _=> .inl (by simp)) harr⟩
   |ret=>exact⟨_,a₁,w₁,hq,.pass (x:= .inLoop c) rfl (λ_ _=> .inl (by simp)) harr⟩
   |panic ch=>exact⟨_,a₁,w₁,hq,.pass (x:= .inLoop c) rfl (λ_ _=> .inl (by simp)) harr⟩
   |outgrown=>exact⟨_,a₁,w₁,hq,.pass (x:= .inLoop c) rfl (λ_ _=> .inl (by simp)) harr⟩
 intro b k cs;obtain⟨e,a',w',hq,harr⟩:=key _ s₀ ρ w (aB _) h₀ b k cs;exact⟨e,a',w',hq,.of_steps (.one step_loop) harr⟩
theorem kG {x:Code} (M:(Nat->Value)->World->Prop) (hx:x.wp P (Exit.then (λa' w'=>∃ρ',a'=act N ρ'/\M ρ' w') Q) (act N ρ) w)
  (hy:∀ρ w,M ρ w->Q .normal (act N ρ) w):x.wp P Q (act N ρ) w:=by
 refine Code.wp_mono (λe a w h=> ?_) hx;cases e<;>first|exact h|(obtain⟨ρ',rfl,hM⟩:=h;exact hy _ _ hM)
theorem uy {a:Act} {K:Act->World->Prop} (h:K a w):Exit.then K Q .normal a w:=h
theorem pW {a:Act} {K:Act->World->Prop} (h:Q .ret a w):Exit.then K Q .ret a w:=h
theorem pj {a:Act} {K:Act->World->Prop} {i:Nat} (h:Q (.exit i) a w):Exit.then K Q (.exit i) a w:=h
theorem tF {id:Nat} {a:Act} (h:Q .normal a w):Exit.inBlock id Q .normal a w:=h
theorem ph {id:Nat} {a:Act} (h:Q .ret a w):Exit.inBlock id Q .ret a w:=h
theorem oK {id:Nat} {a:Act} (h:Q .normal a w):Exit.inBlock id Q (.exit id) a w:=by simp only[Exit.inBlock,g9];exact h
theorem oH {id i:Nat} {a:Act} (hi:Nat.beq i id=false) (h:Q (.exit i) a w):Exit.inBlock id Q (.exit i) a w:=by
 have:¬i=id:=λe=>by subst e;simp at hi
 simp only[Exit.inBlock,this,jN];exact h
theorem kJ {fn:Func} {t:Nat} {R:Value->World->Prop} {v:Value} (hr:fn.results= #[.tmp t]) (hv:ev N ρ (.tmp t)=v) (h:R v w):
  bodyPost P fn (λe w'=>∃v,e= .returned v/\R v w') .ret (act N ρ) w:=
 gH (results_tmp hr _ _ _) rfl ⟨_,rfl,by rw[ot,hv];exact h⟩
theorem rP {fn:Func} {t u:Nat} {R:Value->World->Prop} {x y:Value} (hr:fn.results= #[.tmp t,.tmp u]) (hx:ev N ρ (.tmp t)=x) (hy:ev N ρ (.tmp u)=y) (h:R (.tuple #[x,y]) w):
  bodyPost P fn (λe w'=>∃v,e= .returned v/\R v w') .ret (act N ρ) w:=
 gH (results_tmp2 hr _ _ _) rfl ⟨_,rfl,by rw[ot,ot,hx,hy];exact h⟩
theorem qv {fn:Func} {R:Value->World->Prop} (hr:fn.results= #[]) (h:R (.tuple #[]) w):
  bodyPost P fn (λe w'=>∃v,e= .returned v/\R v w') .normal (act N ρ) w:=
 bodyPost_end (results_none hr _ _ _) rfl ⟨_,rfl,h⟩
end
def gd (ops:Array Oper) (N:Nat) (ρ:Nat->Value):Option (Nat×Bool)->Bool
 |none=>true
 |some (j,b)=>match(ops[j]?).bind (·.dst)with
  |some d=>match ev N ρ (.tmp d)with
   | .bool c=>c==b
   |_=>false
  |none=>false
theorem pb (ops:Array Oper) (N:Nat) (ρ:Nat->Value) (o:Oper) (h:gd ops N ρ o.guard=true):Region.wanted o (yielded ops (act N ρ).tmps)=true:=by
 unfold Region.wanted;cases hg:o.guard with
 |none=>rfl
 |some p=>
  obtain⟨j,b⟩:=p;rw[hg]at h;simp only[gd]at h;simp only;split at h
  ·rename_i d hd;have ht:=ot N ρ d;split at h
   ·rename_i c hc;rw[hc]at ht;have hq:(act N ρ).tmps[d]?=some (.bool c):=by
     rw[Array.getD_eq_getD_getElem?]at ht;cases hx:(act N ρ).tmps[d]?with
     |none=>rw[hx]at ht;exact absurd ht (by simp[undef])
     |some x=>rw[hx]at ht;simpa using ht
    unfold yielded;rw[hd];simp only[Option.bind_some,hq];simpa using h
   ·cases h
  ·cases h
def To (ops:Array Oper) (N:Nat) (ρ:Nat->Value):Option (Nat×Bool)->Bool
 |none=>false
 |some (j,b)=>match(ops[j]?).bind (·.dst)with
  |some d=>match ev N ρ (.tmp d)with
   | .bool c=>c !=b
   |_=>true
  |none=>false
theorem CM (ops:Array Oper) (N:Nat) (ρ:Nat->Value) (o:Oper) (h:To ops N ρ o.guard=true):Region.wanted o (yielded ops (act N ρ).tmps)=false:=by
 unfold Region.wanted;cases hg:o.guard with
 |none=>rw[hg]at h;cases h
 |some p=>
  obtain⟨j,b⟩:=p;rw[hg]at h;simp only[To]at h;simp only;split at h
  ·rename_i d hd;have ht:=ot N ρ d;unfold yielded;rw[hd];simp only[Option.bind_some];cases hx:(act N ρ).tmps[d]?with
   |none=>rfl
   |some x=>
    rw[Array.getD_eq_getD_getElem?,hx]at ht;simp only[fi]at ht;rw[<-ht]at h;cases x with
    |bool c=>
     simp only at h;cases c<;>cases b<;>simp_all
    |_=>rfl
  ·cases h
theorem kd {ops:Array Oper} {N:Nat} {ρ:Nat->Value} {j:Nat} {b c:Bool} (d:Nat) (hd:(ops[j]?).bind (·.dst)=some d) (hv:ev N ρ (.tmp d)= .bool c) (hc:c=b):gd ops N ρ (some (j,b))=true:=by
 simp only[gd,hd,hv,hc,beq_self_eq_true]
theorem kg {ops:Array Oper} {N:Nat} {ρ:Nat->Value} {j:Nat} {b c:Bool} (d:Nat) (hd:(ops[j]?).bind (·.dst)=some d) (hv:ev N ρ (.tmp d)= .bool c) (hc:c= !b):To ops N ρ (some (j,b))=true:=by
 simp only[To,hd,hv,hc];cases b<;>rfl
theorem qf {ops:Array Oper} {N:Nat} {ρ:Nat->Value} {j:Nat} {b:Bool} (d:Nat) (hd:(ops[j]?).bind (·.dst)=some d) (hv:ev N ρ (.tmp d)=undef):To ops N ρ (some (j,b))=true:=by
 simp only[To,hd,hv,undef]
theorem vb {v:Value} {c b:Bool} (h:v= .bool c) (hc:c=b):v= .bool b:=by rw[h,hc]
theorem vi {v:Value} {k:IntKind} {m n:Int} (h:v= .int k m) (hc:m=n):v= .int k n:=by rw[h,hc]
theorem vs {v:Value} {s s':ByteArray} (h:v= .string s) (hc:s=s'):v= .string s':=by rw[h,hc]
section
variable {P : Program} {N : Nat} {ρ : Nat → Value} {w w' : World} {Q : Exit → Act → World → Prop} {ops : Array Oper} {rest : List Oper}
  {d : Option Tmp} {ty : TypeId} {pos : String} {aft : Array Edge} {g : Option (Nat × Bool)} {x y z : Operand}
theorem zr (h:Q .normal (act N ρ) w):wl P ops Q [] N ρ w:=⟨wpList_nil h⟩
def mx (P:Program) (N:Nat) (ρ:Nat->Value) (o:Oper) (K:Value->Prop):Prop:=∃v,(∀w,(execOp (ev N ρ) o).run P w= .ok (.value v) w)/\K v
def rD (P:Program) (N:Nat) (ρ:Nat->Value) (w:World) (o:Oper) (K:Value->Prop):Prop:=
 ∃v,(∀w',Below w.heap.size w w'->(execOp (ev N ρ) o).run P w'= .ok (.value v) w')/\K v
def Ij (P:Program) (K:Value->World->Prop):Result Next->Prop
 | .ok (.value v) w'=>K v w'
 | .ok .skip w'=>K undef w'
 | .ok (.enter f args) w'=>mb P f args w' K
 |_=>False
structure pL (P:Program) (N:Nat) (ρ:Nat->Value) (w:World) (o:Oper) (K:Value->World->Prop):Prop where
 out:Ij P K ((execOp (ev N ρ) o).run P w)
theorem oU {K K':Value->World->Prop} (hk:∀v w,K v w->K' v w) {r:Result Next} (h:Ij P K r):Ij P K' r:=by
 cases r with
 |ok n w'=>cases n<;>first|exact hk _ _ h|exact mb.mono h hk|exact h.elim
 |halt x w'=>exact h.elim
theorem oZ {p:Op} (hg:gd ops N ρ g=true) (h:pL P N ρ w ⟨d,p,ty,pos,aft,g⟩ λv w'=>wl P ops Q rest N (tm ρ d v) w'):wl P ops Q (⟨d,p,ty,pos,aft,g⟩::rest) N ρ w:=by
 constructor;unfold wpList;rw[aj (pb ops N ρ ⟨d,p,ty,pos,aft,g⟩ hg)];refine .inl ?_;unfold Oper.wp;rw[oV];have h:=h.out;generalize (execOp (ev N ρ) ⟨d,p,ty,pos,aft,g⟩).run P w=r at*;cases r with
 |halt x w'=>exact h.elim
 |ok n w'=>
  cases n with
  |value v=>rw[i9,px];exact wl.out h
  |skip=>rw[Oper.upon_skip,px];exact wl.out h
  |enter f args=>
   rw[Oper.upon_enter];refine Calls.mono h ?_;rintro e w1 ⟨v,rfl,hR⟩;simp only[px];exact wl.out hR
  |_=>exact h.elim
theorem lA {p:Op} (hg:gd ops N ρ g=true) (h:rD P N ρ w ⟨d,p,ty,pos,aft,g⟩ λv=>wl P ops Q rest N (tm ρ d v) w):wl P ops Q (⟨d,p,ty,pos,aft,g⟩::rest) N ρ w:=by
 obtain⟨v,hv,hK⟩:=h;refine oZ hg ⟨?_⟩;rw[hv w (Below.refl _ _)];exact hK
theorem ko {p:Op} (hg:gd ops N ρ g=true) (h:mx P N ρ ⟨d,p,ty,pos,aft,g⟩ λv=>wl P ops Q rest N (tm ρ d v) w):wl P ops Q (⟨d,p,ty,pos,aft,g⟩::rest) N ρ w:=by
 obtain⟨v,hv,hK⟩:=h;exact lA hg ⟨v,λw' _=>hv w',hK⟩
theorem kS {p:Op} (hg:To ops N ρ g=true) (h:wl P ops Q rest N (tm ρ d undef) w):wl P ops Q (⟨d,p,ty,pos,aft,g⟩::rest) N ρ w:=by
 constructor;unfold wpList;rw[ah (by rw[CM ops N ρ ⟨d,p,ty,pos,aft,g⟩ hg];decide),px];exact h.out
variable {K : Value → Prop} {K2 : Value → World → Prop}
theorem ow {o:Oper} {v:Value} (hr:(execOp (ev N ρ) o).run P w= .ok (.value v) w') (h:K2 v w'):pL P N ρ w o K2:=⟨by rw[hr];exact h⟩
theorem Bh {o:Oper} (hr:(execOp (ev N ρ) o).run P w= .ok .skip w') (h:K2 undef w'):pL P N ρ w o K2:=⟨by rw[hr];exact h⟩
theorem kf {f:FuncId} {xs:List Operand} {ats:Array TypeId} {args:List Value} {R:Value->World->Prop}
  (hcall:∀args w,(callFunc f args).run P w= .ok (.enter f args) w) (hargs:xs.map (ev N ρ)=args)
  (hc:mb P f args.toArray w R) (h:∀v w',R v w'->K2 v w'):
  pL P N ρ w ⟨d,.call ⟨.value (.func f),xs.toArray,ats⟩,ty,pos,aft,g⟩ K2:=by
 have hr:(execOp (ev N ρ) ⟨d,.call ⟨.value (.func f),xs.toArray,ats⟩,ty,pos,aft,g⟩).run P w= .ok (.enter f args.toArray) w:=by
  have:=hcall args.toArray w;simp only[execOp,resolve,ev,Deferred.ofValue,invoke,iM,hargs,dI,iu,dk,Array.empty_append,Array.append_empty];exact this
 constructor;rw[hr];exact hc.mono h
theorem zm {f:FuncId} {t:Nat} {cap:List Value} {xs:List Operand} {ats:Array TypeId} {args:List Value} {R:Value->World->Prop}
  (hcall:∀args w,(callFunc f args).run P w= .ok (.enter f args) w) (hf:ev N ρ (.tmp t)= .func (.func f) #[] cap.toArray) (hargs:xs.map (ev N ρ)++cap=args)
  (hc:mb P f args.toArray w R) (h:∀v w',R v w'->K2 v w'):
  pL P N ρ w ⟨d,.call ⟨.value (.tmp t),xs.toArray,ats⟩,ty,pos,aft,g⟩ K2:=by
 have hr:(execOp (ev N ρ) ⟨d,.call ⟨.value (.tmp t),xs.toArray,ats⟩,ty,pos,aft,g⟩).run P w= .ok (.enter f args.toArray) w:=by
  have:=hcall args.toArray w;simp only[execOp,resolve,hf,Deferred.ofValue,invoke,iM,dI,iu,dk,List.append_toArray,ce,hargs];exact this
 constructor;rw[hr];exact hc.mono h
theorem kw {v:Value} (hx:ev N ρ x=v) (h:K v):mx P N ρ ⟨d,.move x,ty,pos,aft,g⟩ K:=
 ⟨_,λw=>(by simp[execOp,hx]),h⟩
theorem oN {v:Value} (hx:ev N ρ x=v) (h:K v):mx P N ρ ⟨d,.assign x,ty,pos,aft,g⟩ K:=
 ⟨_,λw=>(by simp[execOp,hx]),h⟩
theorem kH {v:Value} {b:Bool} (hx:ev N ρ x= .bool b) (hv:(bif b then ev N ρ y else ev N ρ z)=v) (h:K v):
  mx P N ρ ⟨d,.pick x y z,ty,pos,aft,g⟩ K:=
 ⟨_,λw=>(by subst hv;cases b<;>simp[execOp,hx,asBool]),h⟩
theorem wH {i:Nat} {vs:Array Value} {v:Value} (hx:ev N ρ x= .tuple vs) (hv:vs[i]?=some v) (h:K v):
  mx P N ρ ⟨d,.extract x i,ty,pos,aft,g⟩ K:=
 ⟨_,λw=>(by simp[execOp,hx,Instr.extract,hv]),h⟩
theorem VW {fn:Fn} {fs cs:List Operand} {vf vc:List Value} (hf:fs.map (ev N ρ)=vf) (hc:cs.map (ev N ρ)=vc) (h:K (.func fn vf.toArray vc.toArray)):
  mx P N ρ ⟨d,.makeFunc fn fs.toArray cs.toArray,ty,pos,aft,g⟩ K:=
 ⟨_,λw=>(by simp[execOp,hf,hc,Instr.makeFunc]),h⟩
variable {k k' : IntKind} {m n r : Int} {t t' : TypeId}
theorem py (hx:ev N ρ x= .int k m) (hy:ev N ρ y= .int k n) (hr:k.wrap (m+n)=r) (h:K (.int k r)):
  mx P N ρ ⟨d,.binOp .add t x y t',ty,pos,aft,g⟩ K:=
 ⟨_,λw=>(by simp[execOp,hx,hy,eqGuard,binOp,Op.intArith,hr]),h⟩
theorem sh (hx:ev N ρ x= .int k m) (hy:ev N ρ y= .int k n) (hr:k.wrap (m-n)=r) (h:K (.int k r)):
  mx P N ρ ⟨d,.binOp .sub t x y t',ty,pos,aft,g⟩ K:=
 ⟨_,λw=>(by simp[execOp,hx,hy,eqGuard,binOp,Op.intArith,hr]),h⟩
theorem wF (hx:ev N ρ x= .int k m) (hy:ev N ρ y= .int k n) (hr:k.wrap (m*n)=r) (h:K (.int k r)):
  mx P N ρ ⟨d,.binOp .mul t x y t',ty,pos,aft,g⟩ K:=
 ⟨_,λw=>(by simp[execOp,hx,hy,eqGuard,binOp,Op.intArith,hr]),h⟩
theorem sf (hx:ev N ρ x= .int k m) (hy:ev N ρ y= .int k n) (hn:n≠0) (hr:k.wrap (m.tdiv n)=r) (h:K (.int k r)):
  mx P N ρ ⟨d,.binOp .quo t x y t',ty,pos,aft,g⟩ K:=
 ⟨_,λw=>(by simp[execOp,hx,hy,eqGuard,binOp,Op.intDiv,hn,hr]),h⟩
theorem pF (hx:ev N ρ x= .int k m) (hy:ev N ρ y= .int k n) (hn:n≠0) (hr:m.tmod n=r) (h:K (.int k r)):
  mx P N ρ ⟨d,.binOp .rem t x y t',ty,pos,aft,g⟩ K:=
 ⟨_,λw=>(by simp[execOp,hx,hy,eqGuard,binOp,Op.intDiv,hn,hr]),h⟩
theorem u6 (hx:ev N ρ x= .int k m) (hy:ev N ρ y= .int k' n) (hn:0<=n) (hr:k.wrap (m*2^(min n.toNat k.bits))=r) (h:K (.int k r)):
  mx P N ρ ⟨d,.binOp .shl t x y t',ty,pos,aft,g⟩ K:=
 ⟨_,λw=>(by simp[execOp,hx,hy,eqGuard,binOp,Op.shift,Int.not_lt.2 hn,hr]),h⟩
theorem qu (hx:ev N ρ x= .int k m) (hy:ev N ρ y= .int k' n) (hn:0<=n) (hr:m.fdiv (2^(min n.toNat k.bits))=r) (h:K (.int k r)):
  mx P N ρ ⟨d,.binOp .shr t x y t',ty,pos,aft,g⟩ K:=
 ⟨_,λw=>(by simp[execOp,hx,hy,eqGuard,binOp,Op.shift,Int.not_lt.2 hn,hr]),h⟩
def qg (op:BinOp) (k:IntKind) (x y:Int):Int:=
 let a:=BitVec.ofInt k.bits x
 let b:=BitVec.ofInt k.bits y
 k.wrap (match op with
 | .and=>(a&&&b).toNat
 | .or=>(a|||b).toNat
 | .xor=>(a^^^b).toNat
 |_=>(a&&& ~~~b).toNat)
theorem EZ (hx:ev N ρ x= .int k m) (hy:ev N ρ y= .int k n) (hr:qg .and k m n=r) (h:K (.int k r)):
  mx P N ρ ⟨d,.binOp .and t x y t',ty,pos,aft,g⟩ K:=
 ⟨_,λw=>(by subst hr;simp[execOp,hx,hy,eqGuard,binOp,Op.intBits,qg]),h⟩
theorem y7 (hx:ev N ρ x= .int k m) (hy:ev N ρ y= .int k n) (hr:qg .or k m n=r) (h:K (.int k r)):
  mx P N ρ ⟨d,.binOp .or t x y t',ty,pos,aft,g⟩ K:=
 ⟨_,λw=>(by subst hr;simp[execOp,hx,hy,eqGuard,binOp,Op.intBits,qg]),h⟩
theorem Ww (hx:ev N ρ x= .int k m) (hy:ev N ρ y= .int k n) (hr:qg .xor k m n=r) (h:K (.int k r)):
  mx P N ρ ⟨d,.binOp .xor t x y t',ty,pos,aft,g⟩ K:=
 ⟨_,λw=>(by subst hr;simp[execOp,hx,hy,eqGuard,binOp,Op.intBits,qg]),h⟩
theorem vh (hx:ev N ρ x= .int k m) (hy:ev N ρ y= .int k n) (h:K (.bool (decide (m<n)))):
  mx P N ρ ⟨d,.binOp .lss t x y t',ty,pos,aft,g⟩ K:=
 ⟨_,λw=>(by simp[execOp,hx,hy,eqGuard,binOp,Op.intCmp]),h⟩
theorem SI (hx:ev N ρ x= .int k m) (hy:ev N ρ y= .int k n) (h:K (.bool (decide (m<=n)))):
  mx P N ρ ⟨d,.binOp .leq t x y t',ty,pos,aft,g⟩ K:=
 ⟨_,λw=>(by simp[execOp,hx,hy,eqGuard,binOp,Op.intCmp]),h⟩
theorem sT (hx:ev N ρ x= .int k m) (hy:ev N ρ y= .int k n) (h:K (.bool (decide (n<m)))):
  mx P N ρ ⟨d,.binOp .gtr t x y t',ty,pos,aft,g⟩ K:=
 ⟨_,λw=>(by simp[execOp,hx,hy,eqGuard,binOp,Op.intCmp]),h⟩
theorem wA (hx:ev N ρ x= .int k m) (hy:ev N ρ y= .int k n) (h:K (.bool (decide (n<=m)))):
  mx P N ρ ⟨d,.binOp .geq t x y t',ty,pos,aft,g⟩ K:=
 ⟨_,λw=>(by simp[execOp,hx,hy,eqGuard,binOp,Op.intCmp]),h⟩
theorem qO (hx:ev N ρ x= .int k m) (hy:ev N ρ y= .int k n) (h:K (.bool (decide (m=n)))):
  mx P N ρ ⟨d,.binOp .eql t x y t',ty,pos,aft,g⟩ K:=
 ⟨.bool (decide (m=n)),λw=>(by
  have:(m==n)=decide (m=n):=rfl;simp[execOp,hx,hy,eqGuard,binOp,Op.intCmp,this]),h⟩
theorem zB (hx:ev N ρ x= .int k m) (hy:ev N ρ y= .int k n) (h:K (.bool (decide (m≠n)))):
  mx P N ρ ⟨d,.binOp .neq t x y t',ty,pos,aft,g⟩ K:=
 ⟨.bool (decide (m≠n)),λw=>(by
  have:(m !=n)=decide (m≠n):=by rw[gj];simp
  simp[execOp,hx,hy,eqGuard,binOp,Op.intCmp,this]),h⟩
theorem kT (hx:ev N ρ x= .int k m) (hk:P.underlying t'=some (.int k')) (hs:∃e,P.underlying t=some e) (hr:k'.wrap m=r) (h:K (.int k' r)):
  mx P N ρ ⟨d,.convert t t' x,ty,pos,aft,g⟩ K:=by
 obtain⟨e,he⟩:=hs;refine⟨_,λw=> ?_,h⟩;subst hr;simp[execOp,hx,convert,underlying,he,hk,Conv.intToInt]
theorem xb {b:Bool} (hx:ev N ρ x= .bool b) (h:K (.bool !b)):
  mx P N ρ ⟨d,.unOp .not t x,ty,pos,aft,g⟩ K:=
 ⟨_,λw=>(by simp[execOp,hx,Op.unary]),h⟩
theorem Ot (hx:ev N ρ x= .int k m) (hr:k.wrap (0-m)=r) (h:K (.int k r)):
  mx P N ρ ⟨d,.unOp .neg t x,ty,pos,aft,g⟩ K:=
 ⟨_,λw=>(by subst hr;simp[execOp,hx,Op.unary,Op.intArith]),h⟩
theorem S3 (hx:ev N ρ x= .int k m) (hr:qg .xor k (if k.signed then-1 else k.max) m=r) (h:K (.int k r)):
  mx P N ρ ⟨d,.unOp .xor t x,ty,pos,aft,g⟩ K:=
 ⟨_,λw=>(by subst hr;simp[execOp,hx,Op.unary,Op.intBits,qg]),h⟩
theorem V8 {b c:Bool} (hx:ev N ρ x= .bool b) (hy:ev N ρ y= .bool c) (ht:P.underlying t=some .bool) (h:K (.bool (b==c))):
  mx P N ρ ⟨d,.binOp .eql t x y t',ty,pos,aft,g⟩ K:=
 ⟨_,λw=>(by simp[execOp,hx,hy,eqGuard,run_eql_bool w t b c ht]),h⟩
theorem Dg {b c:Bool} (hx:ev N ρ x= .bool b) (hy:ev N ρ y= .bool c) (ht:P.underlying t=some .bool) (h:K (.bool (b !=c))):
  mx P N ρ ⟨d,.binOp .neq t x y t',ty,pos,aft,g⟩ K:=
 ⟨.bool (!(b==c)),λw=>(by simp[execOp,hx,hy,eqGuard,run_neq_bool w t b c ht,-bne_iff_ne,-Bool.not_eq_eq_eq_not]),h⟩
variable {s s' : ByteArray}
theorem PN (s s':ByteArray):(s.toList==s'.toList)=decide (s=s'):=by
 rw[gj];simp only[beq_iff_eq,fQ];constructor
 ·intro h;cases s;cases s'
  rename_i a b;rw[ByteArray.toList_eq,ByteArray.toList_eq]at h;congr 1;exact Array.ext' h
 ·rintro rfl;rfl
theorem qk (hx:ev N ρ x= .string s) (hy:ev N ρ y= .string s') (h:K (.bool (decide (s=s')))):
  mx P N ρ ⟨d,.binOp .eql t x y t',ty,pos,aft,g⟩ K:=
 ⟨_,λw=>(by simp only[execOp,hx,hy,eqGuard,binOp,Op.stringOp,PN];simp),h⟩
theorem rR (hx:ev N ρ x= .string s) (hy:ev N ρ y= .string s') (h:K (.bool (decide (s≠s')))):
  mx P N ρ ⟨d,.binOp .neq t x y t',ty,pos,aft,g⟩ K:=
 ⟨.bool (decide (s≠s')),λw=>(by simp only[execOp,hx,hy,eqGuard,binOp,Op.stringOp,PN];simp),h⟩
theorem NS (hx:ev N ρ x= .string s) (ht:P.underlying t=some .string) (h:K (.int .i64 s.size)):
  mx P N ρ ⟨d,.call ⟨.builtin .len,#[x],#[t]⟩,ty,pos,aft,g⟩ K:=
 ⟨_,λw=>(by simp[execOp,resolve,invoke,builtin,hx,Builtin.len_,underlying,ht,goInt]),h⟩
theorem xh {i:Nat} (hx:ev N ρ x= .string s) (hy:ev N ρ y= .int k m) (hm:m=(i:Int)) (hi:i<s.size) (ht:P.underlying t=some .string)
  (h:K (.int .u8 (s[i]'hi).toNat)):
  mx P N ρ ⟨d,.index t x y,ty,pos,aft,g⟩ K:=by
 subst hm;refine⟨_,λw=> ?_,h⟩;have h1:s[i]?=some (s[i]'hi):=by simp[hi]
 simp[execOp,hx,hy,Instr.index,asIntOf,underlying,ht,h1]
theorem Fp {lo:Nat} {kl:IntKind} {ml:Int} (hx:ev N ρ x= .string s) (hl:ev N ρ y= .int kl ml) (hml:ml=(lo:Int))
  (h1:lo<=s.size) (ht:P.underlying t=some .string) (h:K (.string (s.extract lo s.size))):
  mx P N ρ ⟨d,.slice t x (some y) none none,ty,pos,aft,g⟩ K:=by
 subst hml;refine⟨_,λw=> ?_,h⟩;simp[execOp,hx,hl,Instr.sliceAt,Instr.slice,Instr.sliceBounds,Instr.sliceBound,asIntOf,underlying,ht,h1]
end
theorem add_lit (b o n:Nat):(⟨b,o,none⟩:Addr).add n=⟨b,o+n,none⟩:=by unfold Addr.add;split<;>simp_all
theorem add_zero (a:Addr):a.add 0=a:=by simp[Addr.add]
def At (w:World) (a:Addr) (cs:List Value):Prop:=∀j u,cs[j]?=some u->w.cell? (a.add j)=some u
theorem At.kb {w w':World} {a:Addr} {cs:List Value} (h:At w a cs) (hb:Below w.heap.size w w'):At w' a cs:=λj u hu=>by
 have h1:=h j u hu;rw[hb.cell (by have:=World.block_lt_of_cell? w _ h1;exact this)];exact h1
theorem At.one {w:World} {a:Addr} {u:Value} (h:w.cell? a=some u):At w a [u]:=λj v hv=>by
 cases j with
 |zero=>simp at hv;subst hv;rw[add_zero];exact h
 |succ j=>simp at hv
theorem At.head {w:World} {a:Addr} {u:Value} {cs:List Value} (h:At w a (u::cs)):w.cell? a=some u:=by
 have:=h 0 u rfl;rwa[add_zero]at this
theorem At.seg {w:World} {b o:Nat} {cs:List Value} (h:At w ⟨b,o,none⟩ cs) (k n:Nat):At w ⟨b,o+k,none⟩ ((cs.drop k).take n):=λj u hu=>by
 rw[add_lit];have h2:cs[k+j]?=some u:=by
  rw[jI]at hu;split at hu
  ·rw[List.getElem?_drop]at hu;exact hu
  ·cases hu
 have:=h (k+j) u h2;rw[add_lit]at this;rw[dR];exact this
theorem At.of_heap {w:World} {b:Nat} {cs:List Value} {t:TypeId} {fr:Nat×Nat} (h:w.heap[b]?=some (.cells cs.toArray t fr)) (k n:Nat):At w ⟨b,k,none⟩ ((cs.drop k).take n):=by
 have:At w ⟨b,0,none⟩ cs:=λj u hu=>by
  rw[add_lit,cell_of_row w b _ cs.toArray t fr h];simpa using hu
 have h2:=this.seg k n;simpa using h2
def t6:Value->Addr
 | .slice (some a) _ _=>a
 |_=>⟨0,0,none⟩
structure Sl {α:Type} (enc:α->List Value) (size:Nat) (w:World) (v:Value) (L:List α):Prop where
 form:∃a cap,v= .slice a L.length cap/\L.length<=cap/\cap<=maxLen/\(a=none->cap=0)
 elt:∀i (h:i<L.length),At w ((t6 v).add (i*size)) (enc L[i])
section
variable {α : Type} {enc : α → List Value} {size : Nat} {w w' : World} {v : Value} {L : List α}
theorem Sl.kb (h:Sl enc size w v L) (hb:Below w.heap.size w w'):Sl enc size w' v L:=⟨h.form,λi hi=>(h.elt i hi).kb hb⟩
theorem Sl.maxLen (h:Sl enc size w v L):L.length<=9223372036854775807:=by
 obtain⟨a,cap,_,h1,h2,_⟩:=h.form;unfold Go.maxLen at h2;omega
theorem Sl.at (h:Sl enc size w v L) {i:Nat} (hi:i<L.length) (d:α):At w ((t6 v).add (i*size)) (enc (L.getD i d)):=by
 have:=h.elt i hi;simpa[List.getD,hi]using this
theorem Sl.nil (enc:α->List Value) (size:Nat) (w:World):Sl enc size w (.slice none 0 0) []:=⟨⟨none,0,rfl,aB _,aw _,λ_=>rfl⟩,λi hi=>by simp at hi⟩
theorem flat_get (hu:∀x,(enc x).length=size) (L:List α) (i j:Nat) (hi:i<L.length) (hj:j<size):(L.flatMap enc)[i*size+j]?=(enc L[i])[j]?:=by
 induction L generalizing i with
 |nil=>simp at hi
 |cons x L ih=>
  cases i with
  |zero=>
   rw[cj,fA,bX,cK (by rw[hu];exact hj)];rfl
  |succ i=>
   rw[cj,cH (by rw[hu,bn];omega),hu,bn];rw[show i*size+1*size+j-size=i*size+j by omega,ih i (by simpa using hi)];rfl
theorem lO (hu:∀x,(enc x).length=size) (L:List α):(L.flatMap enc).length=L.length*size:=by
 induction L with
 |nil=>simp
 |cons x L ih=>rw[cj,ax,hu,ih,aZ,bn];omega
theorem Sl.of_heap {b:Nat} {t:TypeId} {fr:Nat×Nat} {spare:List Value} {cap:Nat} (hu:∀x,(enc x).length=size)
  (h:w.heap[b]?=some (.cells (L.flatMap enc++spare).toArray t fr)) (h1:L.length<=cap) (h2:cap<=Go.maxLen):Sl enc size w (.slice (some ⟨b,0,none⟩) L.length cap) L:=by
 refine⟨⟨some ⟨b,0,none⟩,cap,rfl,h1,h2,λh=>by cases h⟩,λi hi j u hj=> ?_⟩;have hj':j<size:=by
  have:=(dw.1 hj).1;rwa[hu]at this
 rw[show t6 (.slice (some ⟨b,0,none⟩) L.length cap)=⟨b,0,none⟩from rfl,add_lit,add_lit,cell_of_row w b _ _ t fr h];have hlt:i*size+j<(L.flatMap enc).length:=by
  rw[lO hu];have:(i+1)*size<=L.length*size:=aI _ hi;rw[bn]at this;omega
 simp only[i5,bX];rw[cK hlt,flat_get hu L i j hi hj'];exact hj
end
abbrev lj:=Nat×TypeId×List Value
structure St (w0 w:World) (H:List lj):Prop where
 kb:Below w0.heap.size w0 w
 own:∀e∈H,w0.heap.size<=e.1/\w.heap[e.1]?=some (.cells e.2.2.toArray e.2.1 (0,0))
 nd:(H.map (·.1)).Nodup
section
variable {w0 w w' : World} {H H' : List lj} {b k : Nat} {t : TypeId} {cs : List Value}
theorem St.init (w:World):St w w []:=⟨Below.refl _ _,λe he=>(by cases he),List.Pairwise.nil⟩
theorem St.lt (h:St w0 w H) {e:lj} (he:e∈H):e.1<w.heap.size:=(io.1 (h.own e he).2).1
theorem St.get (h:St w0 w H) (hk:H[k]?=some (b,t,cs)):w.heap[b]?=some (.cells cs.toArray t (0,0)):=(h.own _ (jg hk)).2
theorem St.ge (h:St w0 w H) (hk:H[k]?=some (b,t,cs)):w0.heap.size<=b:=(h.own _ (jg hk)).1
theorem St.at (h:St w0 w H) (hk:H[k]?=some (b,t,cs)) (o n:Nat):At w ⟨b,o,none⟩ ((cs.drop o).take n):=At.of_heap (h.get hk) o n
theorem St.kx (h:St w0 w H) (hb:Below w.heap.size w w'):St w0 w' H:=
 ⟨h.kb.trans (hb.mono h.kb.size),λe he=>⟨(h.own e he).1,by rw[hb.block _ (h.lt he)];exact(h.own e he).2⟩,h.nd⟩
theorem St.push (h:St w0 w H) (hb:Below w.heap.size w w') (hge:w.heap.size<=b) (hc:w'.heap[b]?=some (.cells cs.toArray t (0,0))):St w0 w' ((b,t,cs)::H):=by
 have h':=h.kx hb;refine⟨h'.kb,λe he=> ?_,?_⟩
 ·rcases bM.1 he with rfl|he
  ·exact⟨cQ h.kb.size hge,hc⟩
  ·exact h'.own e he
 ·rw[cJ,gY];refine⟨λhm=> ?_,h.nd⟩;obtain⟨e,he,hee⟩:=ca.1 hm;have:=h.lt he;have hee':e.1=b:=hee;omega
theorem St.drop (h:St w0 w H) (hs:H'.Sublist H):St w0 w H':=⟨h.kb,λe he=>h.own e (hs.subset he),jJ (hs.map _) h.nd⟩
theorem St.perm (h:St w0 w H) (hp:H.Perm H'):St w0 w H':=⟨h.kb,λe he=>h.own e (hp.mem_iff.2 he),(hp.map _).nodup_iff.1 h.nd⟩
theorem St.mod (h:St w0 w H) (hk:H[k]?=some (b,t,cs)) {cs':List Value} (hs:w.heap.size<=w'.heap.size) (hos:w'.os=w.os) (ht:w'.tape=w.tape) (ho:w'.output=w.output)
  (hoth:∀i,i<w.heap.size->i≠b->w'.heap[i]?=w.heap[i]?) (hc:w'.heap[b]?=some (.cells cs'.toArray t (0,0))):St w0 w' (H.set k (b,t,cs')):=by
 have hbge:=h.ge hk;have hw0:=h.kb.size;have hkl:k<H.length:=(dw.1 hk).1;have hkv:H[k]=(b,t,cs):=(dw.1 hk).2;have hmap:(H.set k (b,t,cs')).map (·.1)=H.map (·.1):=by
  rw[ia];apply jX;intro i;rw[fD];split
  ·rename_i hi;subst hi;simp[hkl,hkv]
  ·rfl
 refine⟨h.kb.trans ⟨hos,ht,ho,hs,λi hi=>hoth i oO oO⟩,λe he=> ?_,by rw[hmap];exact h.nd⟩;obtain⟨i,hi⟩:=List.mem_iff_getElem?.1 he;rw[fD]at hi;split at hi
 ·rename_i hki;subst hki;obtain rfl:=bK hi;exact⟨hbge,hc⟩
 ·rename_i hne;have hm:e∈H:=jg hi;refine⟨(h.own e hm).1,?_⟩;rw[hoth _ (h.lt hm) ?_]
  ·exact(h.own e hm).2
  ·intro heq;have hnd:=h.nd;have hil:i<H.length:=(dw.1 hi).1;have hiv:H[i]=e:=(dw.1 hi).2;have h1:(H.map (·.1))[i]'(by simpa using hil)=(H.map (·.1))[k]'(by simpa using hkl):=by
    simp[hiv,hkv,heq]
   exact hne ((iN hnd).1 h1).symm
theorem St.setRow (h:St w0 w H) (hk:H[k]?=some (b,t,cs)) (cs':List Value):St w0 (w.setRow b cs'.toArray) (H.set k (b,t,cs')):=
 h.mod hk (by simp) rfl rfl rfl (λi _ hne=>setRow_other w b i _ hne) (setRow_heap w b _ _ t _ (h.get hk))
theorem qt (w:World) (o:Obj):Below w.heap.size w (w.alloc o):=(Below.refl _ _).alloc (aB _) o
theorem St.alloc (h:St w0 w H) (cs:List Value) (t:TypeId):St w0 (w.alloc (.cells cs.toArray t)) ((w.heap.size,t,cs)::H):=
 h.push (qt w _) (aB _) (heap_alloc_new w _)
theorem St.sl {α:Type} {enc:α->List Value} {size:Nat} {L:List α} {spare:List Value} {cap:Nat} (h:St w0 w H) (hk:H[k]?=some (b,t,cs)) (hcs:cs=L.flatMap enc++spare) (hu:∀x,(enc x).length=size)
  (h1:L.length<=cap) (h2:cap<=Go.maxLen):Sl enc size w (.slice (some ⟨b,0,none⟩) L.length cap) L:=
 Sl.of_heap hu (by rw[h.get hk,hcs]) h1 h2
end
def sinfo (P:Program) (t:TypeId):Option (TypeId×Nat×Nat×List Value):=
 match P.underlying t with
 |some (.slice e)=>match P.info? e with
  |some i=>match i.zero with
   |some z=>if z.cells.size=i.size then some (e,i.size,i.bytes,z.cells.toList)else none
   |none=>none
  |none=>none
 |_=>none
theorem mU {P:Program} {t e:TypeId} {size bytes:Nat} {z:List Value} (h:sinfo P t=some (e,size,bytes,z)):
  P.underlying t=some (.slice e)/\∃i zv,P.info? e=some i/\i.zero=some zv/\i.size=size/\i.bytes=bytes/\zv.cells=z.toArray/\z.length=size:=by
 unfold sinfo at h;split at h
 ·rename_i e' hu;split at h
  ·rename_i i hi;split at h
   ·rename_i zv hz;split at h
    ·rename_i hs;simp only[gD,Prod.mk.injEq]at h;obtain⟨rfl,rfl,rfl,rfl⟩:=h;exact⟨hu,i,zv,hi,hz,rfl,rfl,by simp,by simpa using hs⟩
    ·cases h
   ·cases h
  ·cases h
 ·cases h
def mf (P:Program) (t:TypeId):Option (Nat×Bool×List Value):=
 match P.info? t,P.underlying t with
 |some i,some d=>match i.zero with
  |some z=>if z.cells.size=i.size then some (i.size,(match d with| .struct _| .array _ _=>true|_=>false),z.cells.toList)else none
  |none=>none
 |_,_=>none
theorem rE {P:Program} {t:TypeId} {n:Nat} {agg:Bool} {z:List Value} (h:mf P t=some (n,agg,z)):
  ∃i d zv,P.info? t=some i/\P.underlying t=some d/\i.zero=some zv/\i.size=n/\(match d with| .struct _| .array _ _=>true|_=>false)=agg/\zv.cells=z.toArray:=by
 unfold mf at h;split at h
 ·rename_i i d hi hu;split at h
  ·rename_i zv hz;split at h
   ·simp only[gD,Prod.mk.injEq]at h;obtain⟨rfl,rfl,rfl⟩:=h;exact⟨i,d,zv,hi,hu,hz,rfl,rfl,by simp⟩
   ·cases h
  ·cases h
 ·cases h
def oB (P:Program) (t:TypeId) (f:Nat):Option Nat:=
 match P.underlying t with
 |some (.struct fs)=>match fs[f]?with
  |some fd=>match P.info? fd.type with
   |some i=>if i.size=0 then none else some fd.offset
   |none=>none
  |none=>none
 |_=>none
theorem Jf {P:Program} {t:TypeId} {f o:Nat} (h:oB P t f=some o):∃fs fd i,P.underlying t=some (.struct fs)/\fs[f]?=some fd/\P.info? fd.type=some i/\¬i.size=0/\fd.offset=o:=by
 unfold oB at h;split at h
 ·rename_i fs hu;split at h
  ·rename_i fd hf;split at h
   ·rename_i i hi;split at h
    ·cases h
    ·rename_i hs;exact⟨fs,fd,i,hu,hf,hi,hs,bK h⟩
   ·cases h
  ·cases h
 ·cases h
def QW:Bool->List Value->Value
 |true,cs=> .agg cs.toArray
 |false,u::_=>u
 |false,[]=>undef
def rep (n:Nat) (z:List Value):List Value:=(List.replicate n z).flatten
theorem xl (n:Nat) (z:List Value):rep (n+1) z=z++rep n z:=by simp[rep,fW]
theorem Cj (n:Nat) (z:List Value):(rep n z).length=n*z.length:=by
 induction n with
 |zero=>simp[rep]
 |succ n ih=>rw[xl,ax,ih,bn];omega
theorem R5 (n:Nat) (z:List Value):∀i,i<n*z.length->(rep n z)[i]?=z[i%z.length]?:=by
 induction n with
 |zero=>intro i hi;simp at hi
 |succ n ih=>
  intro i hi;rw[xl];by_cases h:i<z.length
  ·rw[cK h,aW h]
  ·rw[cH oO,ih _ (by rw[bn]at hi;omega)];congr 1;exact(Nat.mod_eq_sub_mod oO).symm
theorem Hc (z : List Value) (n : Nat) : madeCells z.toArray (n * z.length) = (rep n z).toArray := by
  apply Array.ext'
  apply jX
  intro i
  rcases bH i (n * z.length) with h | h
  · have hz : 0 < z.length := by rcases df z.length with h0 | h0; · rw [h0] at h; simp at h
                                 · exact h0
    have hm : i % z.length < z.length := bl _ hz
    have h2 : (madeCells z.toArray (n * z.length)).toList[i]? = z[i % z.length]? := by simp [madeCells, h, hm]
    have h3 : (rep n z).toArray.toList[i]? = z[i % z.length]? := by rw [← R5 n z i h]
    rw [h2, h3]
  · rw [dj (by simpa [madeCells] using h), dj (by simpa [Cj] using h)]
section
variable {P : Program} {N : Nat} {ρ : Nat → Value} {w0 w w' : World} {Q : Exit → Act → World → Prop} {ops : Array Oper} {rest : List Oper}
  {d : Option Tmp} {ty : TypeId} {pos : String} {aft : Array Edge} {g : Option (Nat × Bool)} {x y z : Operand} {t e : TypeId} {H : List lj} {k b o : Nat} {cs : List Value} {v : Value} {K : Value → Prop} {K2 : Value → World → Prop}
theorem lD {f off:Nat} (hx:ev N ρ x= .pointer (some ⟨b,o,none⟩)) (hf:oB P t f=some off) (h:K (.pointer (some ⟨b,o+off,none⟩))):
  mx P N ρ ⟨d,.fieldAddr t x f,ty,pos,aft,g⟩ K:=by
 obtain⟨fs,fd,i,hu,hfd,hi,hs,rfl⟩:=Jf hf;refine⟨_,λw=> ?_,h⟩;simp[execOp,hx,Instr.fieldAt,cS hu,hfd,Instr.sureAddr,fieldPlace,sizeOf,typeInfo,hi,hs,add_lit]
theorem kM {i n c sz by_:Nat} {zz:List Value} {kk:IntKind} {m:Int} (hx:ev N ρ x= .slice (some ⟨b,o,none⟩) n c) (hy:ev N ρ y= .int kk m) (hm:m=(i:Int)) (hi:i<n)
  (ht:sinfo P t=some (e,sz,by_,zz)) (h:K (.pointer (some ⟨b,o+i*sz,none⟩))):
  mx P N ρ ⟨d,.indexAddr t x y,ty,pos,aft,g⟩ K:=by
 obtain⟨hu,ii,zv,hi1,_,hsz,_⟩:=mU ht;subst hm hsz;refine⟨_,λw=> ?_,h⟩;simp[execOp,hx,hy,Instr.indexAt,asIntOf,cS hu,hi,sizeOf,typeInfo,hi1,add_lit]
theorem ks {α:Type} {enc:α->List Value} {L:List α} {i sz by_:Nat} {zz:List Value} {kk:IntKind} {m:Int} (hx:ev N ρ x=v) (hy:ev N ρ y= .int kk m) (hS:Sl enc sz w v L) (hm:m=(i:Int)) (hi:i<L.length)
  (ht:sinfo P t=some (e,sz,by_,zz)) (h:K (.pointer (some ((t6 v).add (i*sz))))):
  mx P N ρ ⟨d,.indexAddr t x y,ty,pos,aft,g⟩ K:=by
 obtain⟨hu,ii,zv,hi1,_,hsz,_⟩:=mU ht;obtain⟨a,cap,hv,hlc,_,hnone⟩:=hS.form;subst hm hsz;refine⟨_,λw=> ?_,h⟩;cases a with
 |none=>have:=hnone rfl;omega
 |some a=>
  subst hv;simp[execOp,hx,hy,Instr.indexAt,asIntOf,cS hu,hi,sizeOf,typeInfo,hi1,t6]
theorem oG {n c:Nat} {a:Option Addr} (hx:ev N ρ x= .slice a n c) (ht:∃e,P.underlying t=some (.slice e)) (h:K (.int .i64 n)):
  mx P N ρ ⟨d,.call ⟨.builtin .len,#[x],#[t]⟩,ty,pos,aft,g⟩ K:=by
 obtain⟨e,ht⟩:=ht;exact⟨_,λw=>(by simp[execOp,resolve,invoke,builtin,hx,Builtin.len_,cS ht,goInt]),h⟩
theorem ky {α:Type} {enc:α->List Value} {size:Nat} {L:List α} (hx:ev N ρ x=v) (hS:Sl enc size w v L) (ht:∃e,P.underlying t=some (.slice e)) (h:K (.int .i64 L.length)):
  mx P N ρ ⟨d,.call ⟨.builtin .len,#[x],#[t]⟩,ty,pos,aft,g⟩ K:=by
 obtain⟨a,cap,hv,_⟩:=hS.form;exact oG (hx.trans hv) ht h
theorem oW {n:Nat} {agg:Bool} {zz:List Value} {a:Addr} (hx:ev N ρ x= .pointer (some a)) (ht:mf P t=some (n,agg,zz)) (ha:At w a cs) (hn:cs.length=n) (hv:QW agg cs=v) (hagg:agg=true\/n=1)
  (h:K v):rD P N ρ w ⟨d,.load t x,ty,pos,aft,g⟩ K:=by
 obtain⟨i,dd,zv,hi,hu,_,hs,hag,_⟩:=rE ht;subst hv hs;refine⟨_,λw' hb=> ?_,h⟩;have ha':=ha.kb hb;have hisagg:(isAgg t).run P w'= .ok agg w':=by
  unfold isAgg;rw[dI,cS hu w'];subst hag;cases dd<;>simp
 cases agg with
 |true=>
  have hl:=run_loadCells_list (P:=P) w' a cs ha';rw[hn]at hl;simp[execOp,hx,Instr.loadAt,Instr.sureAddr,loadVar,hisagg,sizeOf,typeInfo,hi,hl,QW]
 |false=>
  rcases hagg with h0|h0
  ·cases h0
  ·match cs,hn.trans h0,ha' with
   | [u],_,ha'=>
    have hc:=ha'.head;simp[execOp,hx,Instr.loadAt,Instr.sureAddr,loadVar,hisagg,hc,QW]
theorem kP {n:Nat} {agg:Bool} {zz:List Value} {t':TypeId} (hx:ev N ρ x= .pointer (some ⟨b,o,none⟩)) (ht:mf P t=some (n,agg,zz)) (hS:St w0 w H) (hk:H[k]?=some (b,t',cs))
  (hn:((cs.drop o).take n).length=n) (hv:QW agg ((cs.drop o).take n)=v) (hagg:agg=true\/n=1)
  (h:K v):rD P N ρ w ⟨d,.load t x,ty,pos,aft,g⟩ K:=
 oW hx ht (hS.at hk o n) hn hv hagg h
theorem Kq {zz:List Value} {t':TypeId} (hx:ev N ρ x= .pointer (some ⟨b,o,none⟩)) (ht:mf P t=some (1,false,zz)) (hS:St w0 w H) (hk:H[k]?=some (b,t',cs))
  (hv:cs[o]?=some v) (h:K v):rD P N ρ w ⟨d,.load t x,ty,pos,aft,g⟩ K:=
 oW hx ht (At.one (u:=v) (by rw[cell_of_row w b o _ t' _ (hS.get hk)];simpa using hv)) rfl rfl (.inr rfl) h
theorem kC {α:Type} {enc:α->List Value} {L:List α} {i n:Nat} {agg:Bool} {zz:List Value} {vs:Value} (dd:α) (hx:ev N ρ x= .pointer (some ((t6 vs).add (i*n)))) (ht:mf P t=some (n,agg,zz))
  (hS:Sl enc n w vs L) (hi:i<L.length) (hn:(enc (L.getD i dd)).length=n) (hv:QW agg (enc (L.getD i dd))=v) (hagg:agg=true\/n=1)
  (h:K v):rD P N ρ w ⟨d,.load t x,ty,pos,aft,g⟩ K:=
 oW hx ht (hS.at hi dd) hn hv hagg h
def splice (cs:List Value) (o:Nat) (new:List Value):List Value:=cs.take o++new++cs.drop (o+new.length)
theorem lX {n:Nat} {agg:Bool} {zz:List Value} {t':TypeId} {new:List Value} (hx:ev N ρ x= .pointer (some ⟨b,o,none⟩)) (hy:ev N ρ y=v) (ht:mf P t=some (n,agg,zz)) (hS:St w0 w H) (hk:H[k]?=some (b,t',cs))
  (hv:v.cells.toList=new) (hn:new.length=n) (hfit:o+n<=cs.length) (h1:new.all (·.oneCell')=true)
  (h:∀w',St w0 w' (H.set k (b,t',splice cs o new))->K2 undef w'):pL P N ρ w ⟨d,.store t x y,ty,pos,aft,g⟩ K2:=by
 obtain⟨i,dd,zv,hi,hu,_,hs,_,_⟩:=rE ht;subst hs hv;have hst:=run_storeCells_at P b o t' v.cells.toList 0 cs.toArray w (hS.get hk) (by have:=hn;simp only[fZ]at this;simp only[fZ,List.size_toArray];omega) (λu hu=>(cO.1 h1) u hu);refine Bh (w':=w.setRow b (splice cs o v.cells.toList).toArray) ?_ (h _ (hS.setRow hk _));have hsz:v.cells.size=i.size:=by simpa using hn
 simp only[eh]at hst;simp[execOp,hx,hy,Instr.storeAt,Instr.sureAddr,storeVar,sizeOf,typeInfo,hi,hsz,hst,splice]
theorem I8 (cs:List Value) (o:Nat) (u:Value) (h:o<cs.length):splice cs o [u]=cs.set o u:=by
 unfold splice;rw[jM,aj h];simp
theorem oX {zz:List Value} {t':TypeId} (hx:ev N ρ x= .pointer (some ⟨b,o,none⟩)) (hy:ev N ρ y=v) (ht:mf P t=some (1,false,zz)) (hS:St w0 w H) (hk:H[k]?=some (b,t',cs))
  (hfit:o<cs.length) (h1:v.oneCell'=true)
  (h:∀w',St w0 w' (H.set k (b,t',cs.set o v))->K2 undef w'):pL P N ρ w ⟨d,.store t x y,ty,pos,aft,g⟩ K2:=by
 have hv:v.cells.toList=[v]:=by cases v<;>first|rfl|cases h1
 refine lX hx hy ht hS hk hv rfl oO (by simp[h1]) (λw' hS'=> ?_);rw[I8 cs o v hfit]at hS';exact h w' hS'
theorem mv {n:Nat} {agg:Bool} {zz:List Value} (ht:mf P t=some (n,agg,zz)) (hS:St w0 w H)
  (h:∀b w',St w0 w' ((b,t,zz)::H)->Below w.heap.size w w'->K2 (.pointer (some ⟨b,0,none⟩)) w'):pL P N ρ w ⟨d,.alloc t,ty,pos,aft,g⟩ K2:=by
 obtain⟨i,dd,zv,hi,hu,hz,hs,_,hc⟩:=rE ht;refine ow ?_ (h w.heap.size _ (hS.alloc zz t) (qt w _));simp[execOp,Instr.alloc,zeroValue,typeInfo,hi,hz,newVar,newRow,hc]
theorem lx {new:List Value} (hx:ev N ρ x=v) (hv:v.cells.toList=new) (hS:St w0 w H)
  (h:∀b w',St w0 w' ((b,t,new)::H)->Below w.heap.size w w'->K2 (.pointer (some ⟨b,0,none⟩)) w'):pL P N ρ w ⟨d,.box t x,ty,pos,aft,g⟩ K2:=by
 subst hv;refine ow ?_ (h w.heap.size _ (hS.alloc v.cells.toList t) (qt w _));simp[execOp,hx,Instr.box,newVar,newRow]
theorem Ao {sz by_ n:Nat} {zz:List Value} {kl kc:IntKind} {ml mc:Int} (hx:ev N ρ x= .int kl ml) (hy:ev N ρ y= .int kc mc) (ht:sinfo P t=some (e,sz,by_,zz)) (hml:ml=(n:Int)) (hmc:mc=(n:Int))
  (h1:by_*n<=281474976710656) (h2:n<=9223372036854775807) (hS:St w0 w H)
  (h:∀b w',St w0 w' ((b,e,rep n zz)::H)->Below w.heap.size w w'->K2 (.slice (some ⟨b,0,none⟩) n n) w'):
  pL P N ρ w ⟨d,.makeSlice t x y,ty,pos,aft,g⟩ K2:=by
 obtain⟨hu,ii,zv,hi1,hz,hsz,hby,hc,hzl⟩:=mU ht;subst hml hmc;have hr:=run_make (P:=P) w t e ii zv hu hi1 hz kl kc (n:Int) (n:Int) oO (Int.le_refl _) (by rw[hby,<-gZ];omega) oO;simp only[iC]at hr;rw[hc,hsz,<-hzl,Hc]at hr;refine ow ?_ (h w.heap.size _ (hS.alloc (rep n zz) e) (qt w _));simp[execOp,hx,hy,hr]
theorem Rt {sz by_ n:Nat} {zz:List Value} {kl kc:IntKind} {ml mc:Int} (hx:ev N ρ x= .int kl ml) (hy:ev N ρ y= .int kc mc) (ht:sinfo P t=some (e,sz,by_,zz)) (hml:ml=0) (hmc:mc=(n:Int))
  (h1:by_*n<=281474976710656) (h2:n<=9223372036854775807) (hS:St w0 w H)
  (h:∀b w',St w0 w' ((b,e,rep n zz)::H)->Below w.heap.size w w'->K2 (.slice (some ⟨b,0,none⟩) 0 n) w'):
  pL P N ρ w ⟨d,.makeSlice t x y,ty,pos,aft,g⟩ K2:=by
 obtain⟨hu,ii,zv,hi1,hz,hsz,hby,hc,hzl⟩:=mU ht;subst hml hmc;have hr:=run_make (P:=P) w t e ii zv hu hi1 hz kl kc 0 (n:Int) (Int.le_refl _) oO (by rw[hby,<-gZ];omega) oO;simp only[iC,Int.toNat_zero]at hr;rw[hc,hsz,<-hzl,Hc]at hr;refine ow ?_ (h w.heap.size _ (hS.alloc (rep n zz) e) (qt w _));simp[execOp,hx,hy,hr]
theorem lr {parts:List (Nat×Operand)} {pv:List (Nat×Value)} {cells:List Value} (hp:(parts.map λp=>(p.1,ev N ρ p.2))=pv) (hb:P.built t pv=some cells.toArray)
  (h:K (.agg cells.toArray)):mx P N ρ ⟨d,.build t parts.toArray,ty,pos,aft,g⟩ K:=by
 subst hp;refine⟨_,λw=> ?_,h⟩;have hr:=run_build (P:=P) w t (parts.toArray.map λ(i,x)=>(i,ev N ρ x)) cells.toArray (by simpa using hb);simp only[execOp,dI,hr,dk];rfl
theorem np {len sz by_:Nat} {zz:List Value} {parts:List (Nat×Operand)} {vs:List Value} {cells:List Value} (hp:(parts.map λp=>(p.1,ev N ρ p.2))=(vs.zipIdx 0).map λx=>(x.2,x.1))
  (ht:sinfo P t=some (e,sz,by_,zz)) (hlen:vs.length=len) (h0:0<len) (hsz0:0<sz) (hsm:len*sz<=16777216) (hvs:∀v∈vs,v.cells.size=sz) (hc:(vs.flatMap λv=>v.cells.toList)=cells) (hS:St w0 w H)
  (h:∀b w',St w0 w' ((b,e,cells)::H)->Below w.heap.size w w'->K2 (.slice (some ⟨b,0,none⟩) len len) w'):
  pL P N ρ w ⟨d,.buildSlice t len parts.toArray,ty,pos,aft,g⟩ K2:=by
 obtain⟨hu,ii,zv,hi1,hz,hsz,hby,hcz,hzl⟩:=mU ht;subst hc hsz;have hpos:0<len*ii.size:=dH h0 hsz0;have hr:=run_buildSlice (P:=P) w t e len (parts.toArray.map λ(i,x)=>(i,ev N ρ x)) (vs.flatMap λv=>v.cells.toList).toArray ii zv hu hi1 hz oO oO
  (by(have h1:(parts.toArray.map λ(i,x)=>(i,ev N ρ x)).toList=(vs.zipIdx 0).map λx=>(x.2,x.1):=by simpa using hp);rw[h1];exact Go.Great.fill_whole hsz0 vs _ hvs (by simp[hlen]))
 refine ow ?_ (h w.heap.size _ (hS.alloc _ e) (qt w _));simp only[execOp,dI,hr,dk];rfl
def Gs (e:TypeId) (size:Nat) (v:Value) (n:Nat) (X:List Value) (L:List lj):Prop:=
 X.length=n*size/\((v= .slice none 0 0/\n=0/\L=[])\/∃b cap spare,v= .slice (some ⟨b,0,none⟩) n cap/\L=[(b,e,X++spare)]/\n<=cap/\cap<=Go.maxLen/\(X++spare).length=cap*size)
theorem Gs.nil (e:TypeId) (size:Nat):Gs e size (.slice none 0 0) 0 [] []:=⟨by simp,.inl ⟨rfl,rfl,rfl⟩⟩
theorem Gs.own {e:TypeId} {size n:Nat} {v:Value} {X:List Value} {L:List lj} (hG:Gs e size v n X L) (hS:St w0 w (L++H)):w.ownsRow w0.heap.size e size v n X/\∀b,v.ownBlock=some b->∀e'∈H,e'.1≠b:=by
 obtain⟨hX,⟨rfl,rfl,rfl⟩|⟨b,cap,spare,rfl,rfl,h1,h2,h3⟩⟩:=hG
 ·have:X=[]:=cB (by simpa using hX);subst this;exact⟨World.ownsRow_nil _ _ _ _,λb hb=>by cases hb⟩
 ·refine⟨⟨hX,.inr ⟨b,cap,(X++spare).toArray,rfl,(hS.own (b,e,X++spare) (by simp)).1,(hS.own (b,e,X++spare) (by simp)).2,h1,h2,by simpa using h3,by simp[<-hX]⟩⟩,λb' hb' e' he' heq=> ?_⟩;have hnd:=hS.nd;simp only[bY,ce,cJ,gY]at hnd;simp only[Value.ownBlock,gD]at hb';subst hb';exact hnd.1 (ca.2 ⟨e',he',heq⟩)
theorem Tg {size bytes n m c:Nat} {zz:List Value} {X news:List Value} {L:List lj} {xv:Value} {ad:Addr} (hx:ev N ρ x=v) (hy:ev N ρ y=xv) (ht:sinfo P t=some (e,size,bytes,zz)) (hsz:0<size)
  (hG:Gs e size v n X L) (hS:St w0 w (L++H)) (hxv:xv= .slice (some ad) m c) (hl:news.length=m*size) (hnews:At w ad news) (h1:∀u∈news,u.oneCell'=true)
  (h63:n+m<=9223372036854775807) (hb:(n+m)*bytes<=140737488355328)
  (h:∀v' L' w',Gs e size v' (n+m) (X++news) L'->St w0 w' (L'++H)->(∀i,i<w.heap.size->v.ownBlock≠some i->w'.heap[i]?=w.heap[i]?)->w.heap.size<=w'.heap.size->
   K2 v' w'):
  pL P N ρ w ⟨d,.call ⟨.builtin .append,#[x,y],#[t,t]⟩,ty,pos,aft,g⟩ K2:=by
 obtain⟨hu,ii,zv,hi1,hz,hsize,hby,hcz,hzl⟩:=mU ht;obtain⟨hown,hdis⟩:=hG.own hS;obtain⟨v',w1,hr,hown',hgrow,_,hlies⟩:=run_append_own_at (P:=P) w w0.heap.size t ty e ii zv size bytes hu hi1 hz hsize hby (by rw[hcz];simpa using hzl) hsz v n X hown ad m c news hl hnews h1 (by unfold Go.maxLen;omega) hb hS.kb.size;subst hxv;have hback:∃L',Gs e size v' (n+m) (X++news) L'/\St w0 w1 (L'++H):=by
  have hfar:∀e'∈H,w1.heap[e'.1]?=w.heap[e'.1]?:=λe' he'=>hgrow.block _ (hS.lt (by simp[he'])) (λheq=>hdis e'.1 (by rw[<-heq]) e' he' rfl);have hbel:Below w0.heap.size w0 w1:=hS.kb.grown hgrow hS.kb.size (λk hk=>(hown.lt k hk).1);have hndH:(H.map (·.1)).Nodup:=by
   have:=hS.nd;rw[bS]at this;exact(cW.1 this).2.1
  obtain⟨hXl,⟨rfl,h0⟩|⟨gb,cap,cur,rfl,hgb,hh,hnc,hcm,hcs,htake⟩⟩:=hown'
  ·refine⟨[],⟨hXl,.inl ⟨rfl,h0,rfl⟩⟩,⟨hbel,λe' he'=>⟨(hS.own e' (by simp at he';simp[he'])).1,?_⟩,by simpa using hndH⟩⟩;simp only[ce]at he';rw[hfar e' he'];exact(hS.own e' (by simp[he'])).2
  ·have hsplit:cur.toList=(X++news)++cur.toList.drop ((n+m)*size):=by
    rw[<-htake,dc]
   have hcell:w1.heap[gb]?=some (.cells ((X++news)++cur.toList.drop ((n+m)*size)).toArray e (0,0)):=by
    rw[<-hsplit,hh,Array.toArray_toList]
   refine⟨[(gb,e,(X++news)++cur.toList.drop ((n+m)*size))],⟨hXl,.inr ⟨gb,cap,_,rfl,rfl,hnc,hcm,by rw[<-hsplit];simpa using hcs⟩⟩,⟨hbel,λe' he'=> ?_,?_⟩⟩
   ·simp only[bY,ce,bM]at he';rcases he' with rfl|he'
    ·exact⟨hgb,hcell⟩
    ·refine⟨(hS.own e' (by simp[he'])).1,?_⟩;rw[hfar e' he'];exact(hS.own e' (by simp[he'])).2
   ·simp only[bY,ce,cJ,gY];refine⟨λhm=> ?_,hndH⟩;obtain⟨e',he',hee⟩:=ca.1 hm;rcases hlies with hob|hob
    ·exact hdis gb hob.symm e' he' hee
    ·have:=hS.lt (e:=e') (by simp[he']);have hgs:gb=w.heap.size:=by simpa[Value.ownBlock]using hob
     have hee':e'.1=gb:=hee;omega
 obtain⟨L',hG',hS'⟩:=hback;refine ow ?_ (h v' L' w1 hG' hS' (λi hi hne=>hgrow.block i hi (λheq=>hne heq.symm)) hgrow.size);simp[execOp,resolve,invoke,builtin,hx,hy,hr]
end
theorem tV (n:Int):IntKind.u32.wrap n=n%4294967296:=IntKind.wrap_u32 n
theorem xG (n:Int):IntKind.u64.wrap n=n%18446744073709551616:=by simp[IntKind.wrap,IntKind.bits,IntKind.signed]
theorem PK (n:Int):IntKind.u8.wrap n=n%256:=IntKind.wrap_u8 n
theorem MY (n:Int):IntKind.u16.wrap n=n%65536:=by simp[IntKind.wrap,IntKind.bits,IntKind.signed]
theorem SW {k:IntKind} (m:Int) (c:Nat) (hc:c<=k.bits):m.fdiv (2^(min ((c:Int)).toNat k.bits))=m/2^c:=by
 rw[iC,gX hc];exact Int.fdiv_eq_ediv_of_nonneg _ (Int.le_of_lt (Int.pow_pos dD))
theorem rS {k:IntKind} (hk:k.signed=false) (m n:Nat) (hm:m<2^k.bits) (hn:n<2^k.bits):qg .or k m n=((m|||n:Nat):Int):=by
 have hlt:m|||n<2^k.bits:=Nat.or_lt_two_pow hm hn;have h:((m|||n:Nat):Int)%2^k.bits=((m|||n:Nat):Int):=jZ oO (by exact_mod_cast hlt);simp only[qg,fT,BitVec.toNat_or,gn,aW hm,aW hn,IntKind.wrap,hk,jy,h];simp
theorem Gn {k:IntKind} (hk:k.signed=false) (m n:Nat) (hm:m<2^k.bits) (hn:n<2^k.bits):qg .and k m n=((m&&&n:Nat):Int):=by
 have hlt:m&&&n<2^k.bits:=bZ Nat.and_le_left hm;have h:((m&&&n:Nat):Int)%2^k.bits=((m&&&n:Nat):Int):=jZ oO (by exact_mod_cast hlt);simp only[qg,fT,BitVec.toNat_and,gn,aW hm,aW hn,IntKind.wrap,hk,jy,h];simp
def Kr (k:IntKind) (L:List Nat):List Value:=L.map λx:Nat=>Value.int k (x:Int)
def uk (k:IntKind) (x:Nat):List Value:=[Value.int k (x:Int)]
theorem Ki (k:IntKind) (L:List Nat):Kr k L=L.flatMap (uk k):=by
 induction L with
 |nil=>rfl
 |cons x L ih=>rw[cj,<-ih];rfl
theorem QA (k:IntKind) (L:List Nat):(Kr k L).length=L.length:=by simp[Kr]
theorem Ue (k:IntKind) (L:List Nat) {i:Nat} (h:i<L.length):(Kr k L)[i]?=some (.int k (L.getD i 0:Nat)):=by simp[Kr,List.getD,h]
theorem Uf (k:IntKind) (L:List Nat) (i x:Nat):(Kr k L).set i (.int k (x:Int))=Kr k (L.set i x):=by simp[Kr,ia]
theorem Ul (k:IntKind) (n:Nat):rep n [.int k 0]=Kr k (List.replicate n 0):=by
 induction n with
 |zero=>rfl
 |succ n ih=>rw[xl,ih];rfl
theorem M8 (k:IntKind) (L M:List Nat):Kr k L++Kr k M=Kr k (L++M):=by simp[Kr]
def z7 (v:Value) (size lo hi:Nat):Value:=
 match v with
 | .slice a _ c=> .slice (if c=lo then a else a.map (·.add (lo*size))) (hi-lo) (c-lo)
 |v=>v
theorem MB {w:World} {α:Type} {enc:α->List Value} {size:Nat} {v:Value} {L:List α} (h:Sl enc size w v L) {lo hi:Nat} (hlt:lo<L.length):t6 (z7 v size lo hi)=(t6 v).add (lo*size):=by
 obtain⟨a,cap,rfl,h1,_,hn⟩:=h.form;cases a with
 |none=>have:=hn rfl;omega
 |some a=>simp[z7,t6,show¬cap=lo by omega]
theorem zp (a:Addr) (m n:Nat) (h:a.spot=none):(a.add m).add n=a.add (m+n):=by
 obtain⟨b,o,s⟩:=a;subst h;rw[add_lit,add_lit,add_lit,dR]
theorem Sl.spot {w:World} {α:Type} {enc:α->List Value} {size:Nat} {v:Value} {L:List α} (h:Sl enc size w v L) (hu:∀x,(enc x).length=size) (hs:0<size) (hl:0<L.length):(t6 v).spot=none:=by
 have h0:=h.elt 0 hl;rw[fA,add_zero]at h0;have hpos:0<(enc L[0]).length:=by rw[hu];exact hs
 have:=h0 0 _ (aF hpos);rw[add_zero]at this;exact World.cell?_spot this
theorem Sl.sub {w:World} {α:Type} {enc:α->List Value} {size:Nat} {v:Value} {L:List α} (h:Sl enc size w v L) (hu:∀x,(enc x).length=size) (hs:0<size) {lo hi:Nat} (h1:lo<=hi) (h2:hi<=L.length):
  Sl enc size w (z7 v size lo hi) ((L.drop lo).take (hi-lo)):=by
 have hlen:((L.drop lo).take (hi-lo)).length=hi-lo:=by simp;omega
 refine⟨?_,λi hi' j u hj=> ?_⟩
 ·obtain⟨a,cap,rfl,g1,g2,g3⟩:=h.form;refine⟨_,_,by rw[hlen];rfl,by rw[hlen];omega,oO,λhn=> ?_⟩;split at hn
  ·omega
  ·cases a with
   |none=>have:=g3 rfl;omega
   |some a=>simp at hn
 ·rw[hlen]at hi';have hlt:lo<L.length:=oO;rw[MB h hlt,zp _ _ _ (h.spot hu hs oO),<-bn];refine h.elt (lo+i) oO j u ?_;rw[<-hj];simp
section
variable {w0 w : World} {H : List lj} {b k : Nat} {t : TypeId} {kk : IntKind} {L : List Nat}
theorem Au (k:IntKind):∀x,(uk k x).length=1:=λ_=>rfl
theorem St.IH (h:St w0 w H) (hk:H[k]?=some (b,t,Kr kk L)) {n cap:Nat} (hn:n<=L.length) (h1:n<=cap) (h2:cap<=9223372036854775807):Sl (uk kk) 1 w (.slice (some ⟨b,0,none⟩) n cap) (L.take n):=by
 have hl:(L.take n).length=n:=by simp;omega
 have:=h.sl (enc:=uk kk) (size:=1) (L:=L.take n) (spare:=Kr kk (L.drop n)) (cap:=cap) hk (by rw[<-Ki,M8,dc]) (Au kk) (by rw[hl];exact h1) (by unfold Go.maxLen;omega);rwa[hl]at this
end
section
variable {P : Program} {N : Nat} {ρ : Nat → Value} {w0 w w' : World} {Q : Exit → Act → World → Prop} {ops : Array Oper} {rest : List Oper}
  {d : Option Tmp} {ty : TypeId} {pos : String} {aft : Array Edge} {g : Option (Nat × Bool)} {x y z : Operand} {t e : TypeId} {H : List lj} {k b o : Nat} {cs : List Value} {v : Value} {K : Value → Prop} {K2 : Value → World → Prop} {kk : IntKind} {L : List Nat}
theorem oe {i:Nat} {zz:List Value} {t':TypeId} (hx:ev N ρ x= .pointer (some ⟨b,o,none⟩)) (ht:mf P t=some (1,false,zz)) (hS:St w0 w H) (hk:H[k]?=some (b,t',Kr kk L)) (ho:o=i) (hi:i<L.length)
  (h:K (.int kk (L.getD i 0:Nat))):rD P N ρ w ⟨d,.load t x,ty,pos,aft,g⟩ K:=by
 subst ho;exact Kq hx ht hS hk (Ue kk L hi) h
theorem pO {i a:Nat} {m:Int} {zz:List Value} {t':TypeId} (hx:ev N ρ x= .pointer (some ⟨b,o,none⟩)) (hy:ev N ρ y= .int kk m) (hm:m=(a:Int)) (ht:mf P t=some (1,false,zz)) (hS:St w0 w H) (hk:H[k]?=some (b,t',Kr kk L)) (ho:o=i) (hi:i<L.length)
  (h:∀w',St w0 w' (H.set k (b,t',Kr kk (L.set i a)))->K2 undef w'):pL P N ρ w ⟨d,.store t x y,ty,pos,aft,g⟩ K2:=by
 subst ho hm;refine oX hx hy ht hS hk (by rw[QA];exact hi) rfl (λw' hS'=> ?_);rw[Uf]at hS';exact h w' hS'
theorem qj {by_ n:Nat} {kl kc:IntKind} {ml mc:Int} (hx:ev N ρ x= .int kl ml) (hy:ev N ρ y= .int kc mc) (ht:sinfo P t=some (e,1,by_,[.int kk 0])) (hml:ml=(n:Int)) (hmc:mc=(n:Int))
  (h1:by_*n<=281474976710656) (h2:n<=9223372036854775807) (hS:St w0 w H)
  (h:∀b w',St w0 w' ((b,e,Kr kk (List.replicate n 0))::H)->Below w.heap.size w w'->K2 (.slice (some ⟨b,0,none⟩) n n) w'):
  pL P N ρ w ⟨d,.makeSlice t x y,ty,pos,aft,g⟩ K2:=by
 refine Ao hx hy ht hml hmc h1 h2 hS (λb w' hS' hB=> ?_);rw[Ul]at hS';exact h b w' hS' hB
theorem xY {α:Type} {enc:α->List Value} {size by_:Nat} {zz:List Value} {L:List α} {hi:Nat} {kh:IntKind} {mh:Int} (hx:ev N ρ x=v) (hh:ev N ρ z= .int kh mh) (hS:Sl enc size w v L)
  (hmh:mh=(hi:Int)) (h2:hi<=L.length) (ht:sinfo P t=some (e,size,by_,zz)) (h:K (z7 v size 0 hi)):mx P N ρ ⟨d,.slice t x none (some z) none,ty,pos,aft,g⟩ K:=by
 obtain⟨hu,ii,zv,hi1,_,hsz,_⟩:=mU ht;obtain⟨a,cap,rfl,g1,_⟩:=hS.form;subst hmh hsz;refine⟨_,λw=> ?_,h⟩;have a2:hi<=cap:=oO;simp[execOp,hx,hh,Instr.sliceAt,Instr.slice,Instr.sliceBounds,Instr.sliceBound,asIntOf,cS hu,sizeOf,typeInfo,hi1,a2,z7]
theorem So {α:Type} {enc:α->List Value} {size by_:Nat} {zz:List Value} {L:List α} {lo:Nat} {kl:IntKind} {ml:Int} (hx:ev N ρ x=v) (hl:ev N ρ y= .int kl ml) (hS:Sl enc size w v L)
  (hml:ml=(lo:Int)) (h1:lo<=L.length) (ht:sinfo P t=some (e,size,by_,zz)) (h:K (z7 v size lo L.length)):mx P N ρ ⟨d,.slice t x (some y) none none,ty,pos,aft,g⟩ K:=by
 obtain⟨hu,ii,zv,hi1,_,hsz,_⟩:=mU ht;obtain⟨a,cap,rfl,g1,_⟩:=hS.form;subst hml hsz;refine⟨_,λw=> ?_,h⟩;simp[execOp,hx,hl,Instr.sliceAt,Instr.slice,Instr.sliceBounds,Instr.sliceBound,asIntOf,cS hu,sizeOf,typeInfo,hi1,h1,z7]
theorem FX {size by_ n cap:Nat} {zz:List Value} {hi:Nat} {kh:IntKind} {mh:Int} (hx:ev N ρ x= .slice (some ⟨b,o,none⟩) n cap) (hh:ev N ρ z= .int kh mh)
  (hmh:mh=(hi:Int)) (h2:hi<=cap) (ht:sinfo P t=some (e,size,by_,zz)) (h:K (.slice (some ⟨b,o,none⟩) hi cap)):mx P N ρ ⟨d,.slice t x none (some z) none,ty,pos,aft,g⟩ K:=by
 obtain⟨hu,ii,zv,hi1,_,hsz,_⟩:=mU ht;subst hmh hsz;refine⟨_,λw=> ?_,h⟩;have:(if cap=0 then some (⟨b,o,none⟩:Addr)else some ((⟨b,o,none⟩:Addr).add 0))=some ⟨b,o,none⟩:=by rw[add_zero];split<;>rfl
 simp[execOp,hx,hh,Instr.sliceAt,Instr.slice,Instr.sliceBounds,Instr.sliceBound,asIntOf,cS hu,sizeOf,typeInfo,hi1,h2,add_zero]
theorem TV {size by_ n cap:Nat} {zz:List Value} {lo hi:Nat} {kl kh:IntKind} {ml mh:Int} (hx:ev N ρ x= .slice (some ⟨b,o,none⟩) n cap) (hl:ev N ρ y= .int kl ml) (hh:ev N ρ z= .int kh mh)
  (hml:ml=(lo:Int)) (hmh:mh=(hi:Int)) (h1:lo<=hi) (h2:hi<=cap) (h3:lo<cap) (ht:sinfo P t=some (e,size,by_,zz)) (h:K (.slice (some ⟨b,o+lo*size,none⟩) (hi-lo) (cap-lo))):
  mx P N ρ ⟨d,.slice t x (some y) (some z) none,ty,pos,aft,g⟩ K:=by
 obtain⟨hu,ii,zv,hi1,_,hsz,_⟩:=mU ht;subst hml hmh hsz;refine⟨_,λw=> ?_,h⟩;simp[execOp,hx,hl,hh,Instr.sliceAt,Instr.slice,Instr.sliceBounds,Instr.sliceBound,asIntOf,cS hu,sizeOf,typeInfo,hi1,h1,h2,show¬cap=lo by omega,add_lit]
def zC (L:List Nat):ByteArray:=⟨(L.map UInt8.ofNat).toArray⟩
theorem foldl_push (L:List Nat):∀s:ByteArray,(L.map λx:Nat=>(x:Int)).foldl (λr n=>r.push (UInt8.ofNat n.toNat)) s=⟨s.data++(L.map UInt8.ofNat).toArray⟩:=by
 induction L with
 |nil=>intro s;cases s;simp
 |cons a L ih=>
  intro s;simp only[cJ,List.foldl_cons];rw[ih];cases s
  simp[ByteArray.push]
theorem SZ {el:TypeId} {cap n:Nat} {a:Addr} {L:List Nat} (hx:ev N ρ x= .slice (some a) n cap) (ht:P.underlying t=some (.slice el)/\P.underlying el=some (.int .u8)/\P.underlying e=some .string) (hn:L.length=n) (ha:At w a (Kr .u8 L))
  (h:K (.string (zC L))):rD P N ρ w ⟨d,.convert t e x,ty,pos,aft,g⟩ K:=by
 refine⟨_,λw' hb=> ?_,h⟩;have ha':=ha.kb hb;have hl:=run_loadCells_list (P:=P) w' a (Kr .u8 L) ha';rw[QA,hn]at hl;have hl2:(loadCells a n).run P w'= .ok ((L.map λx:Nat=>(x:Int)).map (Value.int .u8)).toArray w':=by rw[hl];simp[Kr]
 have:=run_bytesToString (P:=P) w' a n cap (L.map λx:Nat=>(x:Int)) hl2;rw[foldl_push]at this;simp[execOp,hx,run_convert_bytes_string w' t e el (some a) n cap ht.1 ht.2.1 ht.2.2,this,zC]
end
inductive Md where
 |pure|read|kx|free
 deriving DecidableEq
section
variable {P : Program} {ops : Array Oper}
def rT (ops:Array Oper):Nat->Nat->Nat->Bool
 |0,_,_=>false
 |n+1,i,h=>match ops[i]?with
  |some o=>o.after.any λe=>Region.binds .any e&&(Nat.beq e.on h||rT ops n e.on h)
  |none=>false
def closed (ops:Array Oper) (listed:Array Bool):Prop:=∀i o,ops[i]?=some o->listed.getD i true=true->∀e∈o.after,Region.binds .any e=true->listed.getD e.on false=true
theorem A8 {listed:Array Bool} (hc:closed ops listed):∀n i h,(∀o,ops[i]?=some o->∀e∈o.after,Region.binds .any e=true->listed.getD e.on false=true)->rT ops n i h=true->listed.getD h false=true:=by
 intro n;induction n with
 |zero=>intro i h _ ht;cases ht
 |succ n ih=>
  intro i h hall ht;unfold rT at ht;cases ho:ops[i]?with
  |none=>rw[ho]at ht;cases ht
  |some o=>
   rw[ho]at ht;simp only[iq,bf,dp]at ht;obtain⟨e,he,hb,h1|h1⟩:=ht
   ·have:=hall o ho e he hb;rwa[cF h1]at this
   ·have hl:=hall o ho e he hb;refine ih e.on h (λo' ho' e' he' hb'=>hc e.on o' ho' ?_ e' he' hb') h1;have hlt:e.on<listed.size:=by
     rcases bH e.on listed.size with h2|h2
     ·exact h2
     ·simp[Array.getD,gm.2 h2]at hl
    simp only[Array.getD,hlt,gq]at hl⊢;exact hl
def mF (P:Program) (ops:Array Oper) (m:Md) (o:Oper) (a:Act) (w:World) (K:Act->World->Prop):Prop:=
 if Region.wanted o (yielded ops a.tmps)then
  match m with
  | .pure=>∃v,(∀w',(execOp a.eval o).run P w'= .ok (.value v) w')/\K (a.put o.dst v) w
  | .read=>∃v,(∀w',Below w.heap.size w w'->(execOp a.eval o).run P w'= .ok (.value v) w')/\K (a.put o.dst v) w
  | .kx=>Ij P (λv w'=>Below w.heap.size w w'/\K (a.put o.dst v) w') ((execOp a.eval o).run P w)
  | .free=>Ij P (λv w'=>K (a.put o.dst v) w') ((execOp a.eval o).run P w)
 else K (a.put o.dst undef) w
def wr (P:Program) (ops:Array Oper) (Kend:Act->World->Prop):List (Nat×Md)->Act->World->Prop
 | [],a,w=>Kend a w
 |(i,m)::σ,a,w=>match ops[i]?with
  |some o=>mF P ops m o a w (wr P ops Kend σ)
  |none=>False
theorem nb {m:Md} {o:Oper} {a:Act} {w:World} {K K':Act->World->Prop} (hk:∀a w,K a w->K' a w) (h:mF P ops m o a w K):mF P ops m o a w K':=by
 unfold mF at*;split
 ·rename_i hw;simp only[hw,g9]at h;cases m with
  |pure=>obtain⟨v,h1,h2⟩:=h;exact⟨v,h1,hk _ _ h2⟩
  |read=>obtain⟨v,h1,h2⟩:=h;exact⟨v,h1,hk _ _ h2⟩
  |kx=>exact oU (λv w h=>⟨h.1,hk _ _ h.2⟩) h
  |free=>exact oU (λv w h=>hk _ _ h) h
 ·rename_i hw;simp only[hw]at h;exact hk _ _ h
theorem sN {Q:Exit->Act->World->Prop} {i:Nat} {m:Md} {o:Oper} {a:Act} {w:World} {K:Act->World->Prop} (hi:ops[i]?=some o) (h:mF P ops m o a w K):wpOp P ops Q i K a w:=by
 unfold mF at h;unfold wpOp;simp only[hi];split
 ·rename_i hw;simp only[hw,g9]at h;refine .inl ?_;unfold Oper.wp;have hv:∀ {K':Value->World->Prop},(∀v w',K' v w'->K (a.put o.dst v) w')->Ij P K' ((execOp a.eval o).run P w)->o.upon P a K Q ((execOp a.eval o).run P w):=by
   intro K' hk' hh;generalize (execOp a.eval o).run P w=r at hh;cases r with
   |halt x w'=>exact hh.elim
   |ok n w'=>
    cases n with
    |value v=>rw[i9];exact hk' _ _ hh
    |skip=>rw[Oper.upon_skip];exact hk' _ _ hh
    |enter f args=>
     rw[Oper.upon_enter];refine Calls.mono hh ?_;rintro e w1 ⟨v,rfl,hR⟩;exact hk' _ _ hR
    |_=>exact hh.elim
  cases m with
  |pure=>obtain⟨v,h1,h2⟩:=h;rw[h1 w,i9];exact h2
  |read=>obtain⟨v,h1,h2⟩:=h;rw[h1 w (Below.refl _ _),i9];exact h2
  |kx=>exact hv (λv w' hh=>hh.2) h
  |free=>exact hv (λv w' hh=>hh) h
 ·rename_i hw;simp only[hw]at h;exact h
theorem qy {m:Md} {o:Oper} {a:Act} {w:World} {K:Act->World->Prop} (hw:¬Region.wanted o (yielded ops a.tmps)=true):mF P ops m o a w K=K (a.put o.dst undef) w:=by unfold mF;rw[ah hw]
theorem ob {o:Oper} {a:Act} {w:World} {K:Act->World->Prop} (hw:Region.wanted o (yielded ops a.tmps)=true):
 mF P ops .pure o a w K=∃v,(∀w',(execOp a.eval o).run P w'= .ok (.value v) w')/\K (a.put o.dst v) w:=by unfold mF;rw[aj hw]
theorem sx {o:Oper} {a:Act} {w:World} {K:Act->World->Prop} (hw:Region.wanted o (yielded ops a.tmps)=true):
 mF P ops .read o a w K=∃v,(∀w',Below w.heap.size w w'->(execOp a.eval o).run P w'= .ok (.value v) w')/\K (a.put o.dst v) w:=by unfold mF;rw[aj hw]
theorem rz {o:Oper} {a:Act} {w:World} {K:Act->World->Prop} (hw:Region.wanted o (yielded ops a.tmps)=true):
 mF P ops .kx o a w K=Ij P (λv w'=>Below w.heap.size w w'/\K (a.put o.dst v) w') ((execOp a.eval o).run P w):=by unfold mF;rw[aj hw]
theorem sJ {o:Oper} {a:Act} {w:World} {K:Act->World->Prop} (hw:Region.wanted o (yielded ops a.tmps)=true):
 mF P ops .free o a w K=Ij P (λv w'=>K (a.put o.dst v) w') ((execOp a.eval o).run P w):=by unfold mF;rw[aj hw]
def oc (ops:Array Oper) (i:Nat×Md) (j:Nat×Md):Bool:=
 match ops[i.1]?,ops[j.1]?with
 |some oi,some oj=>Oper.apart ops oi oj&&(match i.2,j.2 with
  | .pure,_=>true
  |_,.pure=>true
  | .read,.read=>true
  | .read,.kx=>true
  |_,_=>false)
 |_,_=>false
def pf (ops:Array Oper) (n:Nat):List (Nat×Md)->Bool
 | []=>true
 |i::σ=>(σ.all λj=> !Nat.beq i.1 j.1&&(rT ops n j.1 i.1||oc ops i j))&&pf ops n σ
theorem uJ {n:Nat} {x:Nat×Md}:∀ {σ τ:List (Nat×Md)},pf ops n (σ++x::τ)=true->pf ops n (σ++τ)=true
 | [],τ,h=>by simp only[ce,pf,bf]at h⊢;exact h.2
 |y::σ,τ,h=>by
  simp only[bY,pf,bf,fP,f9]at h⊢;exact⟨⟨h.1.1,h.1.2.2⟩,uJ h.2⟩
theorem zV {K:Value->World->Prop} {r:Result Next} (h:Ij P K r):∃v w,K v w:=by
 cases r with
 |halt x w'=>exact h.elim
 |ok n w'=>
  cases n with
  |value v=>exact⟨v,w',h⟩
  |skip=>exact⟨undef,w',h⟩
  |enter f args=>
   obtain⟨e,w1,fr,⟨v,_,hK⟩,_⟩:=h [];exact⟨v,w1,hK⟩
  |_=>exact h.elim
theorem wU {m:Md} {o:Oper} {a:Act} {w:World} {K K':Act->World->Prop} (hk:∀v w',(m≠ .free->Below w.heap.size w w')->K (a.put o.dst v) w'->K' (a.put o.dst v) w') (h:mF P ops m o a w K):mF P ops m o a w K':=by
 unfold mF at*;split
 ·rename_i hw;rw[aj hw]at h;cases m with
  |pure=>obtain⟨v,h1,h2⟩:=h;exact⟨v,h1,hk _ _ (λ_=>Below.refl _ _) h2⟩
  |read=>obtain⟨v,h1,h2⟩:=h;exact⟨v,h1,hk _ _ (λ_=>Below.refl _ _) h2⟩
  |kx=>exact oU (λv w h=>⟨h.1,hk _ _ (λ_=>h.1) h.2⟩) h
  |free=>exact oU (λv w h=>hk _ _ (λh=>absurd rfl h) h) h
 ·rename_i hw;rw[ah hw]at h;exact hk _ _ (λ_=>Below.refl _ _) h
theorem Hp {i j:Nat} {mi mj:Md} {oi oj:Oper} (hi:ops[i]?=some oi) (hj:ops[j]?=some oj) (hsi:∀cs b,oi.op≠ .select cs b) (hsj:∀cs b,oj.op≠ .select cs b)
  (hok:oc ops (i,mi) (j,mj)=true) {K:Act->World->Prop} {a:Act} {w:World}
  (h:mF P ops mi oi a w (λa w=>mF P ops mj oj a w K)):mF P ops mj oj a w (λa w=>mF P ops mi oi a w K):=by
 unfold oc at hok;simp only[hi,hj,bf]at hok;obtain⟨hap,hm⟩:=hok;obtain⟨h1,h2,h3⟩:=Oper.apart_spec hap;have wj:∀u,Region.wanted oj (yielded ops (a.put oi.dst u).tmps)=Region.wanted oj (yielded ops a.tmps):=λu=>wanted_put oj a oi.dst u h1;have wi:∀u,Region.wanted oi (yielded ops (a.put oj.dst u).tmps)=Region.wanted oi (yielded ops a.tmps):=λu=>wanted_put oi a oj.dst u h3;have ej:∀u,execOp (a.put oi.dst u).eval oj=execOp a.eval oj:=λu=>execOp_put oj hsj a oi.dst u h1;have ei:∀u,execOp (a.put oj.dst u).eval oi=execOp a.eval oi:=λu=>execOp_put oi hsi a oj.dst u h3;have cm:∀u v,(a.put oi.dst u).put oj.dst v=(a.put oj.dst v).put oi.dst u:=λu v=>Act.put_comm a u v h2;have jback:∀u w,mF P ops mj oj (a.put oi.dst u) w K->mF P ops mj oj a w (λa' w'=>K (a'.put oi.dst u) w'):=by
  intro u w h;by_cases hw:Region.wanted oj (yielded ops a.tmps)=true
  ·have hw':Region.wanted oj (yielded ops (a.put oi.dst u).tmps)=true:=by rw[wj u];exact hw
   cases mj with
   |pure=>rw[ob hw']at h;rw[ob hw];obtain⟨v,g1,g2⟩:=h;rw[cm]at g2;exact⟨v,λw'=>by rw[<-ej u];exact g1 w',g2⟩
   |read=>rw[sx hw']at h;rw[sx hw];obtain⟨v,g1,g2⟩:=h;rw[cm]at g2;exact⟨v,λw' hb=>by rw[<-ej u];exact g1 w' hb,g2⟩
   |kx=>rw[rz hw',ej u]at h;rw[rz hw];exact oU (λv w' g=>⟨g.1,by rw[<-cm];exact g.2⟩) h
   |free=>rw[sJ hw',ej u]at h;rw[sJ hw];exact oU (λv w' g=>by rw[<-cm];exact g) h
  ·have hw':¬Region.wanted oj (yielded ops (a.put oi.dst u).tmps)=true:=by rw[wj u];exact hw
   rw[qy hw',cm]at h;rw[qy hw];exact h
 have wi':Region.wanted oi (yielded ops a.tmps)=true->∀u,Region.wanted oi (yielded ops (a.put oj.dst u).tmps)=true:=λh u=>by rw[wi u];exact h
 have wj':Region.wanted oj (yielded ops a.tmps)=true->∀u,Region.wanted oj (yielded ops (a.put oi.dst u).tmps)=true:=λh u=>by rw[wj u];exact h
 have wjn:¬Region.wanted oj (yielded ops a.tmps)=true->∀u,¬Region.wanted oj (yielded ops (a.put oi.dst u).tmps)=true:=λh u=>by rw[wj u];exact h
 by_cases hwi:Region.wanted oi (yielded ops a.tmps)=true
 case neg=>
  rw[qy hwi]at h;refine wU (λv w' _ hK=> ?_) (jback undef w h);rw[qy (by rw[wi v];exact hwi)];exact hK
 case pos=>
  cases mi with
  |pure=>
   rw[ob hwi]at h;obtain⟨v,g1,g2⟩:=h;refine wU (λu w' _ hK=> ?_) (jback v w g2);rw[ob (wi' hwi u)];exact⟨v,λw''=>by rw[ei u];exact g1 w'',hK⟩
  |read=>
   rw[sx hwi]at h;obtain⟨v,g1,g2⟩:=h;have hmj:mj≠ .free:=by rintro rfl;cases hm
   refine wU (λu w' hb hK=> ?_) (jback v w g2);have hb':=hb hmj;rw[sx (wi' hwi u)];exact⟨v,λw'' hb''=>by rw[ei u];exact g1 w'' (hb'.trans (hb''.mono hb'.size)),hK⟩
  |kx=>
   have hmj:mj= .pure:=by cases mj<;>first|rfl|cases hm
   subst hmj;rw[rz hwi]at h;by_cases hwj:Region.wanted oj (yielded ops a.tmps)=true
   ·obtain⟨v0,w0,_,hb⟩:=zV h;rw[ob (wj' hwj v0)]at hb;obtain⟨vj,g1,_⟩:=hb;rw[ob hwj];refine⟨vj,λw'=>by rw[<-ej v0];exact g1 w',?_⟩;rw[rz (wi' hwi vj),ei vj];refine oU (λv w1 hr=> ?_) h;obtain⟨hbl,hr⟩:=hr;rw[ob (wj' hwj v)]at hr;obtain⟨v',g1',g2'⟩:=hr;have e1:=g1 w1;have e2:=g1' w1;rw[ej v0]at e1;rw[ej v,e1]at e2;obtain rfl:vj=v':=by simpa using e2
    exact⟨hbl,by rw[<-cm];exact g2'⟩
   ·rw[qy hwj,rz (wi' hwi undef),ei undef];refine oU (λv w1 hr=> ?_) h;obtain⟨hbl,hr⟩:=hr;rw[qy (wjn hwj v),cm]at hr;exact⟨hbl,hr⟩
  |free=>
   have hmj:mj= .pure:=by cases mj<;>first|rfl|cases hm
   subst hmj;rw[sJ hwi]at h;by_cases hwj:Region.wanted oj (yielded ops a.tmps)=true
   ·obtain⟨v0,w0,hb⟩:=zV h;rw[ob (wj' hwj v0)]at hb;obtain⟨vj,g1,_⟩:=hb;rw[ob hwj];refine⟨vj,λw'=>by rw[<-ej v0];exact g1 w',?_⟩;rw[sJ (wi' hwi vj),ei vj];refine oU (λv w1 hr=> ?_) h;rw[ob (wj' hwj v)]at hr;obtain⟨v',g1',g2'⟩:=hr;have e1:=g1 w1;have e2:=g1' w1;rw[ej v0]at e1;rw[ej v,e1]at e2;obtain rfl:vj=v':=by simpa using e2
    rw[<-cm];exact g2'
   ·rw[qy hwj,sJ (wi' hwi undef),ei undef];refine oU (λv w1 hr=> ?_) h;rw[qy (wjn hwj v),cm]at hr;exact hr
def wG (ops:Array Oper):Prop:=∀(i:Nat) (o:Oper) (cs:Array SelectCase) (b:Bool),ops[i]?=some o->o.op≠Op.select cs b
theorem Db {Kend:Act->World->Prop} (hs:wG ops) {i:Nat} {m:Md} {oi:Oper} (hi:ops[i]?=some oi) {post:List (Nat×Md)}:
  ∀(pre:List (Nat×Md)) (a:Act) (w:World),(∀y∈pre,oc ops y (i,m)=true)->wr P ops Kend (pre++(i,m)::post) a w->mF P ops m oi a w (wr P ops Kend (pre++post))
 | [],a,w,_,h=>by simpa[wr,hi]using h
 |(y,my)::pre,a,w,hp,h=>by
  simp only[bY,wr]at h;cases hy:ops[y]?with
  |none=>rw[hy]at h;exact h.elim
  |some oy=>
   rw[hy]at h;simp only at h;have h':mF P ops my oy a w (λa w=>mF P ops m oi a w (wr P ops Kend (pre++post))):=
    nb (λa w hh=>Db hs hi pre a w (λz hz=>hp z (aJ _ hz)) hh) h
   have:=Hp hy hi (λcs b=>hs y oy cs b hy) (λcs b=>hs i oi cs b hi) (hp (y,my) (aH ..)) h';refine nb (λa w hh=> ?_) this;simp only[bY,wr,hy];exact hh
def tp (ops:Array Oper):List (Nat×Md)->Bool
 | []=>true
 |i::σ=>(match ops[i.1]?with
  |some o=>o.after.all λe=> !Region.binds .any e||(Nat.blt e.on ops.size&& !Nat.beq e.on i.1&&σ.all λj=> !Nat.beq e.on j.1)
  |none=>false)&&tp ops σ
theorem vJ {x:Nat×Md}:∀ {σ τ:List (Nat×Md)},tp ops (σ++x::τ)=true->tp ops (σ++τ)=true
 | [],τ,h=>by simp only[ce,tp,bf]at h⊢;exact h.2
 |y::σ,τ,h=>by
  simp only[bY,tp,bf]at h⊢;refine⟨?_,vJ h.2⟩;have h1:=h.1;cases ho:ops[y.1]?with
  |none=>rw[ho]at h1;cases h1
  |some o=>
   rw[ho]at h1;simp only[dz]at h1⊢;intro e he;have:=h1 e he;simp only[dp,bf,fP,f9]at this⊢;rcases this with h2|h2
   ·exact .inl h2
   ·exact .inr ⟨h2.1,h2.2.1,h2.2.2.2⟩
theorem xr {i j:Nat} (h:(!Nat.beq i j)=true):i≠j:=by
 rintro rfl;simp at h
theorem Bb {Q:Exit->Act->World->Prop} {Kend:Act->World->Prop} (hs:wG ops) (hQ:∀a w,Kend a w->Q .normal a w) (n:Nat):
  ∀(fuel:Nat) (σ:List (Nat×Md)) (listed:Array Bool) (a:Act) (w:World),σ.length<=fuel->listed.size=ops.size->closed ops listed->
   (∀i,listed.getD i true=false↔∃m,(i,m)∈σ)->pf ops n σ=true->tp ops σ=true->wr P ops Kend σ a w->wpAny P .any ops Q fuel listed a w:=by
 have hempty:∀(listed:Array Bool),(∀i,listed.getD i true=false↔∃m,(i,m)∈([]:List (Nat×Md)))->Region.ready .any ops listed=[]:=by
  intro listed hl;refine gQ.2 λi hi=> ?_;have:=(hl i).1 (iw.1 hi).1;obtain⟨m,hm⟩:=this;cases hm
 intro fuel;induction fuel with
 |zero=>
  intro σ listed a w hlen _ _ hl _ _ h;have:σ=[]:=cB oO;subst this;exact⟨hempty listed hl,hQ _ _ h⟩
 |succ fuel ih=>
  intro σ listed a w hlen hsz hc hl hp ht h;refine⟨λhr=> ?_,λi hi=> ?_⟩
  ·--nothing is ready:nothing is left
   cases σ with
   |nil=>exact hQ _ _ h
   |cons x σ=>
    exfalso;have hx:x.1∈Region.ready .any ops listed:=by
     refine iw.2 ⟨(hl x.1).2 ⟨x.2,aH ..⟩,?_⟩;simp only[tp,bf]at ht;cases ho:ops[x.1]?with
     |none=>rw[ho]at ht;cases ht.1
     |some o=>
      rw[ho]at ht;refine⟨o,rfl,λe he hb=> ?_⟩;have:=dz.1 ht.1 e he;simp only[hb,iG,iH,bf]at this;obtain⟨⟨g1,g2⟩,g3⟩:=this;rw[gL]at g1;have hnot:¬∃m,(e.on,m)∈x::σ:=by
       rintro⟨m,hm⟩;rcases bM.1 hm with rfl|hm
       ·exact xr g2 rfl
       ·exact xr (cO.1 g3 _ hm) rfl
      have hne:listed.getD e.on true≠false:=λhf=>hnot ((hl e.on).1 hf);have hlt:e.on<listed.size:=oO;simp only[Array.getD,hlt,gq]at hne⊢;simpa using hne
    rw[hr]at hx;cases hx
  ·obtain⟨hun,oi,hoi,hdeps⟩:=iw.1 hi;obtain⟨m,hm⟩:=(hl i).1 hun;obtain⟨pre,post,rfl⟩:=List.append_of_mem hm;have hnd:∀y∈pre,y.1≠i/\(rT ops n i y.1=true\/oc ops y (i,m)=true):=by
    clear ih h hl hlen ht hm;induction pre with
    |nil=>intro y hy;cases hy
    |cons z pre ihp=>
     simp only[bY,pf,bf,fP,f9]at hp;intro y hy;rcases bM.1 hy with rfl|hy
     ·have h1:=hp.1.2.1;rw[dp]at h1;exact⟨xr h1.1,h1.2⟩
     ·exact ihp hp.2 y hy
   have hpost:∀y∈post,i≠y.1:=by
    clear ih h hl hlen ht hm hnd;induction pre with
    |nil=>
     simp only[ce,pf,bf]at hp;intro y hy;have:=cO.1 hp.1 y hy;simp only[bf]at this;exact xr this.1
    |cons z pre ihp=>
     simp only[bY,pf,bf]at hp;exact ihp hp.2
   have hsw:∀y∈pre,oc ops y (i,m)=true:=λy hy=>by
    rcases(hnd y hy).2 with h1|h1
    ·have h2:=A8 hc n i y.1 (λo ho e he hb=>by rw[hoi]at ho;obtain rfl:=bK ho;exact hdeps e he hb) h1;have h3:listed.getD y.1 true=false:=(hl y.1).2 ⟨y.2,by simp[hy]⟩;exfalso;rcases bH y.1 listed.size with hlt|hlt
     ·simp only[Array.getD,hlt,gq]at h2 h3;rw[h2]at h3;cases h3
     ·simp[Array.getD,gm.2 hlt]at h2
    ·exact h1
   refine sN hoi (nb (λa w hh=> ?_) (Db hs hoi pre a w hsw h));have hilt:i<listed.size:=by
    rcases bH i listed.size with h2|h2
    ·exact h2
    ·simp[Array.getD,gm.2 h2]at hun
   refine ih (pre++post) (listed.setIfInBounds i true) a w (by simp at hlen⊢;omega) (by simpa using hsz) ?_ ?_ (uJ hp) (vJ ht) hh
   ·intro j o hj hjl e he hb;by_cases hji:j=i
    ·subst hji;rw[hoi]at hj;obtain rfl:=bK hj;exact jO (hdeps e he hb)
    ·rw[iI true (jQ hji)]at hjl;exact jO (hc j o hj hjl e he hb)
   ·intro j;by_cases hji:j=i
    ·subst hji;constructor
     ·intro hf;simp[Array.getD,hilt]at hf
     ·rintro⟨m',hm'⟩;rcases bN.1 hm' with h1|h1
      ·exact absurd rfl (hnd _ h1).1
      ·exact absurd rfl (hpost _ h1)
    ·rw[iI true (jQ hji),hl j];constructor
     ·rintro⟨m',hm'⟩;refine⟨m',?_⟩;rcases bN.1 hm' with h1|h1
      ·simp[h1]
      ·rcases bM.1 h1 with h2|h2
       ·exact absurd (bB Prod.fst h2) hji
       ·simp[h2]
     ·rintro⟨m',hm'⟩;refine⟨m',?_⟩;rcases bN.1 hm' with h1|h1
      ·simp[h1]
      ·simp[h1]
def FY (ops:Array Oper) (σ:List (Nat×Md)):Bool:=
 Nat.ble σ.length ops.size&&(List.range ops.size).all (λi=>σ.any λx=>Nat.beq x.1 i)&&σ.all (λx=>Nat.blt x.1 ops.size)&&pf ops ops.size σ&&tp ops σ&&
 ops.all λo=>match o.op with| .select .. =>false|_=>true
end
structure Wr (P:Program) (ops:Array Oper) (Kend:Act->World->Prop) (σ:List (Nat×Md)) (N:Nat) (ρ:Nat->Value) (w:World):Prop where
 out:wr P ops Kend σ (act N ρ) w
section
variable {P : Program} {N : Nat} {ρ : Nat → Value} {w0 w : World} {Q : Exit → Act → World → Prop} {ops : Array Oper} {H : List lj} {Kend : Act → World → Prop} {i : Nat} {o : Oper} {σ : List (Nat × Md)}
theorem kK {id:Nat} {l:List Oper} (σ:List (Nat×Md)) (hm:P.follows .mixedOrders=true) (hchk:FY l.toArray σ=true) (hS:St w0 w H)
  (h:∀w',St w0 w' H->Below w.heap.size w w'->Wr P l.toArray (Q .normal) σ N ρ w'):(Code.region id l.toArray true).wp P Q (act N ρ) w:=by
 simp only[FY,bf]at hchk;obtain⟨⟨⟨⟨⟨h1,h2⟩,h3⟩,h4⟩,h5⟩,h6⟩:=hchk;have hs:wG l.toArray:=by
  intro i o cs b hi hsel;have:=dz.1 h6 o (gK hi);rw[hsel]at this;cases this
 have hbd:Below w.heap.size w {w with drawn:=w.drawn+1}:=(Below.refl _ w).drew;refine wp_region_any hm (Bb hs (λ_ _ h=>h) l.toArray.size _ σ _ _ _ (eP h1) (by simp) ?_ ?_ h4 h5 (h _ (hS.kx hbd) hbd).out)
 ·intro j o _ hl;by_cases hj:j<l.toArray.size
  ·rw[Array.getD,dif_pos (by simpa using hj)]at hl;simp at hl
  ·rename_i hjo;rw[gG oO]at hjo;cases hjo
 ·intro j;constructor
  ·intro hf;have hj:j<l.toArray.size:=by
    rcases bH j l.toArray.size with hlt|hlt
    ·exact hlt
    ·simp at hlt;simp[Array.getD,gm.2 hlt]at hf
   have:=cO.1 h2 j (by simpa using hj);obtain⟨x,hx,hb⟩:=dB.1 this;exact⟨x.2,by rw[<-cF hb];exact hx⟩
  ·rintro⟨m,hm'⟩;have:=cO.1 h3 _ hm';rw[gL]at this;simp at this;simp[Array.getD,this]
theorem zn (h:Kend (act N ρ) w):Wr P ops Kend [] N ρ w:=⟨h⟩
theorem kL {d:Option Tmp} {p:Op} {ty:TypeId} {pos:String} {aft:Array Edge} {g:Option (Nat×Bool)} (ho:ops[i]?=some ⟨d,p,ty,pos,aft,g⟩) (hg:gd ops N ρ g=true) (h:mx P N ρ ⟨d,p,ty,pos,aft,g⟩ λv=>Wr P ops Kend σ N (tm ρ d v) w):Wr P ops Kend ((i,.pure)::σ) N ρ w:=by
 constructor;simp only[wr,ho,mF];rw[aj (pb ops N ρ ⟨d,p,ty,pos,aft,g⟩ hg),oV];obtain⟨v,h1,h2⟩:=h;exact⟨v,h1,by rw[px];exact h2.out⟩
theorem mC {d:Option Tmp} {p:Op} {ty:TypeId} {pos:String} {aft:Array Edge} {g:Option (Nat×Bool)} (ho:ops[i]?=some ⟨d,p,ty,pos,aft,g⟩) (hg:gd ops N ρ g=true) (h:rD P N ρ w ⟨d,p,ty,pos,aft,g⟩ λv=>Wr P ops Kend σ N (tm ρ d v) w):Wr P ops Kend ((i,.read)::σ) N ρ w:=by
 constructor;simp only[wr,ho,mF];rw[aj (pb ops N ρ ⟨d,p,ty,pos,aft,g⟩ hg),oV];obtain⟨v,h1,h2⟩:=h;exact⟨v,h1,by rw[px];exact h2.out⟩
theorem vB {d:Option Tmp} {p:Op} {ty:TypeId} {pos:String} {aft:Array Edge} {g:Option (Nat×Bool)} (ho:ops[i]?=some ⟨d,p,ty,pos,aft,g⟩) (hg:gd ops N ρ g=true) (h:pL P N ρ w ⟨d,p,ty,pos,aft,g⟩ λv w'=>Below w.heap.size w w'/\Wr P ops Kend σ N (tm ρ d v) w'):Wr P ops Kend ((i,.kx)::σ) N ρ w:=by
 constructor;simp only[wr,ho,mF];rw[aj (pb ops N ρ ⟨d,p,ty,pos,aft,g⟩ hg),oV];simp only[px];exact oU (λv w h=>⟨h.1,h.2.out⟩) h.out
theorem Uo {d:Option Tmp} {p:Op} {ty:TypeId} {pos:String} {aft:Array Edge} {g:Option (Nat×Bool)} (ho:ops[i]?=some ⟨d,p,ty,pos,aft,g⟩) (hg:gd ops N ρ g=true) (h:pL P N ρ w ⟨d,p,ty,pos,aft,g⟩ λv w'=>Wr P ops Kend σ N (tm ρ d v) w'):Wr P ops Kend ((i,.free)::σ) N ρ w:=by
 constructor;simp only[wr,ho,mF];rw[aj (pb ops N ρ ⟨d,p,ty,pos,aft,g⟩ hg),oV];simp only[px];exact oU (λv w h=>Wr.out h) h.out
theorem nh {m:Md} {d:Option Tmp} {p:Op} {ty:TypeId} {pos:String} {aft:Array Edge} {g:Option (Nat×Bool)} (ho:ops[i]?=some ⟨d,p,ty,pos,aft,g⟩) (hg:To ops N ρ g=true) (h:Wr P ops Kend σ N (tm ρ d undef) w):Wr P ops Kend ((i,m)::σ) N ρ w:=by
 constructor;simp only[wr,ho,mF];rw[ah (by rw[CM ops N ρ ⟨d,p,ty,pos,aft,g⟩ hg];decide),px];exact h.out
end
section
variable {P : Program} {N : Nat} {ρ : Nat → Value} {w0 w : World} {H : List lj} {k b : Nat} {t : TypeId} {cs : List Value}
theorem xI {fn:Func} {t u v:Nat} {R:Value->World->Prop} {x y z:Value} (hr:fn.results= #[.tmp t,.tmp u,.tmp v]) (hx:ev N ρ (.tmp t)=x) (hy:ev N ρ (.tmp u)=y) (hz:ev N ρ (.tmp v)=z) (h:R (.tuple #[x,y,z]) w):
  bodyPost P fn (λe w'=>∃v,e= .returned v/\R v w') .ret (act N ρ) w:=
 gH (results_tmp3 hr _ _ _) rfl ⟨_,rfl,by rw[ot,ot,ot,hx,hy,hz];exact h⟩
theorem St.cast {H':List lj} (h:St w0 w H) (e:H=H'):St w0 w H':=e▸h
theorem St.loadVar {n:Nat} {zz:List Value} {ty:TypeId} (hS:St w0 w H) (hk:H[k]?=some (b,t,cs)) (ht:mf P ty=some (n,true,zz)) (hn:cs.length=n):
  (Go.loadVar ty ⟨b,0,none⟩).run P w= .ok (.agg cs.toArray) w:=by
 obtain⟨i,dd,zv,hi,hu,_,hs,hag,_⟩:=rE ht;exact run_loadVar_row w b t ty cs.toArray (0,0) dd (hS.get hk) hu (by cases dd<;>first|rfl|cases hag) (by rw[hi];simp[hs,hn])
theorem mA {fn:Func} {p n:Nat} {ty:TypeId} {zz:List Value} {R:Value->World->Prop} (hr:fn.results= #[.cell p ty]) (hp:ev N ρ (.tmp p)= .pointer (some ⟨b,0,none⟩)) (ht:mf P ty=some (n,true,zz))
  (hS:St w0 w H) (hk:H[k]?=some (b,t,cs)) (hn:cs.length=n) (h:R (.agg cs.toArray) w):
  bodyPost P fn (λe w'=>∃v,e= .returned v/\R v w') .ret (act N ρ) w:=by
 refine gH (v:= .agg cs.toArray) ?_ rfl ⟨_,rfl,h⟩;obtain⟨i,dd,zv,hi,hu,_,hs,hag,_⟩:=rE ht;exact results_cell_row hr _ w b t cs.toArray (0,0) dd (by rw[ot,hp]) (hS.get hk) hu (by cases dd<;>first|rfl|cases hag) (by rw[hi];simp[hs,hn])
theorem nG {fn:Func} {p u n:Nat} {ty:TypeId} {zz:List Value} {y:Value} {R:Value->World->Prop} (hr:fn.results= #[.cell p ty,.tmp u]) (hp:ev N ρ (.tmp p)= .pointer (some ⟨b,0,none⟩)) (hy:ev N ρ (.tmp u)=y) (ht:mf P ty=some (n,true,zz))
  (hS:St w0 w H) (hk:H[k]?=some (b,t,cs)) (hn:cs.length=n) (h:R (.tuple #[.agg cs.toArray,y]) w):
  bodyPost P fn (λe w'=>∃v,e= .returned v/\R v w') .ret (act N ρ) w:=by
 refine gH (v:= .tuple #[.agg cs.toArray,y]) ?_ rfl ⟨_,rfl,h⟩;rw[results_cell_tmp hr,ot,ot,hp,hy];have hl:=hS.loadVar hk ht hn;simp only[asAddr,iu,dk];rw[hl];simp[Result.andThen]
end
theorem St.join {w0 w1 w2:World} {H0 H1:List lj} (h0:St w0 w1 H0) (h1:St w1 w2 H1):St w0 w2 (H1++H0):=by
 refine⟨h0.kb.trans (h1.kb.mono h0.kb.size),λe he=> ?_,?_⟩
 ·rcases bN.1 he with h|h
  ·exact⟨cQ h0.kb.size (h1.own e h).1,(h1.own e h).2⟩
  ·exact⟨(h0.own e h).1,by rw[h1.kb.block _ (h0.lt h)];exact(h0.own e h).2⟩
 ·rw[bS,cW];refine⟨h1.nd,h0.nd,?_⟩;rintro a ha b hb rfl;obtain⟨x,hx,rfl⟩:=ca.1 ha;obtain⟨y,hy,hyx⟩:=ca.1 hb;have:=(h1.own x hx).1;have:=h0.lt hy;omega
def Gl {α:Type} (enc:α->List Value) (e:TypeId) (size:Nat) (v:Value) (X:List α) (L:List lj):Prop:=Gs e size v X.length (X.flatMap enc) L
section
variable {α : Type} {enc : α → List Value} {e : TypeId} {size : Nat} {w0 w : World} {H L : List lj} {X : List α} {v : Value}
theorem Gl.nil (enc:α->List Value) (e:TypeId) (size:Nat):Gl enc e size (.slice none 0 0) [] []:=Gs.nil e size
theorem Gl.sl (hG:Gl enc e size v X L) (hS:St w0 w (H++L)) (hu:∀x,(enc x).length=size):Sl enc size w v X:=by
 obtain⟨hX,⟨rfl,h0,_⟩|⟨b,cap,spare,rfl,rfl,h1,h2,h3⟩⟩:=hG
 ·obtain rfl:X=[]:=cB h0;exact Sl.nil _ _ _
 ·exact(hS.perm ay).sl (k:=0) (b:=b) (t:=e) (cs:=X.flatMap enc++spare) rfl rfl hu h1 h2
theorem Gl.OB {z:List Value} {n b:Nat} (hz:z.length=size) (hn:n<=9223372036854775807):Gl enc e size (.slice (some ⟨b,0,none⟩) 0 n) [] [(b,e,rep n z)]:=by
 refine⟨by simp,.inr ⟨b,n,rep n z,rfl,rfl,aw _,by unfold Go.maxLen;omega,?_⟩⟩;simp[Cj,hz]
theorem Gl.len (hG:Gl enc e size v X L):∃a cap,v= .slice a X.length cap:=by
 obtain⟨_,⟨rfl,h0,_⟩|⟨b,cap,spare,rfl,_⟩⟩:=hG
 ·exact⟨none,0,by rw[h0]⟩
 ·exact⟨_,_,rfl⟩
end
section
variable {P : Program} {N : Nat} {ρ : Nat → Value} {w0 w w' : World} {d : Option Tmp} {ty : TypeId} {pos : String} {aft : Array Edge} {g : Option (Nat × Bool)} {x y z : Operand} {t t' e : TypeId} {H L : List lj} {b : Nat} {cs : List Value} {v : Value} {K2 : Value → World → Prop}
theorem mO {α:Type} {enc:α->List Value} {size bytes c:Nat} {zz:List Value} {X:List α} (xs:List α) {xv:Value} (hx:ev N ρ x=v) (hy:ev N ρ y=xv) (ht:sinfo P t=some (e,size,bytes,zz)) (hsz:0<size)
  (hG:Gl enc e size v X L) (hS:St w0 w ((b,t',cs)::(H++L))) (hxv:xv= .slice (some ⟨b,0,none⟩) xs.length c) (hcs:cs=xs.flatMap enc) (hu:∀x,(enc x).length=size) (h1:∀u∈cs,u.oneCell'=true)
  (h63:X.length+xs.length<=9223372036854775807) (hb:(X.length+xs.length)*bytes<=140737488355328)
  (h:∀v' L' w',Gl enc e size v' (X++xs) L'->St w0 w' (H++L')->w.heap.size<=w'.heap.size->K2 v' w'):
  pL P N ρ w ⟨d,.call ⟨.builtin .append,#[x,y],#[t,t]⟩,ty,pos,aft,g⟩ K2:=by
 have hat:=hS.at (k:=0) (b:=b) (t:=t') (cs:=cs) rfl 0 cs.length;rw[ji,bO]at hat;refine Tg hx hy ht hsz hG (hS.perm ((List.Perm.cons _ ay).trans List.perm_middle.symm)) hxv (by rw[hcs,lO hu]) hat h1 h63 hb (λv' L' w' hG' hS' _ hge=> ?_);refine h v' L' w' ?_ (((hS'.perm List.perm_middle).drop (ab _ _)).perm ay) hge;unfold Gl;rw[ax,du,<-hcs];exact hG'
theorem Tu (k:IntKind) (xs:List Nat):∀u∈xs.flatMap (uk k),u.oneCell'=true:=by
 intro u hu;obtain⟨x,_,hx⟩:=dK.1 hu;rw[aO.1 hx];rfl
theorem TO {el t'':TypeId} {X:List Nat} {K:Value->Prop} (hx:ev N ρ x=v) (ht:P.underlying t=some (.slice el)/\P.underlying el=some (.int .u8)/\P.underlying t''=some .string) (hG:Gl (uk .u8) e 1 v X L) (hS:St w0 w (H++L))
  (h:K (.string (zC X))):rD P N ρ w ⟨d,.convert t t'' x,ty,pos,aft,g⟩ K:=by
 obtain⟨hX,⟨rfl,h0,rfl⟩|⟨b,cap,spare,rfl,rfl,h1,h2,h3⟩⟩:=hG
 ·obtain rfl:X=[]:=cB h0;refine⟨_,λw' hb=> ?_,h⟩;simp[execOp,hx,run_convert_bytes_string w' t t'' el none 0 0 ht.1 ht.2.1 ht.2.2,Conv.bytesToString,zC];rfl
 ·refine SZ hx ht rfl ?_ h;have hat:=(hS.perm ay).at (k:=0) (b:=b) (t:=e) (cs:=X.flatMap (uk .u8)++spare) rfl 0 (X.flatMap (uk .u8)).length;rw[ji,List.take_left]at hat;rw[Ki];exact hat
theorem Pp {α:Type} {enc:α->List Value} {sz by_ n:Nat} {zz:List Value} {kl kc:IntKind} {ml mc:Int} (hx:ev N ρ x= .int kl ml) (hy:ev N ρ y= .int kc mc) (ht:sinfo P t=some (e,sz,by_,zz)) (hml:ml=0) (hmc:mc=(n:Int))
  (h1:by_*n<=281474976710656) (h2:n<=9223372036854775807) (hS:St w0 w H)
  (h:∀v L w',Gl enc e sz v [] L->St w0 w' (H++L)->Below w.heap.size w w'->K2 v w'):
  pL P N ρ w ⟨d,.makeSlice t x y,ty,pos,aft,g⟩ K2:=by
 obtain⟨_,_,_,_,_,_,_,_,hzl⟩:=mU ht;exact Rt hx hy ht hml hmc h1 h2 hS (λb w' hS' hB=>h _ [(b,e,rep n zz)] w' (Gl.OB hzl h2) (hS'.perm (ay (l₁:=[(b,e,rep n zz)]))) hB)
end
section
variable {α : Type} {enc : α → List Value} {size : Nat}
theorem EQ (hu:∀x,(enc x).length=size) (L:List α) (i:Nat):(L.flatMap enc).drop (i*size)=(L.drop i).flatMap enc:=by
 induction L generalizing i with
 |nil=>simp
 |cons x L ih=>
  cases i with
  |zero=>simp
  |succ i=>
   rw[cj,List.drop_append,hu,List.drop_eq_nil_of_le (by rw[hu,bn];omega),ce,List.drop_succ_cons,<-ih i];congr 1;rw[bn];omega
theorem uQ (hu:∀x,(enc x).length=size) (L:List α) (i:Nat):(L.flatMap enc).take (i*size)=(L.take i).flatMap enc:=by
 induction L generalizing i with
 |nil=>simp
 |cons x L ih=>
  cases i with
  |zero=>simp
  |succ i=>
   rw[cj,iL,hu,aU (by rw[hu,bn];omega),List.take_succ_cons,cj,<-ih i];congr 2;rw[bn];omega
theorem EH (hu:∀x,(enc x).length=size) (L:List α) (d:α) {i:Nat} (hi:i<L.length):((L.flatMap enc).drop (i*size)).take size=enc (L.getD i d):=by
 rw[EQ hu,dX hi,cj,iL,aU (by rw[hu];exact aB _),hu,dU,ft,aK];rw[ak,aF hi];rfl
theorem xa (hu:∀x,(enc x).length=size) (L:List α) (x:α) {i:Nat} (hi:i<L.length):splice (L.flatMap enc) (i*size) (enc x)=(L.set i x).flatMap enc:=by
 unfold splice;rw[uQ hu,hu,show i*size+size=(i+1)*size by rw[bn];omega,EQ hu,jM,aj hi,du,cj,aG]
theorem Ir (z:α) (n:Nat):rep n (enc z)=(List.replicate n z).flatMap enc:=by
 induction n with
 |zero=>rfl
 |succ n ih=>rw[xl,ih];rfl
end
section
variable {w0 w : World} {H : List lj} {b k : Nat} {t : TypeId}
theorem St.sle {α:Type} {enc:α->List Value} {size:Nat} {L:List α} (h:St w0 w H) (hk:H[k]?=some (b,t,L.flatMap enc)) (hu:∀x,(enc x).length=size) {n cap:Nat} (hn:n<=L.length) (h1:n<=cap) (h2:cap<=9223372036854775807):
  Sl enc size w (.slice (some ⟨b,0,none⟩) n cap) (L.take n):=by
 have hl:(L.take n).length=n:=by simp;omega
 have:=h.sl (enc:=enc) (size:=size) (L:=L.take n) (spare:=(L.drop n).flatMap enc) (cap:=cap) hk (by rw[<-du,dc]) hu (by rw[hl];exact h1) (by unfold Go.maxLen;omega);rwa[hl]at this
end
section
variable {P : Program} {N : Nat} {ρ : Nat → Value} {w0 w w' : World}
  {d : Option Tmp} {ty : TypeId} {pos : String} {aft : Array Edge} {g : Option (Nat × Bool)} {x y z : Operand} {t t' e : TypeId} {H : List lj} {k b o : Nat} {v : Value} {K : Value → Prop} {K2 : Value → World → Prop}
theorem Ti {α:Type} {enc:α->List Value} {size:Nat} {L:List α} {i:Nat} {zz:List Value} {agg:Bool} (dd:α) (hu:∀x,(enc x).length=size) (hx:ev N ρ x= .pointer (some ⟨b,o,none⟩)) (ht:mf P t=some (size,agg,zz)) (hS:St w0 w H) (hk:H[k]?=some (b,t',L.flatMap enc))
  (ho:o=i*size) (hi:i<L.length) (hv:QW agg (enc (L.getD i dd))=v) (hagg:agg=true\/size=1) (h:K v):rD P N ρ w ⟨d,.load t x,ty,pos,aft,g⟩ K:=by
 subst ho;have hat:=hS.at hk (i*size) size;rw[EH hu L dd hi]at hat;exact oW hx ht hat (hu _) hv hagg h
theorem Aa {α:Type} {enc:α->List Value} {size:Nat} {L:List α} {i:Nat} {zz:List Value} {agg:Bool} (u:α) (hu:∀x,(enc x).length=size) (hx:ev N ρ x= .pointer (some ⟨b,o,none⟩)) (hy:ev N ρ y=v) (ht:mf P t=some (size,agg,zz)) (hS:St w0 w H) (hk:H[k]?=some (b,t',L.flatMap enc))
  (ho:o=i*size) (hi:i<L.length) (hv:v.cells.toList=enc u) (h1:(enc u).all (·.oneCell')=true)
  (h:∀w',St w0 w' (H.set k (b,t',(L.set i u).flatMap enc))->K2 undef w'):pL P N ρ w ⟨d,.store t x y,ty,pos,aft,g⟩ K2:=by
 subst ho;refine lX hx hy ht hS hk hv (hu u) ?_ h1 (λw' hS'=> ?_)
 ·rw[lO hu];have:(i+1)*size<=L.length*size:=aI _ hi;rw[bn]at this;omega
 ·rw[xa hu L u hi]at hS';exact h w' hS'
theorem mq {α:Type} {enc:α->List Value} {size by_ n:Nat} {zz:List Value} {kl kc:IntKind} {ml mc:Int} (zd:α) (hx:ev N ρ x= .int kl ml) (hy:ev N ρ y= .int kc mc) (ht:sinfo P t=some (e,size,by_,zz)) (hz:zz=enc zd) (hml:ml=(n:Int)) (hmc:mc=(n:Int))
  (h1:by_*n<=281474976710656) (h2:n<=9223372036854775807) (hS:St w0 w H)
  (h:∀b w',St w0 w' ((b,e,(List.replicate n zd).flatMap enc)::H)->Below w.heap.size w w'->K2 (.slice (some ⟨b,0,none⟩) n n) w'):
  pL P N ρ w ⟨d,.makeSlice t x y,ty,pos,aft,g⟩ K2:=by
 refine Ao hx hy ht hml hmc h1 h2 hS (λb w' hS' hB=> ?_);rw[hz,Ir]at hS';exact h b w' hS' hB
end
theorem N8 {a:Addr} (h:a.spot=none) (n:Nat):(a.add n).spot=none:=by
 obtain⟨b,o,s⟩:=a;subst h;rw[add_lit]
theorem At.sub {w:World} {a:Addr} {cs:List Value} (hs:a.spot=none) (h:At w a cs) (k n:Nat):At w (a.add k) ((cs.drop k).take n):=by
 obtain⟨b,o,s⟩:=a;subst hs;rw[add_lit];exact h.seg k n
section
variable {P : Program} {N : Nat} {ρ : Nat → Value} {w : World}
  {d : Option Tmp} {ty : TypeId} {pos : String} {aft : Array Edge} {g : Option (Nat × Bool)} {x : Operand} {t : TypeId} {v : Value} {K : Value → Prop}
theorem lG {α:Type} {enc:α->List Value} {size:Nat} {L:List α} (hS:Sl enc size w v L) (hu:∀x,(enc x).length=size) (hs:0<size) {i:Nat} (hi:i<L.length):((t6 v).add (i*size)).spot=none:=
 N8 (hS.spot hu hs oO) _
theorem lU {f off:Nat} {a:Addr} (hx:ev N ρ x= .pointer (some a)) (hs:a.spot=none) (hf:oB P t f=some off) (h:K (.pointer (some (a.add off)))):
  mx P N ρ ⟨d,.fieldAddr t x f,ty,pos,aft,g⟩ K:=by
 obtain⟨b,o,s⟩:=a;subst hs;rw[add_lit]at h;exact lD hx hf h
theorem lV {α:Type} {enc:α->List Value} {size:Nat} {L:List α} {i off m:Nat} {agg:Bool} {zz:List Value} {vs:Value} (dd:α) (hx:ev N ρ x= .pointer (some (((t6 vs).add (i*size)).add off))) (ht:mf P t=some (m,agg,zz))
  (hS:Sl enc size w vs L) (hu:∀x,(enc x).length=size) (hs:0<size) (hi:i<L.length) (hn:(((enc (L.getD i dd)).drop off).take m).length=m) (hv:QW agg (((enc (L.getD i dd)).drop off).take m)=v) (hagg:agg=true\/m=1)
  (h:K v):rD P N ρ w ⟨d,.load t x,ty,pos,aft,g⟩ K:=
 oW hx ht (At.sub (lG hS hu hs hi) (hS.at hi dd) off m) hn hv hagg h
end
open Go
def lN (b:Nat):List Nat->Nat
 | []=>0
 |d::l=>d+b*lN b l
def ub (b n:Nat):List Nat:=
 if _h:n=0\/b<2 then []else n%b::ub b (n/b)
termination_by n
decreasing_by
  have h1 : n ≠ 0 := fun e => _h (.inl e)
  exact j7 (by omega) (by omega)
theorem n6 (b:Nat):ub b 0=[]:=by rw[ub];simp
theorem vu {b n:Nat} (hb:2<=b) (hn:0<n):ub b n=n%b::ub b (n/b):=by
 rw[ub,dif_neg oO]
theorem sS {b:Nat} (hb:2<=b) (n:Nat):lN b (ub b n)=n:=by
 induction n using Nat.strongRecOn with
 |_ n ih=>
  rcases df n with rfl|hn
  ·rw[n6];rfl
  ·rw[vu hb hn,lN,ih _ (j7 hn oO)];exact fz n b
theorem zF {b:Nat} (hb:2<=b) (n:Nat):∀d∈ub b n,d<b:=by
 induction n using Nat.strongRecOn with
 |_ n ih=>
  rcases df n with rfl|hn
  ·rw[n6];intro d hd;cases hd
  ·rw[vu hb hn];intro d hd;rcases bM.1 hd with rfl|hd
   ·exact bl _ oO
   ·exact ih _ (j7 hn oO) d hd
theorem tT {b:Nat} (l:List Nat) (h:∀d∈l,d<b):lN b l<b^l.length:=by
 induction l with
 |nil=>simp[lN]
 |cons d l ih=>
  have h1:=ih (λx hx=>h x (aJ _ hx));have h2:=h d (aH ..);rw[lN,aZ,bC,bF (b^l.length) b];have:b*(lN b l+1)<=b*b^l.length:=bA _ h1;rw[aV]at this;omega
theorem sM (b:Nat) (l m:List Nat):lN b (l++m)=lN b l+b^l.length*lN b m:=by
 induction l with
 |nil=>simp[lN]
 |cons d l ih=>
  rw[bY,lN,ih,lN,aZ,bC,aV,bF (b^l.length) b,ba,dR]
theorem ze (b n:Nat):lN b (List.replicate n 0)=0:=by
 induction n with
 |zero=>rfl
 |succ n ih=>rw[fW,lN,ih];simp
def trimmed (l:List Nat):Prop:=l.getLast?≠some 0
theorem si {b:Nat} (hb:2<=b):∀(l:List Nat),trimmed l->l≠ []->0<lN b l
 | [],_,h=>absurd rfl h
 | [d],h,_=>by
  simp only[trimmed,List.getLast?_singleton,ne_eq,gD]at h;simp only[lN];omega
 |d::e::l,h,_=>by
  have h':trimmed (e::l):=by simpa[trimmed,List.getLast?_cons_cons]using h
  have:=si hb (e::l) h' (by simp);rw[lN];have:0<b*lN b (e::l):=dH oO this;omega
theorem wT {b:Nat} (hb:2<=b):∀(l:List Nat),(∀d∈l,d<b)->trimmed l->ub b (lN b l)=l
 | [],_,_=>by rw[lN,n6]
 |d::l,h,ht=>by
  have hd:=h d (aH ..);have hpos:=si hb (d::l) ht (by simp);have hl:trimmed l:=by
   cases l with
   |nil=>simp[trimmed]
   |cons e l=>simpa[trimmed,List.getLast?_cons_cons]using ht
  rw[vu hb hpos,lN];have h1:(d+b*lN b l)%b=d:=by rw[eO];exact aW hd
  have h2:(d+b*lN b l)/b=lN b l:=by
   rw[db _ _ oO,bU hd,bX]
  rw[h1,h2,wT hb l (λx hx=>h x (aJ _ hx)) hl]
theorem wk {b:Nat} (hb:2<=b) (l:List Nat) (n:Nat) (h:∀d∈l,d<b) (hn:n<=l.length) (hz:∀i,n<=i->i<l.length->l.getD i 0=0) (hl:n=0\/l.getD (n-1) 0≠0):
  l.take n=ub b (lN b l):=by
 have hsplit:l=l.take n++List.replicate (l.length-n) 0:=by
  conv=>lhs;rw[<-dc n l]
  congr 1;apply fm
  ·simp
  ·intro i h1 h2;simp only[List.getElem_drop,List.getElem_replicate];have:=hz (n+i) oO (by simp at h1;omega);rwa[ak,aF (by simp at h1;omega)]at this
 have hv:lN b l=lN b (l.take n):=by
  conv=>lhs;rw[hsplit]
  rw[sM,ze];simp
 rw[hv,wT hb _ (λd hd=>h d (gT hd))];unfold trimmed;rcases hl with rfl|hl
 ·simp
 ·rcases df n with rfl|hp
  ·simp
  ·rw[List.getLast?_eq_getElem?,dm,gX hn,jI,aj oO];intro h0;rw[ak,h0]at hl;exact hl rfl
theorem qq {b:Nat} (hb:2<=b):∀(k n:Nat),n<b^k->(ub b n).length<=k:=by
 intro k;induction k with
 |zero=>intro n hn;simp at hn;subst hn;rw[n6];simp
 |succ k ih=>
  intro n hn;rcases df n with rfl|hp
  ·rw[n6];simp
  ·rw[vu hb hp,aZ];have:=ih (n/b) (by rw[iY oO];rw[bC]at hn;exact hn);omega
theorem nt {b:Nat} (hb:2<=b) (n:Nat):n<b^(ub b n).length:=by
 have:=tT (ub b n) (zF hb n);rwa[sS hb]at this
theorem oa {b m n:Nat} (hb:2<=b) (h:m<=n):(ub b m).length<=(ub b n).length:=
 qq hb _ _ (bZ h (nt hb n))
theorem sj {b n k:Nat} (hb:2<=b) (h:k<(ub b n).length):b^k<=n:=by
 rcases bH n (b^k)with h1|h1
 ·have:=qq hb k n h1;omega
 ·exact h1
theorem Bn {b n:Nat} (hb:2<=b):ub b n=[]↔n=0:=by
 constructor
 ·intro h;have:=sS hb n;rw[h]at this;exact this.symm
 ·rintro rfl;exact n6 b
def oY (s:ByteArray):List Nat:=s.data.toList.map UInt8.toNat
def val (s:ByteArray):Nat:=lN 256 (oY s).reverse
def kQ (n:Nat):ByteArray:=zC (ub 256 n).reverse
theorem xB (l:List Nat) (h:∀d∈l,d<256):oY (zC l)=l:=by
 unfold oY zC;simp only[iS];conv=>rhs;rw[<-List.map_id l]
 apply fX;intro d hd;simp only[Function.comp,id];rw[UInt8.toNat_ofNat'];exact aW (h d hd)
theorem HN (s:ByteArray):zC (oY s)=s:=by
 cases s with
 |mk a=>
  unfold oY zC;simp only[iS];congr 1;apply Array.ext';simp only;conv=>rhs;rw[<-List.map_id a.toList]
  apply fX;intro x _;simp
theorem AX (s:ByteArray):∀d∈oY s,d<256:=by
 intro d hd;obtain⟨x,_,rfl⟩:=ca.1 hd;exact x.toNat_lt
theorem qa (s:ByteArray):(oY s).length=s.size:=by unfold oY;rw[bj,fZ];rfl
theorem lF (n:Nat):val (kQ n)=n:=by
 unfold val kQ;rw[xB _ (λd hd=>zF dD n d (dW.1 hd)),gS,sS dD]
theorem DI {m n:Nat} (h:kQ m=kQ n):m=n:=by rw[<-lF m,h,lF]
theorem PC (l:List Nat) (h:∀d∈l,d<256):val (zC l)=lN 256 l.reverse:=by unfold val;rw[xB l h]
theorem sI (n:Nat):(kQ n).size=(ub 256 n).length:=by
 rw[<-qa,kQ,xB _ (λd hd=>zF dD n d (dW.1 hd)),fF]
theorem Fb (s:ByteArray):val s<256^s.size:=by
 have:=tT (b:=256) (oY s).reverse (λd hd=>AX s d (dW.1 hd));rwa[fF,qa]at this
theorem qz (s:ByteArray):(kQ (val s)).size<=s.size:=by rw[sI];exact qq dD _ _ (Fb s)
theorem Ev:kQ 0=ByteArray.empty:=by unfold kQ;rw[n6];rfl
theorem D3 {n:Nat}:kQ n=ByteArray.empty↔n=0:=by
 rw[<-Ev];exact⟨λh=>DI h,λh=>by rw[h]⟩
theorem xg:kQ 1=⟨#[1]⟩:=by
 unfold kQ;rw[vu dD dD,show 1/256=0 from rfl,n6];rfl
abbrev km:Nat:=4294967296
def kY (n:Nat):List Nat:=ub km n
theorem lK {n k:Nat} (h:n<256^k):(kQ n).size<=k:=by rw[sI];exact qq dD _ _ h
theorem qG (n:Nat):n<256^(kQ n).size:=by rw[sI];exact nt dD n
theorem me {m n:Nat} (h:m<=n):(kQ m).size<=(kQ n).size:=lK (bZ h (qG n))
theorem lY (m n:Nat):(kQ (m*n)).size<=(kQ m).size+(kQ n).size:=by
 refine lK ?_;rw[dA];have h1:=qG m;have h2:=qG n;exact ie h1 (fU h2) (bZ (aw _) h2)
theorem uz (m n:Nat):(kQ (m+n)).size<=max (kQ m).size (kQ n).size+1:=by
 refine lK ?_;have h1:m<256^max (kQ m).size (kQ n).size:=dq (qG m) (bJ dD (Nat.le_max_left _ _));have h2:n<256^max (kQ m).size (kQ n).size:=dq (qG n) (bJ dD (j0 _ _));rw[bC];omega
theorem qd:(kQ 1).size=1:=by rw[xg];rfl
theorem uB {n:Nat} (h:0<n):1<=(kQ n).size:=by
 have:=me (m:=1) (n:=n) h;rwa[qd]at this
theorem yB:val ⟨#[1]⟩=1:=by rw[<-xg,lF]
theorem oA {n:Nat}:kQ n=⟨#[]⟩↔n=0:=D3
theorem QU:val ⟨#[]⟩=0:=rfl
structure RR where
 neg:Bool
 num:ByteArray
 den:ByteArray
 deriving DecidableEq
def ke (r:RR):List Value:=[.bool r.neg,.string r.num,.string r.den]
def lC (r:RR):Value:= .agg #[.bool r.neg,.string r.num,.string r.den]
theorem kA:∀r,(ke r).length=3:=λ_=>rfl
def sg (b:Bool) (n:Nat):Int:=if b then-(n:Int)else n
theorem Ei (b:Bool) (n:Nat):(sg b n).natAbs=n:=by unfold sg;split<;>simp
def ki (q:Rat):RR:=⟨decide (q.num<0),kQ q.num.natAbs,if q.den=1 then⟨#[]⟩else kQ q.den⟩
def dv (s:ByteArray):Nat:=if s=⟨#[]⟩then 1 else val s
def NB (r:RR):Rat:=mkRat (sg r.neg (val r.num)) (dv r.den)
def IN (r:RR):Prop:=ki (NB r)=r
instance (r:RR):Decidable (IN r):=inferInstanceAs (Decidable (ki (NB r)=r))
def toQ (r:RR):Rat:=if IN r then NB r else 0
def fx (r:RR):RR:=ki (toQ r)
theorem RP {d:Nat} (h:d≠0):dv (if d=1 then⟨#[]⟩else kQ d)=d:=by
 unfold dv;by_cases h1:d=1
 ·simp[h1]
 ·rw[ah h1,ah (by rw[oA];exact h),lF]
theorem Hm (q:Rat):NB (ki q)=q:=by
 unfold NB ki;simp only;rw[RP q.den_nz,lF];have:sg (decide (q.num<0)) q.num.natAbs=q.num:=by
  unfold sg;by_cases h:q.num<0<;>simp[h]<;>omega
 rw[this,eE]
theorem Km (q:Rat):IN (ki q):=by unfold IN;rw[Hm]
@[simp] theorem toQ_ofQ (q:Rat):toQ (ki q)=q:=by unfold toQ;rw[aj (Km q),Hm]
theorem Gu {r:RR} (h:IN r):ki (toQ r)=r:=by unfold toQ;rw[aj h];exact h
theorem Qq {r:RR} (h:IN r):fx r=r:=Gu h
theorem oD:ki 0=⟨false,⟨#[]⟩,⟨#[]⟩⟩:=by
 unfold ki;simp only[Rat.zero_num,Rat.zero_den,g9];rw[show(0:Int).natAbs=0 from rfl,oA.2 rfl];rfl
theorem Gx {r:RR} (h:¬IN r):toQ r=0:=by unfold toQ;rw[ah h]
theorem QD {r:RR} (h:¬IN r):fx r=⟨false,⟨#[]⟩,⟨#[]⟩⟩:=by unfold fx;rw[Gx h,oD]
theorem qo {q:Rat}:(ki q).num=⟨#[]⟩↔q=0:=by
 show kQ q.num.natAbs=_↔_;rw[oA,jK,fy]
theorem C4 {b:Bool} {n d:Nat} (hn:0<n) (hd:d≠0) (hc:Nat.gcd n d=1):ki (mkRat (sg b n) d)=⟨b,kQ n,if d=1 then⟨#[]⟩else kQ d⟩:=by
 have e:(⟨sg b n,d,hd,by rw[Ei];exact hc⟩:Rat)=mkRat (sg b n) d:=Rat.mk_eq_mkRat ..;rw[<-e];unfold ki;simp only[Ei];have:decide (sg b n<0)=b:=by
  unfold sg;cases b
  ·simp
  ·simp;omega
 rw[this]
theorem EP {b:Bool} {n d g:Nat} (hd:d≠0) (hg:g=Nat.gcd n d):mkRat (sg b n) d=mkRat (sg b (n/g)) (d/g):=by
 have hgp:0<g:=by rw[hg];exact iE _ oO
 have h1:g*(n/g)=n:=jC (by rw[hg];exact iK _ _);have h2:g*(d/g)=d:=jC (by rw[hg];exact fB _ _);have h3:sg b n=(g:Int)*sg b (n/g):=by
  unfold sg;have:((n:Nat):Int)=(g:Int)*((n/g:Nat):Int):=by exact_mod_cast h1.symm
  split
  ·rw[this,Int.mul_neg]
  ·exact this
 conv=>lhs;rw[h3,<-h2]
 exact Rat.mkRat_mul_left oO
theorem Mk (r:RR):IN r↔kQ (val r.num)=r.num/\kQ (val r.den)=r.den/\
  (r.num=⟨#[]⟩->r.neg=false/\r.den=⟨#[]⟩)/\(r.num≠⟨#[]⟩->r.den=⟨#[]⟩\/(r.den≠⟨#[1]⟩/\Nat.gcd (val r.num) (val r.den)=1)):=by
 constructor
 ·intro h;obtain⟨q,rfl⟩:∃q,r=ki q:=⟨_,h.symm⟩;have hnum:val (ki q).num=q.num.natAbs:=lF _;refine⟨by rw[hnum];rfl,?_,?_,?_⟩
  ·show kQ (val (if q.den=1 then _ else _))=if q.den=1 then _ else _
   split
   ·rw[QU];exact oA.2 rfl
   ·rw[lF]
  ·intro h0;have:q=0:=qo.1 h0;subst this;rw[oD];exact⟨rfl,rfl⟩
  ·intro h0;by_cases h1:q.den=1
   ·left;show(if q.den=1 then _ else _)=_;rw[aj h1]
   ·right;have hden:(ki q).den=kQ q.den:=by show(if q.den=1 then _ else _)=_;rw[ah h1]
    rw[hnum,hden,lF];exact⟨λh2=>h1 (by rw[<-lF q.den,h2,yB]),q.reduced⟩
 ·rintro⟨h1,h2,h3,h4⟩;by_cases h0:r.num=⟨#[]⟩
  ·obtain⟨g1,g2⟩:=h3 h0;have:r=ki 0:=by rw[oD];cases r;simp_all
   rw[this];exact Km 0
  ·have hn:0<val r.num:=by
    rcases df (val r.num)with g|g
    ·rw[g,oA.2 rfl]at h1;exact absurd h1.symm h0
    ·exact g
   unfold IN NB;rcases h4 h0 with g|⟨g1,g2⟩
   ·have hd:dv r.den=1:=by unfold dv;rw[aj g]
    rw[hd,C4 hn dD (jR _),aj rfl,h1];cases r;simp_all
   ·by_cases hd0:r.den=⟨#[]⟩
    ·have hd:dv r.den=1:=by unfold dv;rw[aj hd0]
     rw[hd,C4 hn dD (jR _),aj rfl,h1];cases r;simp_all
    ·have hd:dv r.den=val r.den:=by unfold dv;rw[ah hd0]
     have hdn:val r.den≠0:=λg=>by rw[g,oA.2 rfl]at h2;exact hd0 h2.symm
     have hd1:val r.den≠1:=λg=>by rw[g,xg]at h2;exact g1 h2.symm
     rw[hd,C4 hn hdn g2,ah hd1,h1,h2]
def L (q:Rat):Nat:=max (kQ q.num.natAbs).size (kQ q.den).size
def Lr (r:RR):Nat:=max 1 (max r.num.size r.den.size)
theorem Vv (q:Rat):1<=L q:=cQ (uB (Nat.pos_of_ne_zero q.den_nz)) (j0 _ _)
theorem uf (q:Rat):(kQ q.num.natAbs).size<=L q:=Nat.le_max_left _ _
theorem tB (q:Rat):(kQ q.den).size<=L q:=j0 _ _
@[simp] theorem Lr_ofQ (q:Rat):Lr (ki q)=L q:=by
 unfold Lr L ki;simp only;have h1:=uB (Nat.pos_of_ne_zero q.den_nz);by_cases h:q.den=1
 ·rw[aj h,h,qd];show max 1 (max _ 0)=_;omega
 ·rw[ah h];omega
theorem oz:L 0=1:=by
 unfold L;rw[Rat.zero_num,Rat.zero_den,qd,show(0:Int).natAbs=0 from rfl,oA.2 rfl];rfl
theorem Tz (r:RR):1<=Lr r:=by unfold Lr;omega
theorem uM (r:RR):L (toQ r)<=Lr r:=by
 by_cases h:IN r
 ·rw[<-Lr_ofQ,Gu h];exact aB _
 ·rw[Gx h,oz];exact Tz r
theorem A4 (r:RR):r.num.size<=Lr r:=by unfold Lr;omega
theorem A9 (r:RR):r.den.size<=Lr r:=by unfold Lr;omega
theorem B8 (n:Int) {d:Nat} (hd:d≠0) {k:Nat} (h1:(kQ n.natAbs).size<=k) (h2:(kQ d).size<=k):L (mkRat n d)<=k:=by
 have e1:(mkRat n d).num.natAbs<=n.natAbs:=by
  rw[Rat.num_mkRat,ah hd,Int.natAbs_ediv_of_dvd]
  ·exact dx _ _
  ·exact Int.dvd_natAbs.1 (Int.natCast_dvd_natCast.2 (fB _ _))
 have e2:(mkRat n d).den<=d:=by rw[Rat.den_mkRat,ah hd];exact dx _ _
 unfold L;have:=me e1;have:=me e2;omega
theorem yr (p q:Rat):L (p*q)<=L p+L q:=by
 rw[Rat.mul_def'];refine B8 _ (gf p.den_nz q.den_nz) ?_ ?_
 ·rw[jk];have:=lY p.num.natAbs q.num.natAbs;have:=uf p;have:=uf q;omega
 ·have:=lY p.den q.den;have:=tB p;have:=tB q;omega
theorem Bi (p q:Rat):L (p+q)<=L p+L q+1:=by
 rw[Rat.add_def'];have a1:=uf p;have a2:=uf q;have a3:=tB p;have a4:=tB q;refine B8 _ (gf p.den_nz q.den_nz) ?_ ?_
 ·have h:(p.num*q.den+q.num*p.den).natAbs<=p.num.natAbs*q.den+q.num.natAbs*p.den:=by
   refine cQ (Int.natAbs_add_le _ _) ?_;rw[jk,jk,fN,fN];exact aB _
  have h1:=me h;have h2:=uz (p.num.natAbs*q.den) (q.num.natAbs*p.den);have h3:=lY p.num.natAbs q.den;have h4:=lY q.num.natAbs p.den;omega
 ·have:=lY p.den q.den;omega
theorem Cs (q:Rat):L (-q)=L q:=by unfold L;rw[Rat.neg_num,Rat.neg_den,Int.natAbs_neg]
theorem tC (p q:Rat):L (p-q)<=L p+L q+1:=by rw[ib,<-Cs q];exact Bi p (-q)
theorem VU (q:Rat):L q⁻¹<=L q:=by
 by_cases h:q.num=0
 ·rw[fy.1 h,Rat.inv_zero];exact aB _
 ·unfold L;rw[Rat.num_inv,Rat.den_inv,ah h,jk,fN];have:q.num.sign.natAbs=1:=by rw[Int.natAbs_sign];simp[h]
  rw[this,dG,Nat.max_comm];exact aB _
theorem zk (p q:Rat):L (p/q)<=L p+L q:=by
 rw[bT];have:=yr p q⁻¹;have:=VU q;omega
theorem Wq {q:Rat} {k:Nat} (h1:q.num.natAbs<256^k) (h2:q.den<256^k):L q<=k:=by
 unfold L;have:=lK h1;have:=lK h2;omega
theorem Hd:L 1=1:=by
 have h1:L 1<=1:=Wq dD dD;have:=Vv 1;omega
theorem Wg (n:Int) {k:Nat} (h:n.natAbs<256^k) (hk:1<=k):L (n:Rat)<=k:=by
 refine Wq (by rw[Rat.num_intCast];exact h) ?_;rw[Rat.den_intCast];have:256^1<=256^k:=bJ dD hk;omega
def qW (q:Rat):Int:=if q.num=0 then 0 else if q.num<0 then-1 else 1
def tk (p q:Rat):Int:=if p<q then-1 else if q<p then 1 else 0
theorem RF {q:Rat}:q.num<0↔q<0:=by
 have:=Rat.lt_iff q 0;simp only[Rat.zero_num,Rat.zero_den,Int.zero_mul]at this;simpa using this.symm
theorem xd {q:Rat}:qW q<0↔q<0:=by
 rw[<-RF];unfold qW;split<;>(try split)<;>omega
theorem ve {q:Rat}:qW q=0↔q=0:=by
 rw[<-fy];unfold qW;split<;>(try split)<;>omega
theorem nX {q:Rat}:0<qW q↔0<q:=by
 have h1:=xd (q:=q);have h2:=ve (q:=q);constructor
 ·intro h;rcases jB.1 (gk.1 (λg=>by have:=h1.2 g;omega:¬q<0))with g|g
  ·exact g
  ·exfalso;have:=h2.2 g.symm;omega
 ·intro h;have g1:¬qW q<0:=λg=>dy (a:=(0:Rat)) (by have:=h1.1 g;grind);have g2:¬qW q=0:=λg=>by have:=h2.1 g;rw[this]at h;exact dy h
  omega
theorem Dx (q:Rat):qW q= -1\/qW q=0\/qW q=1:=by unfold qW;split<;>(try split)<;>simp
theorem Le {p q:Rat} (h:p<q):tk p q= -1:=by unfold tk;rw[aj h]
theorem Me {p q:Rat} (h:q<p):tk p q=1:=by unfold tk;rw[ah (by grind),aj h]
theorem KQ {p:Rat}:tk p p=0:=by unfold tk;rw[ah dy,ah dy]
theorem t9 (p q:Rat):(p<q/\tk p q= -1)\/(p=q/\tk p q=0)\/(q<p/\tk p q=1):=by
 rcases Rat.le_total (a:=p) (b:=q)with h|h
 ·rcases jB.1 h with g|g
  ·exact .inl ⟨g,Le g⟩
  ·subst g;exact .inr (.inl ⟨rfl,KQ⟩)
 ·rcases jB.1 h with g|g
  ·exact .inr (.inr ⟨g,Me g⟩)
  ·subst g;exact .inr (.inl ⟨rfl,KQ⟩)
theorem Dm {p q:Rat}:tk p q<0↔p<q:=by
 rcases t9 p q with⟨h,e⟩|⟨h,e⟩|⟨h,e⟩<;>rw[e]
 ·exact⟨λ_=>h,λ_=>dD⟩
 ·subst h;exact⟨λh=>absurd h dD,λh=>absurd h dy⟩
 ·exact⟨λh=>absurd h dD,λg=>absurd g (by grind)⟩
theorem NM {p q:Rat}:0<tk p q↔q<p:=by
 rcases t9 p q with⟨h,e⟩|⟨h,e⟩|⟨h,e⟩<;>rw[e]
 ·exact⟨λh=>absurd h dD,λg=>absurd g (by grind)⟩
 ·subst h;exact⟨λh=>absurd h dD,λh=>absurd h dy⟩
 ·exact⟨λ_=>h,λ_=>dD⟩
theorem Ku {p q:Rat}:tk p q<=0↔p<=q:=by rw[<-Int.not_lt,NM,gk]
theorem KF {p q:Rat}:0<=tk p q↔q<=p:=by rw[<-Int.not_lt,Dm,gk]
theorem C3 (q:Rat):sg (decide (q.num<0)) q.num.natAbs=q.num:=by
 unfold sg;by_cases h:q.num<0<;>simp[h]<;>omega
theorem Hk (q:Rat):mkRat (sg (decide (q.num<0)) q.num.natAbs) q.den=q:=by rw[C3,eE]
theorem yV (q:Rat) {e:Nat} (he:e≠0):mkRat (sg (decide (q.num<0)) (q.num.natAbs*e)) (q.den*e)=q:=by
 have h:sg (decide (q.num<0)) (q.num.natAbs*e)=q.num*(e:Int):=by
  conv=>rhs;rw[<-C3 q]
  unfold sg;split
  ·rw[gZ,j2]
  ·rw[gZ]
 rw[h,jA he,eE]
theorem Ds (a b:Int) {D:Nat} (hD:D≠0):mkRat a D+mkRat b D=mkRat (a+b) D:=by
 rw[Rat.mkRat_add_mkRat _ _ hD hD,<-Int.add_mul,jA hD]
theorem TS (b:Bool) (X Y:Nat):sg b X+sg b Y=sg b (X+Y):=by unfold sg;split<;>(push_cast;omega)
theorem UQ {b c:Bool} (h:b≠c) {X Y:Nat} (hle:Y<=X):sg b X+sg c Y=sg b (X-Y):=by
 cases b<;>cases c<;>first|exact absurd rfl h|(simp[sg];omega)
theorem SB {b c:Bool} (h:b≠c) {X Y:Nat} (hle:X<=Y):sg b X+sg c Y=sg c (Y-X):=by
 cases b<;>cases c<;>first|exact absurd rfl h|(simp[sg];omega)
theorem A6 {p q:Rat}:(ki p).den=(ki q).den↔p.den=q.den:=by
 show(if p.den=1 then _ else _)=(if q.den=1 then _ else _)↔_;have h1:∀(d:Nat),d≠0->kQ d≠⟨#[]⟩:=λd hd h=>hd (oA.1 h);by_cases hp:p.den=1
 ·by_cases hq:q.den=1
  ·simp[hp,hq]
  ·rw[aj hp,ah hq];exact⟨λh=>absurd h.symm (h1 _ q.den_nz),λh=>absurd (h.symm.trans hp) hq⟩
 ·by_cases hq:q.den=1
  ·rw[ah hp,aj hq];exact⟨λh=>absurd h (h1 _ p.den_nz),λh=>absurd (h.trans hq) hp⟩
  ·rw[ah hp,ah hq];exact⟨λh=>DI h,λh=>by rw[h]⟩
end Go.Sx
namespace Go.Proofs.YtoeiejliehgopaaGreatDoor
open Go Go.Sx
theorem mR:mf Tryz.prog 3=some (1,false,[.int .i64 0]):=by kernel_rfl
theorem qB:mf Tryz.prog 4=some (1,false,[.bool false]):=by kernel_rfl
theorem WY:mf Tryz.prog 5=some (1,false,[.int .u8 0]):=by kernel_rfl
theorem qQ:mf Tryz.prog 9=some (1,false,[.string ⟨#[]⟩]):=by kernel_rfl
theorem VK:sinfo Tryz.prog 22=some (25,1,2,[.int .u16 0]):=by kernel_rfl
theorem Vl:sinfo Tryz.prog 23=some (69,4,8,[.int .u16 0,.int .u16 0,.int .u16 0,.int .u16 0]):=by kernel_rfl
theorem SV:sinfo Tryz.prog 24=some (70,3,6,[.int .u16 0,.int .u16 0,.int .u16 0]):=by kernel_rfl
theorem pZ:mf Tryz.prog 25=some (1,false,[.int .u16 0]):=by kernel_rfl
theorem nW:sinfo Tryz.prog 26=some (51,5,88,[.bool false,.string ⟨#[]⟩,.string ⟨#[]⟩,.slice none 0 0,.slice none 0 0]):=by kernel_rfl
theorem ng:mf Tryz.prog 26=some (1,false,[.slice none 0 0]):=by kernel_rfl
theorem rH:sinfo Tryz.prog 27=some (64,4,64,[.bool false,.string ⟨#[]⟩,.string ⟨#[]⟩,.slice none 0 0]):=by kernel_rfl
theorem qm:mf Tryz.prog 27=some (1,false,[.slice none 0 0]):=by kernel_rfl
theorem uX:mf Tryz.prog 29=some (2,true,[.slice none 0 0,.slice none 0 0]):=by kernel_rfl
theorem qA:oB Tryz.prog 29 0=some 0:=by kernel_rfl
theorem vO:oB Tryz.prog 29 1=some 1:=by kernel_rfl
theorem VE:Tryz.prog.built 29 []=some #[.slice none 0 0,.slice none 0 0]:=by kernel_rfl
theorem kt:mf Tryz.prog 32=some (3,true,[.bool false,.string ⟨#[]⟩,.string ⟨#[]⟩]):=by kernel_rfl
theorem wm:oB Tryz.prog 32 0=some 0:=by kernel_rfl
theorem zY:oB Tryz.prog 32 1=some 1:=by kernel_rfl
theorem ol:oB Tryz.prog 32 2=some 2:=by kernel_rfl
theorem pM:Tryz.prog.built 32 []=some #[.bool false,.string ⟨#[]⟩,.string ⟨#[]⟩]:=by kernel_rfl
theorem kW:sinfo Tryz.prog 34=some (32,3,40,[.bool false,.string ⟨#[]⟩,.string ⟨#[]⟩]):=by kernel_rfl
theorem md:mf Tryz.prog 34=some (1,false,[.slice none 0 0]):=by kernel_rfl
theorem lS:sinfo Tryz.prog 35=some (34,1,24,[.slice none 0 0]):=by kernel_rfl
theorem pz:mf Tryz.prog 35=some (1,false,[.slice none 0 0]):=by kernel_rfl
theorem qx:sinfo Tryz.prog 36=some (4,1,1,[.bool false]):=by kernel_rfl
theorem wX:mf Tryz.prog 36=some (1,false,[.slice none 0 0]):=by kernel_rfl
theorem wV:mf Tryz.prog 38=some (8,true,[.slice none 0 0,.slice none 0 0,.slice none 0 0,.slice none 0 0,.slice none 0 0,.slice none 0 0,.slice none 0 0,.slice none 0 0]):=by kernel_rfl
theorem BO:oB Tryz.prog 38 0=some 0:=by kernel_rfl
theorem Kz:oB Tryz.prog 38 1=some 1:=by kernel_rfl
theorem KJ:oB Tryz.prog 38 2=some 2:=by kernel_rfl
theorem Ke:oB Tryz.prog 38 3=some 3:=by kernel_rfl
theorem sL:oB Tryz.prog 38 4=some 4:=by kernel_rfl
theorem K1:oB Tryz.prog 38 5=some 5:=by kernel_rfl
theorem KS:oB Tryz.prog 38 6=some 6:=by kernel_rfl
theorem Kd:oB Tryz.prog 38 7=some 7:=by kernel_rfl
theorem p7:sinfo Tryz.prog 46=some (3,1,8,[.int .i64 0]):=by kernel_rfl
theorem A5:mf Tryz.prog 46=some (1,false,[.slice none 0 0]):=by kernel_rfl
theorem pG:sinfo Tryz.prog 48=some (53,5,56,[.int .i64 0,.int .i64 0,.bool false,.string ⟨#[]⟩,.string ⟨#[]⟩]):=by kernel_rfl
theorem nY:mf Tryz.prog 48=some (1,false,[.slice none 0 0]):=by kernel_rfl
theorem E3:sinfo Tryz.prog 49=some (82,1,24,[.slice none 0 0]):=by kernel_rfl
theorem u3:mf Tryz.prog 49=some (1,false,[.slice none 0 0]):=by kernel_rfl
theorem ua:mf Tryz.prog 51=some (5,true,[.bool false,.string ⟨#[]⟩,.string ⟨#[]⟩,.slice none 0 0,.slice none 0 0]):=by kernel_rfl
theorem Gk:oB Tryz.prog 51 0=some 0:=by kernel_rfl
theorem mS:oB Tryz.prog 51 1=some 3:=by kernel_rfl
theorem zy:oB Tryz.prog 51 2=some 4:=by kernel_rfl
theorem Wm:Tryz.prog.built 51 []=some #[.bool false,.string ⟨#[]⟩,.string ⟨#[]⟩,.slice none 0 0,.slice none 0 0]:=by kernel_rfl
theorem rO:mf Tryz.prog 53=some (5,true,[.int .i64 0,.int .i64 0,.bool false,.string ⟨#[]⟩,.string ⟨#[]⟩]):=by kernel_rfl
theorem sK:oB Tryz.prog 53 0=some 0:=by kernel_rfl
theorem BA:oB Tryz.prog 53 1=some 1:=by kernel_rfl
theorem FW:oB Tryz.prog 53 2=some 2:=by kernel_rfl
theorem nV:sinfo Tryz.prog 62=some (66,2,16,[.int .i64 0,.int .i64 0]):=by kernel_rfl
theorem pD:mf Tryz.prog 62=some (1,false,[.slice none 0 0]):=by kernel_rfl
theorem tA:mf Tryz.prog 64=some (4,true,[.bool false,.string ⟨#[]⟩,.string ⟨#[]⟩,.slice none 0 0]):=by kernel_rfl
theorem Ge:oB Tryz.prog 64 0=some 0:=by kernel_rfl
theorem pm:oB Tryz.prog 64 1=some 3:=by kernel_rfl
theorem p8:mf Tryz.prog 66=some (2,true,[.int .i64 0,.int .i64 0]):=by kernel_rfl
theorem qh:oB Tryz.prog 66 0=some 0:=by kernel_rfl
theorem qE:oB Tryz.prog 66 1=some 1:=by kernel_rfl
theorem zH:mf Tryz.prog 69=some (4,true,[.int .u16 0,.int .u16 0,.int .u16 0,.int .u16 0]):=by kernel_rfl
theorem ym:mf Tryz.prog 70=some (3,true,[.int .u16 0,.int .u16 0,.int .u16 0]):=by kernel_rfl
theorem yi:sinfo Tryz.prog 80=some (83,1,24,[.slice none 0 0]):=by kernel_rfl
theorem y3:mf Tryz.prog 80=some (1,false,[.slice none 0 0]):=by kernel_rfl
theorem xi:mf Tryz.prog 82=some (1,true,[.slice none 0 0]):=by kernel_rfl
theorem Gg:oB Tryz.prog 82 0=some 0:=by kernel_rfl
theorem wC:sinfo Tryz.prog 83=some (85,5,56,[.int .i64 0,.bool false,.bool false,.string ⟨#[]⟩,.string ⟨#[]⟩]):=by kernel_rfl
theorem y8:mf Tryz.prog 83=some (1,false,[.slice none 0 0]):=by kernel_rfl
theorem wD:mf Tryz.prog 85=some (5,true,[.int .i64 0,.bool false,.bool false,.string ⟨#[]⟩,.string ⟨#[]⟩]):=by kernel_rfl
theorem xQ:oB Tryz.prog 85 0=some 0:=by kernel_rfl
theorem F5:oB Tryz.prog 85 1=some 1:=by kernel_rfl
theorem B9:oB Tryz.prog 85 2=some 2:=by kernel_rfl
theorem Ca:sinfo Tryz.prog 104=some (112,6,96,[.int .i64 0,.slice none 0 0,.slice none 0 0,.bool false,.string ⟨#[]⟩,.string ⟨#[]⟩]):=by kernel_rfl
theorem rC:mf Tryz.prog 104=some (1,false,[.slice none 0 0]):=by kernel_rfl
theorem FD:sinfo Tryz.prog 105=some (36,1,24,[.slice none 0 0]):=by kernel_rfl
theorem uL:mf Tryz.prog 105=some (1,false,[.slice none 0 0]):=by kernel_rfl
theorem It:oB Tryz.prog 107 0=some 0:=by kernel_rfl
theorem G5:oB Tryz.prog 107 1=some 2:=by kernel_rfl
theorem CU:oB Tryz.prog 107 2=some 3:=by kernel_rfl
theorem sG:sinfo Tryz.prog 109=some (157,4,64,[.slice none 0 0,.bool false,.string ⟨#[]⟩,.string ⟨#[]⟩]):=by kernel_rfl
theorem ud:mf Tryz.prog 109=some (1,false,[.slice none 0 0]):=by kernel_rfl
theorem Ay:sinfo Tryz.prog 110=some (160,2,48,[.slice none 0 0,.slice none 0 0]):=by kernel_rfl
theorem wy:mf Tryz.prog 110=some (1,false,[.slice none 0 0]):=by kernel_rfl
theorem po:mf Tryz.prog 112=some (6,true,[.int .i64 0,.slice none 0 0,.slice none 0 0,.bool false,.string ⟨#[]⟩,.string ⟨#[]⟩]):=by kernel_rfl
theorem Ix:oB Tryz.prog 112 0=some 0:=by kernel_rfl
theorem H2:oB Tryz.prog 112 1=some 1:=by kernel_rfl
theorem Hg:oB Tryz.prog 112 2=some 2:=by kernel_rfl
theorem HQ:oB Tryz.prog 112 3=some 3:=by kernel_rfl
theorem t8:mf Tryz.prog 123=some (2,true,[.slice none 0 0,.slice none 0 0]):=by kernel_rfl
theorem HA:oB Tryz.prog 123 0=some 0:=by kernel_rfl
theorem H9:oB Tryz.prog 123 1=some 1:=by kernel_rfl
theorem lZ:sinfo Tryz.prog 138=some (141,1,4,[.int .u32 0]):=by kernel_rfl
theorem lI:sinfo Tryz.prog 139=some (141,1,4,[.int .u32 0]):=by kernel_rfl
theorem kV:mf Tryz.prog 141=some (1,false,[.int .u32 0]):=by kernel_rfl
theorem GE:sinfo Tryz.prog 155=some (207,4,48,[.int .i64 0,.bool false,.string ⟨#[]⟩,.string ⟨#[]⟩]):=by kernel_rfl
theorem uC:mf Tryz.prog 155=some (1,false,[.slice none 0 0]):=by kernel_rfl
theorem tq:mf Tryz.prog 157=some (4,true,[.slice none 0 0,.bool false,.string ⟨#[]⟩,.string ⟨#[]⟩]):=by kernel_rfl
theorem Io:oB Tryz.prog 157 0=some 0:=by kernel_rfl
theorem Cb:oB Tryz.prog 157 1=some 1:=by kernel_rfl
theorem ri:mf Tryz.prog 160=some (2,true,[.slice none 0 0,.slice none 0 0]):=by kernel_rfl
theorem Ih:oB Tryz.prog 160 0=some 0:=by kernel_rfl
theorem Dz:oB Tryz.prog 160 1=some 1:=by kernel_rfl
theorem Ie:oB Tryz.prog 167 0=some 0:=by kernel_rfl
theorem Ig:oB Tryz.prog 167 1=some 1:=by kernel_rfl
theorem Dl:sinfo Tryz.prog 189=some (5,1,1,[.int .u8 0]):=by kernel_rfl
theorem uI:mf Tryz.prog 207=some (4,true,[.int .i64 0,.bool false,.string ⟨#[]⟩,.string ⟨#[]⟩]):=by kernel_rfl
theorem Is:oB Tryz.prog 207 0=some 0:=by kernel_rfl
theorem Hr:oB Tryz.prog 207 1=some 1:=by kernel_rfl
theorem rZ:sinfo Tryz.prog 218=some (220,1,24,[.slice none 0 0]):=by kernel_rfl
theorem r5:sinfo Tryz.prog 220=some (223,2,24,[.bool false,.string ⟨#[]⟩]):=by kernel_rfl
theorem sk:mf Tryz.prog 220=some (1,false,[.slice none 0 0]):=by kernel_rfl
theorem pu:mf Tryz.prog 223=some (2,true,[.bool false,.string ⟨#[]⟩]):=by kernel_rfl
theorem yY:oB Tryz.prog 223 0=some 0:=by kernel_rfl
theorem wZ:oB Tryz.prog 223 1=some 1:=by kernel_rfl
theorem UX:Tryz.prog.built 223 []=some #[.bool false,.string ⟨#[]⟩]:=by kernel_rfl
open Go Go.RowKit Go.Sx
theorem jp {P : Program} {N : Nat} {ρ : Nat → Value} {w : World} {ops : Array Oper} {d : Option Tmp} {p : Op} {ty : TypeId} {pos : String} {aft : Array Edge} {Q : Exit → Act → World → Prop} {rest : List Oper} (h : mx P N ρ ⟨d, p, ty, pos, aft, none⟩ fun v => wl P ops Q rest N (tm ρ d v) w) : wl P ops Q (⟨d, p, ty, pos, aft, none⟩ :: rest) N ρ w := ko rfl h
theorem jq {P : Program} {N : Nat} {ρ : Nat → Value} {w : World} {ops : Array Oper} {d : Option Tmp} {p : Op} {ty : TypeId} {pos : String} {aft : Array Edge} {Q : Exit → Act → World → Prop} {rest : List Oper} (h : rD P N ρ w ⟨d, p, ty, pos, aft, none⟩ fun v => wl P ops Q rest N (tm ρ d v) w) : wl P ops Q (⟨d, p, ty, pos, aft, none⟩ :: rest) N ρ w := lA rfl h
theorem jh {P : Program} {N : Nat} {ρ : Nat → Value} {w : World} {ops : Array Oper} {d : Option Tmp} {p : Op} {ty : TypeId} {pos : String} {aft : Array Edge} {Q : Exit → Act → World → Prop} {rest : List Oper} (h : pL P N ρ w ⟨d, p, ty, pos, aft, none⟩ fun v w' => wl P ops Q rest N (tm ρ d v) w') : wl P ops Q (⟨d, p, ty, pos, aft, none⟩ :: rest) N ρ w := oZ rfl h
theorem jl {P : Program} {N : Nat} {ρ : Nat → Value} {w : World} {ops : Array Oper} {d : Option Tmp} {p : Op} {ty : TypeId} {pos : String} {aft : Array Edge} {i : Nat} {σ : List (Nat × Md)} {Kend : Act → World → Prop} (ho : ops[i]? = some ⟨d, p, ty, pos, aft, none⟩) (h : mx P N ρ ⟨d, p, ty, pos, aft, none⟩ fun v => Wr P ops Kend σ N (tm ρ d v) w) : Wr P ops Kend ((i, .pure) :: σ) N ρ w := kL ho rfl h
theorem jm {P : Program} {N : Nat} {ρ : Nat → Value} {w : World} {ops : Array Oper} {d : Option Tmp} {p : Op} {ty : TypeId} {pos : String} {aft : Array Edge} {i : Nat} {σ : List (Nat × Md)} {Kend : Act → World → Prop} (ho : ops[i]? = some ⟨d, p, ty, pos, aft, none⟩) (h : rD P N ρ w ⟨d, p, ty, pos, aft, none⟩ fun v => Wr P ops Kend σ N (tm ρ d v) w) : Wr P ops Kend ((i, .read) :: σ) N ρ w := mC ho rfl h
theorem jn {P : Program} {N : Nat} {ρ : Nat → Value} {w : World} {ops : Array Oper} {d : Option Tmp} {p : Op} {ty : TypeId} {pos : String} {aft : Array Edge} {i : Nat} {σ : List (Nat × Md)} {Kend : Act → World → Prop} (ho : ops[i]? = some ⟨d, p, ty, pos, aft, none⟩) (h : pL P N ρ w ⟨d, p, ty, pos, aft, none⟩ fun v w' => Below w.heap.size w w' ∧ Wr P ops Kend σ N (tm ρ d v) w') : Wr P ops Kend ((i, .kx) :: σ) N ρ w := vB ho rfl h
theorem jx {P : Program} {N : Nat} {ρ : Nat → Value} {w : World} {ops : Array Oper} {d : Option Tmp} {p : Op} {ty : TypeId} {pos : String} {aft : Array Edge} {i : Nat} {σ : List (Nat × Md)} {Kend : Act → World → Prop} (ho : ops[i]? = some ⟨d, p, ty, pos, aft, none⟩) (h : pL P N ρ w ⟨d, p, ty, pos, aft, none⟩ fun v w' => Wr P ops Kend σ N (tm ρ d v) w') : Wr P ops Kend ((i, .free) :: σ) N ρ w := Uo ho rfl h
abbrev jo (i : Nat) : Nat × Md := (i, .pure)
abbrev ju (i : Nat) : Nat × Md := (i, .read)
abbrev jv (i : Nat) : Nat × Md := (i, .kx)
abbrev jw (i : Nat) : Nat × Md := (i, .free)
abbrev pB (b : Nat) : Value := .pointer (some ⟨b, 0, none⟩)
abbrev iB (m : Int) : Value := .int .i64 m
theorem ja {G' G : Prop} (h : G') (e : Jh G' → G := by intro h; (repeat (first | (with_reducible first | refine zi ?_ | refine xO ?_ | refine uE ?_ | refine uy ?_ | refine tF ?_ | refine pW ?_ | refine ph ?_ | refine pj ?_ | refine oK ?_ | refine oH rfl ?_ | refine zr ?_ | refine zn ?_))); exact h.1) : G := e ⟨h⟩
theorem jt {G' G : Prop} (h : G') (e : Jh G' → G := by intro h; (repeat (first | (with_reducible first | refine zi ?_ | refine xO ?_ | refine uE ?_ | refine uy ?_ | refine tF ?_ | refine pW ?_ | refine ph ?_ | refine pj ?_ | refine oK ?_ | refine oH rfl ?_ | refine zr ?_ | refine zn ?_ | refine KV ?_ | refine Cf ?_))); exact h.1) : G := e ⟨h⟩
theorem jr {G' G : Prop} (h : G') (e : Jh G' → G := by intro h; (repeat (first | (with_reducible first | refine zi ?_ | refine xO ?_ | refine uE ?_ | refine uy ?_ | refine tF ?_ | refine pW ?_ | refine ph ?_ | refine pj ?_ | refine oK ?_ | refine oH rfl ?_ | refine zr ?_ | refine zn ?_) | refine Hs ?_)); exact h.1) : G := e ⟨h⟩
theorem js {G' G : Prop} (h : G') (e : Jh G' → G := by intro h; (repeat (first | (with_reducible first | refine zi ?_ | refine xO ?_ | refine uE ?_ | refine uy ?_ | refine tF ?_ | refine pW ?_ | refine ph ?_ | refine pj ?_ | refine oK ?_ | refine oH rfl ?_ | refine zr ?_ | refine zn ?_ | refine KV ?_ | refine Cf ?_) | refine Hs ?_)); exact h.1) : G := e ⟨h⟩
theorem jb {G' G : Prop} (h : G') (e : Jh G' → G := by intro h; (repeat (first | (with_reducible first | refine zi ?_ | refine uE ?_ | refine uy ?_ | refine tF ?_ | refine pW ?_ | refine ph ?_ | refine pj ?_ | refine oK ?_ | refine oH rfl ?_ | refine zr ?_ | refine zn ?_))); exact h.1) : G := e ⟨h⟩
theorem jd {G' G : Prop} (h : G') (e : Jh G' → G := by intro h; (repeat (first | (with_reducible first | refine zi ?_ | refine uE ?_ | refine uy ?_ | refine tF ?_ | refine pW ?_ | refine ph ?_ | refine pj ?_ | refine oK ?_ | refine oH rfl ?_ | refine zr ?_ | refine zn ?_ | refine KV ?_ | refine Cf ?_))); exact h.1) : G := e ⟨h⟩
theorem jc {G' G : Prop} (h : G') (e : Jh G' → G := by intro h; (repeat (first | (with_reducible first | refine zi ?_ | refine uE ?_ | refine uy ?_ | refine tF ?_ | refine pW ?_ | refine ph ?_ | refine pj ?_ | refine oK ?_ | refine oH rfl ?_ | refine zr ?_ | refine zn ?_) | refine Hs ?_)); exact h.1) : G := e ⟨h⟩
theorem je {G' G : Prop} (h : G') (e : Jh G' → G := by intro h; (repeat (first | (with_reducible first | refine zi ?_ | refine uE ?_ | refine uy ?_ | refine tF ?_ | refine pW ?_ | refine ph ?_ | refine pj ?_ | refine oK ?_ | refine oH rfl ?_ | refine zr ?_ | refine zn ?_ | refine KV ?_ | refine Cf ?_) | refine Hs ?_)); exact h.1) : G := e ⟨h⟩
theorem Wi {H : List lj} {x : Option lj} (h : H[0]? = x) : H[0]? = x := h
theorem VN {H : List lj} {x : Option lj} (h : H[1]? = x) : H[1]? = x := h
theorem Vq {H : List lj} {x : Option lj} (h : H[2]? = x) : H[2]? = x := h
theorem VA {H : List lj} {x : Option lj} (h : H[3]? = x) : H[3]? = x := h
theorem VH {H : List lj} {x : Option lj} (h : H[4]? = x) : H[4]? = x := h
theorem Wp {H : List lj} {x : Option lj} (h : H[5]? = x) : H[5]? = x := h
theorem Wu {H : List lj} {x : Option lj} (h : H[6]? = x) : H[6]? = x := h
theorem VT {H : List lj} {x : Option lj} (h : H[7]? = x) : H[7]? = x := h
theorem J0 {G' G : Prop} (h : G') (e : Jh G' → G := by intro h; (repeat (first | (with_reducible first | refine zi ?_ | refine xO ?_ | refine uE ?_ | refine uy ?_ | refine tF ?_ | refine pW ?_ | refine ph ?_ | refine pj ?_ | refine oK ?_ | refine oH rfl ?_ | refine zr ?_ | refine zn ?_ | refine Cf ?_) | refine Hs ?_)); (first | ((with_reducible apply jp); first | ((with_reducible apply kw); (first | assumption | exact rfl)) | ((with_reducible apply oN); (first | assumption | exact rfl)) | ((with_reducible apply lD); (first | exact rfl | assumption); (with_reducible first | exact qA | exact mS | exact pm | exact zY | exact ol | exact qh | exact wm | exact vO | exact qE | exact sK | exact sL | exact wZ | exact xQ | exact yY | exact zy | exact FW | exact G5 | exact Ie | exact Dz | exact Cb | exact Hg | exact Gg | exact F5 | exact It | exact BA | exact B9 | exact H9 | exact Ge | exact H2 | exact Ig | exact HA | exact Gk | exact CU | exact Ke | exact KJ | exact Io | exact Ih | exact HQ | exact Kd | exact Hr | exact BO | exact K1 | exact KS | exact Is | exact Ix | exact Kz)) | ((with_reducible apply vh); (first | exact rfl | assumption); (first | exact rfl | assumption)) | ((with_reducible apply wH); (first | exact rfl | assumption); exact rfl) | ((with_reducible apply oG); (first | exact rfl | assumption); exact ⟨_, by (with_reducible first | exact Tryz.underlying139 | exact Tryz.underlying189 | exact Tryz.underlying218 | exact Tryz.underlying220 | exact Tryz.underlying26 | exact Tryz.underlying27 | exact Tryz.underlying34 | exact Tryz.underlying35 | exact Tryz.underlying36 | exact Tryz.underlying46 | exact Tryz.underlying48 | exact Tryz.underlying49 | exact Tryz.underlying62 | exact Tryz.underlying80 | exact Tryz.underlying83)⟩) | ((with_reducible apply py); (first | exact rfl | assumption); (first | exact rfl | assumption); (first | exact ct _ (by omega) | exact fv _ (by omega) | exact fw _ (by omega) | exact gz _ (by omega) | exact fV _ (by omega))) | ((with_reducible apply sh); (first | exact rfl | assumption); (first | exact rfl | assumption); (first | exact ct _ (by omega) | exact fv _ (by omega) | exact fw _ (by omega) | exact gz _ (by omega) | exact fV _ (by omega))) | ((with_reducible apply qO); (first | exact rfl | assumption); (first | exact rfl | assumption)) | ((with_reducible apply zB); (first | exact rfl | assumption); (first | exact rfl | assumption)) | ((with_reducible apply xb); (first | exact rfl | assumption)) | ((with_reducible apply SI); (first | exact rfl | assumption); (first | exact rfl | assumption)) | ((with_reducible apply sT); (first | exact rfl | assumption); (first | exact rfl | assumption)) | ((with_reducible apply wA); (first | exact rfl | assumption); (first | exact rfl | assumption)) | ((with_reducible apply kT); (first | exact rfl | assumption); (with_reducible first | exact Tryz.underlying3 | exact Tryz.underlying94 | exact Tryz.underlying99); exact ⟨_, by (with_reducible first | exact Tryz.underlying141 | exact Tryz.underlying25 | exact Tryz.underlying3 | exact Tryz.underlying5)⟩; (first | exact ct _ (by omega) | exact fv _ (by omega) | exact fw _ (by omega) | exact gz _ (by omega) | exact fV _ (by omega))) | ((with_reducible apply NS); (first | exact rfl | assumption); (with_reducible first | exact Tryz.underlying9))) | ((with_reducible apply jq); ((with_reducible apply kP); (first | exact rfl | assumption); (with_reducible first | exact mR | exact kt | exact qB | exact qQ | exact md | exact ng | exact nY | exact pD | exact pz | exact po | exact pu | exact p8 | exact uX | exact rO | exact pZ | exact tA | exact ri | exact qm | exact ua | exact wV | exact wD | exact xi | exact tq | exact ud | exact t8 | exact u3 | exact rC | exact ym | exact y3 | exact uI | exact wy | exact wX | exact uC | exact uL | exact zH | exact A5); assumption; (first | exact Wi rfl | exact VN rfl | exact Vq rfl | exact VA rfl | exact VH rfl | exact Wp rfl | exact Wu rfl | exact VT rfl); exact rfl; exact rfl; (first | exact .inl rfl | exact .inr rfl))) | ((with_reducible apply jh); first | ((with_reducible apply mv); (with_reducible first | exact mR | exact kt | exact qB | exact qQ | exact md | exact ng | exact nY | exact pD | exact pz | exact po | exact pu | exact p8 | exact uX | exact rO | exact pZ | exact tA | exact ri | exact qm | exact ua | exact wV | exact wD | exact xi | exact tq | exact ud | exact t8 | exact u3 | exact rC | exact ym | exact y3 | exact uI | exact wy | exact wX | exact uC | exact uL | exact zH | exact A5); assumption) | ((with_reducible apply lX); (first | exact rfl | assumption); (first | exact rfl | assumption); (with_reducible first | exact mR | exact kt | exact qB | exact qQ | exact md | exact ng | exact nY | exact pD | exact pz | exact po | exact pu | exact p8 | exact uX | exact rO | exact pZ | exact tA | exact ri | exact qm | exact ua | exact wV | exact wD | exact xi | exact tq | exact ud | exact t8 | exact u3 | exact rC | exact ym | exact y3 | exact uI | exact wy | exact wX | exact uC | exact uL | exact zH | exact A5); assumption; (first | exact Wi rfl | exact VN rfl | exact Vq rfl | exact VA rfl | exact VH rfl | exact Wp rfl | exact Wu rfl | exact VT rfl); exact rfl; exact rfl; exact eP rfl; exact rfl)) | ((with_reducible apply jl); exact rfl; first | ((with_reducible apply kw); (first | assumption | exact rfl)) | ((with_reducible apply oN); (first | assumption | exact rfl)) | ((with_reducible apply lD); (first | exact rfl | assumption); (with_reducible first | exact qA | exact mS | exact pm | exact zY | exact ol | exact qh | exact wm | exact vO | exact qE | exact sK | exact sL | exact wZ | exact xQ | exact yY | exact zy | exact FW | exact G5 | exact Ie | exact Dz | exact Cb | exact Hg | exact Gg | exact F5 | exact It | exact BA | exact B9 | exact H9 | exact Ge | exact H2 | exact Ig | exact HA | exact Gk | exact CU | exact Ke | exact KJ | exact Io | exact Ih | exact HQ | exact Kd | exact Hr | exact BO | exact K1 | exact KS | exact Is | exact Ix | exact Kz)) | ((with_reducible apply vh); (first | exact rfl | assumption); (first | exact rfl | assumption)) | ((with_reducible apply wH); (first | exact rfl | assumption); exact rfl) | ((with_reducible apply oG); (first | exact rfl | assumption); exact ⟨_, by (with_reducible first | exact Tryz.underlying139 | exact Tryz.underlying189 | exact Tryz.underlying218 | exact Tryz.underlying220 | exact Tryz.underlying26 | exact Tryz.underlying27 | exact Tryz.underlying34 | exact Tryz.underlying35 | exact Tryz.underlying36 | exact Tryz.underlying46 | exact Tryz.underlying48 | exact Tryz.underlying49 | exact Tryz.underlying62 | exact Tryz.underlying80 | exact Tryz.underlying83)⟩) | ((with_reducible apply py); (first | exact rfl | assumption); (first | exact rfl | assumption); (first | exact ct _ (by omega) | exact fv _ (by omega) | exact fw _ (by omega) | exact gz _ (by omega) | exact fV _ (by omega))) | ((with_reducible apply sh); (first | exact rfl | assumption); (first | exact rfl | assumption); (first | exact ct _ (by omega) | exact fv _ (by omega) | exact fw _ (by omega) | exact gz _ (by omega) | exact fV _ (by omega))) | ((with_reducible apply qO); (first | exact rfl | assumption); (first | exact rfl | assumption)) | ((with_reducible apply zB); (first | exact rfl | assumption); (first | exact rfl | assumption)) | ((with_reducible apply xb); (first | exact rfl | assumption)) | ((with_reducible apply SI); (first | exact rfl | assumption); (first | exact rfl | assumption)) | ((with_reducible apply sT); (first | exact rfl | assumption); (first | exact rfl | assumption)) | ((with_reducible apply wA); (first | exact rfl | assumption); (first | exact rfl | assumption)) | ((with_reducible apply kT); (first | exact rfl | assumption); (with_reducible first | exact Tryz.underlying3 | exact Tryz.underlying94 | exact Tryz.underlying99); exact ⟨_, by (with_reducible first | exact Tryz.underlying141 | exact Tryz.underlying25 | exact Tryz.underlying3 | exact Tryz.underlying5)⟩; (first | exact ct _ (by omega) | exact fv _ (by omega) | exact fw _ (by omega) | exact gz _ (by omega) | exact fV _ (by omega))) | ((with_reducible apply NS); (first | exact rfl | assumption); (with_reducible first | exact Tryz.underlying9))) | ((with_reducible apply jm); exact rfl; ((with_reducible apply kP); (first | exact rfl | assumption); (with_reducible first | exact mR | exact kt | exact qB | exact qQ | exact md | exact ng | exact nY | exact pD | exact pz | exact po | exact pu | exact p8 | exact uX | exact rO | exact pZ | exact tA | exact ri | exact qm | exact ua | exact wV | exact wD | exact xi | exact tq | exact ud | exact t8 | exact u3 | exact rC | exact ym | exact y3 | exact uI | exact wy | exact wX | exact uC | exact uL | exact zH | exact A5); assumption; (first | exact Wi rfl | exact VN rfl | exact Vq rfl | exact VA rfl | exact VH rfl | exact Wp rfl | exact Wu rfl | exact VT rfl); exact rfl; exact rfl; (first | exact .inl rfl | exact .inr rfl))) | ((with_reducible apply jn); exact rfl; first | ((with_reducible apply mv); (with_reducible first | exact mR | exact kt | exact qB | exact qQ | exact md | exact ng | exact nY | exact pD | exact pz | exact po | exact pu | exact p8 | exact uX | exact rO | exact pZ | exact tA | exact ri | exact qm | exact ua | exact wV | exact wD | exact xi | exact tq | exact ud | exact t8 | exact u3 | exact rC | exact ym | exact y3 | exact uI | exact wy | exact wX | exact uC | exact uL | exact zH | exact A5); assumption) | ((with_reducible apply lX); (first | exact rfl | assumption); (first | exact rfl | assumption); (with_reducible first | exact mR | exact kt | exact qB | exact qQ | exact md | exact ng | exact nY | exact pD | exact pz | exact po | exact pu | exact p8 | exact uX | exact rO | exact pZ | exact tA | exact ri | exact qm | exact ua | exact wV | exact wD | exact xi | exact tq | exact ud | exact t8 | exact u3 | exact rC | exact ym | exact y3 | exact uI | exact wy | exact wX | exact uC | exact uL | exact zH | exact A5); assumption; (first | exact Wi rfl | exact VN rfl | exact Vq rfl | exact VA rfl | exact VH rfl | exact Wp rfl | exact Wu rfl | exact VT rfl); exact rfl; exact rfl; exact eP rfl; exact rfl)) | ((with_reducible apply jx); exact rfl; first | ((with_reducible apply mv); (with_reducible first | exact mR | exact kt | exact qB | exact qQ | exact md | exact ng | exact nY | exact pD | exact pz | exact po | exact pu | exact p8 | exact uX | exact rO | exact pZ | exact tA | exact ri | exact qm | exact ua | exact wV | exact wD | exact xi | exact tq | exact ud | exact t8 | exact u3 | exact rC | exact ym | exact y3 | exact uI | exact wy | exact wX | exact uC | exact uL | exact zH | exact A5); assumption) | ((with_reducible apply lX); (first | exact rfl | assumption); (first | exact rfl | assumption); (with_reducible first | exact mR | exact kt | exact qB | exact qQ | exact md | exact ng | exact nY | exact pD | exact pz | exact po | exact pu | exact p8 | exact uX | exact rO | exact pZ | exact tA | exact ri | exact qm | exact ua | exact wV | exact wD | exact xi | exact tq | exact ud | exact t8 | exact u3 | exact rC | exact ym | exact y3 | exact uI | exact wy | exact wX | exact uC | exact uL | exact zH | exact A5); assumption; (first | exact Wi rfl | exact VN rfl | exact Vq rfl | exact VA rfl | exact VH rfl | exact Wp rfl | exact Wu rfl | exact VT rfl); exact rfl; exact rfl; exact eP rfl; exact rfl)) | ((with_reducible apply lu); exact rfl; exact ai (by omega)) | ((with_reducible apply lH); exact rfl; exact ae (by omega))); exact h.1) : G := e ⟨h⟩
theorem J1 {G' G : Prop} (h : G') (e : Jh G' → G := by intro h; (iterate 1 refine J0 ?_); exact h.1) : G := e ⟨h⟩
theorem J2 {G' G : Prop} (h : G') (e : Jh G' → G := by intro h; (iterate 2 refine J0 ?_); exact h.1) : G := e ⟨h⟩
theorem J3 {G' G : Prop} (h : G') (e : Jh G' → G := by intro h; (iterate 3 refine J0 ?_); exact h.1) : G := e ⟨h⟩
theorem J4 {G' G : Prop} (h : G') (e : Jh G' → G := by intro h; (iterate 4 refine J0 ?_); exact h.1) : G := e ⟨h⟩
theorem J5 {G' G : Prop} (h : G') (e : Jh G' → G := by intro h; (iterate 5 refine J0 ?_); exact h.1) : G := e ⟨h⟩
theorem J6 {G' G : Prop} (h : G') (e : Jh G' → G := by intro h; (iterate 6 refine J0 ?_); exact h.1) : G := e ⟨h⟩
theorem J7 {G' G : Prop} (h : G') (e : Jh G' → G := by intro h; (iterate 7 refine J0 ?_); exact h.1) : G := e ⟨h⟩
theorem J8 {G' G : Prop} (h : G') (e : Jh G' → G := by intro h; (iterate 8 refine J0 ?_); exact h.1) : G := e ⟨h⟩
theorem J9 {G' G : Prop} (h : G') (e : Jh G' → G := by intro h; (iterate 9 refine J0 ?_); exact h.1) : G := e ⟨h⟩
theorem Xg {G' G : Prop} (h : G') (e : Jh G' → G := by intro h; (iterate 10 refine J0 ?_); exact h.1) : G := e ⟨h⟩
theorem Xp {G' G : Prop} (h : G') (e : Jh G' → G := by intro h; (iterate 11 refine J0 ?_); exact h.1) : G := e ⟨h⟩
theorem V1 {G' G : Prop} (h : G') (e : Jh G' → G := by intro h; (iterate 1 refine J0 ?_); refine ja ?_; exact h.1) : G := e ⟨h⟩
theorem V2 {G' G : Prop} (h : G') (e : Jh G' → G := by intro h; (iterate 2 refine J0 ?_); refine ja ?_; exact h.1) : G := e ⟨h⟩
theorem V3 {G' G : Prop} (h : G') (e : Jh G' → G := by intro h; (iterate 3 refine J0 ?_); refine ja ?_; exact h.1) : G := e ⟨h⟩
theorem V4 {G' G : Prop} (h : G') (e : Jh G' → G := by intro h; (iterate 4 refine J0 ?_); refine ja ?_; exact h.1) : G := e ⟨h⟩
theorem V5 {G' G : Prop} (h : G') (e : Jh G' → G := by intro h; (iterate 5 refine J0 ?_); refine ja ?_; exact h.1) : G := e ⟨h⟩
theorem V6 {G' G : Prop} (h : G') (e : Jh G' → G := by intro h; (iterate 6 refine J0 ?_); refine ja ?_; exact h.1) : G := e ⟨h⟩
theorem V7 {G' G : Prop} (h : G') (e : Jh G' → G := by intro h; (iterate 7 refine J0 ?_); refine ja ?_; exact h.1) : G := e ⟨h⟩
theorem V9 {G' G : Prop} (h : G') (e : Jh G' → G := by intro h; (iterate 9 refine J0 ?_); refine ja ?_; exact h.1) : G := e ⟨h⟩
theorem XD {G' G : Prop} (h : G') (e : Jh G' → G := by intro h; (iterate 10 refine J0 ?_); refine ja ?_; exact h.1) : G := e ⟨h⟩
theorem Y1 {G' G : Prop} (h : G') (e : Jh G' → G := by intro h; (iterate 1 refine J0 ?_); refine jr ?_; exact h.1) : G := e ⟨h⟩
theorem Y4 {G' G : Prop} (h : G') (e : Jh G' → G := by intro h; (iterate 4 refine J0 ?_); refine jr ?_; exact h.1) : G := e ⟨h⟩
theorem Y5 {G' G : Prop} (h : G') (e : Jh G' → G := by intro h; (iterate 5 refine J0 ?_); refine jr ?_; exact h.1) : G := e ⟨h⟩
theorem drop_one (s:ByteArray) (k:Nat) (hk:k<s.size):(s.extract k s.size).extract 1 (s.extract k s.size).size=s.extract (k+1) s.size:=by
 have hsz:(s.extract k s.size).size=s.size-k:=by simp
 rw[hsz];apply ByteArray.ext;simp only[ByteArray.data_extract,Array.extract_extract];congr 1;omega
theorem Il (s:ByteArray) (k:Nat):oY (s.extract k s.size)=(oY s).drop k:=by
 unfold oY;rw[ByteArray.data_extract,Array.toList_extract,List.extract,List.map_take,List.map_drop,aU];have h:(s.data.toList.map UInt8.toNat).length=s.size:=qa s;rw[fk,h];omega
theorem C7 (s:ByteArray) (i:Nat) (h:i<s.size):(oY s)[i]'(by rw[qa];exact h)=(s[i]).toNat:=by
 unfold oY;rw[ew];rfl
theorem xF (s:ByteArray) (k:Nat) (hk:k<=s.size) (hz:∀i (_:i<k) (h:i<s.size),s[i]=0) (hn:k=s.size\/∃h:k<s.size,s[k]≠0):s.extract k s.size=kQ (val s):=by
 have hl:(oY s).length=s.size:=qa s;have h1:=Il s k;have h2:((oY s).drop k).reverse=ub 256 (val s):=by
  have h3:(oY s).reverse=((oY s).drop k).reverse++List.replicate k 0:=by
   have h5:(oY s).take k=List.replicate k 0:=by
    apply fm
    ·rw[dm,eR,hl];omega
    ·intro i g1 g2;rw[iz,List.getElem_replicate];have hi:i<k:=by rw[eR]at g2;exact g2
     rw[C7 s i oO,hz i hi oO];rfl
   conv=>lhs;rw[<-dc k (oY s),jD,h5,List.reverse_replicate]
  have h4:val s=lN 256 ((oY s).drop k).reverse:=by
   unfold val;rw[h3,sM,ze,eY,eh]
  rw[h4,wT dD _ (λd hd=>AX s d (List.mem_of_mem_drop (dW.1 hd)))];unfold trimmed;rw[List.getLast?_reverse,List.head?_drop];rcases hn with rfl|⟨h,hne⟩
  ·rw[dj oO];simp
  ·rw[aF oO,C7 s k h];intro h0;apply hne;have:(s[k]).toNat=0:=bK h0;exact j3.1 (by rw[this];rfl)
 rw[<-HN (s.extract k s.size),h1,kQ,<-h2,gS]
theorem Bw (s:ByteArray) (w:World) (hs:s.size<=9223372036854775807):
  mb Tryz.prog 149 #[.string s,.int .u8 0] w λv w'=>v= .string (kQ (val s))/\w'=w:=by
 refine enter Tryz.func149 rfl Tryz.ntmps149 rfl ?_;refine V1 ?_;refine kF (σ:=Nat) (λk ρ w'=>k<=s.size/\(∀i (_:i<k) (h:i<s.size),s[i]=0)/\ρ 0= .string (s.extract k s.size)/\ρ 1= .int .u8 0/\w'=w) (λk=>s.size-k) 0
  ⟨oO,λi h=>oO,bB Value.string (by rw[ByteArray.extract_zero_size]),rfl,rfl⟩ ?_
 rintro k ρ w' ⟨hk,hz,h0,h1,rfl⟩;have hsz:(s.extract k s.size).size=s.size-k:=by simp
 by_cases hlt:k<s.size
 ·have hpos:0<(s.extract k s.size).size:=oO;have hget:(s.extract k s.size)[0]=s[k]:=by rw[ByteArray.getElem_extract];rfl
  refine J4 ?_;refine ko (kd 8 kR rfl dT) (kw h0 (ko (kd 8 kR rfl dT) (xh (i:=0) rfl rfl oO oO Tryz.underlying9 (ko (kd 8 kR rfl dT) (kw h1 (ko (kd 8 kR rfl dT) (qO rfl rfl (jp (kH (vb rfl dT) rfl ?_)))))))));refine ja ?_;refine W9 _ rfl (λh=> ?_) (λh=> ?_)
  ·refine uE (uy (xO ?_));refine J1 ?_;refine jp (Fp (lo:=1) rfl rfl rfl oO Tryz.underlying9 ?_);refine V1 ?_;refine⟨k+1,_,rfl,⟨oO,λi hi hi'=> ?_,bB Value.string (drop_one s k hlt),h1,rfl⟩,oO⟩;rcases bH i k with h2|h2
   ·exact hz i h2 hi'
   ·obtain rfl:i=k:=oO;rw[<-hget];exact j3.1 (by have h:=h;simp at h;exact h)
  ·refine J2 ?_;refine jt ?_;refine kJ rfl rfl ⟨bB Value.string (xF s k hk hz (.inr ⟨hlt,λh2=>h ?_⟩)),rfl⟩;rw[hget,h2];rfl
 ·refine J4 ?_;refine kS (kg 8 kR rfl dF) (kS (kg 8 kR rfl dF) (kS (kg 8 kR rfl dF) (kS (kg 8 kR rfl dF) (jp (kH (vb rfl dF) rfl ?_)))));refine ja ?_;refine lH rfl (rfl) ?_;refine J2 ?_;refine jt ?_;exact kJ rfl rfl ⟨bB Value.string (xF s k hk hz (.inl oO)),rfl⟩
theorem Hf (s:ByteArray) (w:World) (hs:s.size<=9223372036854775807):
  mb Tryz.prog 110 #[.string s,.string ⟨#[0]⟩] w λv w'=>v= .string (kQ (val s))/\w'=w:=by
 refine enter Tryz.func110 rfl Tryz.ntmps110 rfl ?_;refine V1 ?_;by_cases he:s=⟨#[]⟩
 ·refine J1 ?_;refine jp (qk rfl rfl ?_);refine J1 ?_;refine kS (kg 9 kR rfl (ai he)) (kS (kg 9 kR rfl (ai he)) (jp (kH (vb rfl (ai he)) rfl ?_)));refine ja ?_;refine lu rfl (rfl) ?_;refine J2 ?_;refine jt ?_;refine kJ rfl rfl ?_;refine⟨bB Value.string ?_,rfl⟩;rw[he];exact Ev.symm
 ·have h0:¬((⟨#[0]⟩:ByteArray)=⟨#[]⟩):=by intro h;cases h
  refine J1 ?_;refine jp (qk rfl rfl ?_);refine J1 ?_;refine ko (kd 9 kR rfl (ae he)) (kw rfl (ko (kd 9 kR rfl (ae he)) (qk rfl rfl (jp (kH (vb rfl (ae he)) rfl ?_)))));refine ja ?_;refine lH rfl (ae h0) ?_;refine J4 ?_;refine ko (kd 17 kR rfl rfl) (kw rfl (ko (kd 17 kR rfl rfl) (xh (i:=0) rfl rfl rfl dD Tryz.underlying9 (ko (kd 17 kR rfl rfl) (vh rfl rfl (jp (kH (vb rfl rfl) rfl ?_)))))));refine ja ?_;refine lu rfl (by decide+kernel) ?_;refine J2 ?_;refine jp (xh (i:=0) rfl rfl rfl dD Tryz.underlying9 (jh (kf Tryz.call149 rfl (Bw s w hs) ?_)));rintro v w' ⟨rfl,rfl⟩;refine J1 ?_;refine jt ?_;refine kJ rfl rfl ?_;exact⟨rfl,rfl⟩
theorem nH (s:ByteArray) (w:World) (hs:s.size<=9223372036854775807):
  mb Tryz.prog 66 #[.string s] w λv w'=>v= .string (kQ (val s))/\w'=w:=by
 refine enter Tryz.func66 rfl Tryz.ntmps66 rfl ?_;refine J2 ?_;refine jh (kf Tryz.call110 rfl (Hf s w hs) ?_);rintro v w' ⟨rfl,rfl⟩;refine J1 ?_;refine jt ?_;refine kJ rfl rfl ?_;exact⟨rfl,rfl⟩
theorem o8 {m:Int} (r:Int) (h:m=r∧-9223372036854775808<=r/\r<=9223372036854775807):IntKind.i64.wrap m=r:=by
 obtain⟨rfl,h1⟩:=h;exact ct _ h1
theorem lE {m:Int} (r:Int) (h:m=r/\0<=r/\r<=18446744073709551615):IntKind.u64.wrap m=r:=by
 obtain⟨rfl,h1⟩:=h;exact fv _ h1
theorem pX {m:Int} (r:Int) (h:m=r/\0<=r/\r<=4294967295):IntKind.u32.wrap m=r:=by
 obtain⟨rfl,h1⟩:=h;exact fw _ h1
theorem VQ {m:Int} (r:Int) (h:m=r/\0<=r/\r<=255):IntKind.u8.wrap m=r:=by
 obtain⟨rfl,h1⟩:=h;exact gz _ h1
theorem sR (n:Nat):IntKind.u32.wrap (n:Int)=((n%4294967296:Nat):Int):=by rw[tV];omega
theorem uA (n:Nat):IntKind.u8.wrap (n:Int)=((n%256:Nat):Int):=by rw[PK];omega
theorem u5 {k:IntKind} (m c:Nat) (r:Int) (hc:c<=k.bits) (hr:k.wrap ((m*2^c:Nat):Int)=r):k.wrap ((m:Int)*2^(min ((c:Int)).toNat k.bits))=r:=by
 rw[iC,gX hc,<-hr];push_cast;rfl
theorem qN {k:IntKind} (m c:Nat) (hc:c<=k.bits):(m:Int).fdiv (2^(min ((c:Int)).toNat k.bits))=((m/2^c:Nat):Int):=by
 rw[SW (k:=k) (m:Int) c hc];push_cast;rfl
theorem St.XK {w0 w:World} {H:List lj} {b k:Nat} {t:TypeId} {kk:IntKind} {L:List Nat} (h:St w0 w H) (hk:H[k]?=some (b,t,Kr kk L)):At w ⟨b,0,none⟩ (Kr kk L):=by
 have:=h.at hk 0 (Kr kk L).length;rwa[ji,bO]at this
theorem Er (L:List Nat):(zC L).size=L.length:=by
 show((L.map UInt8.ofNat).toArray).size=_;simp
def lh (b v j:Nat):Nat:=v/b^j%b
theorem qZ {b:Nat} (hb:0<b) (v j:Nat):lh b v j<b:=bl _ hb
def pad (b v n:Nat):List Nat:=(List.range n).map (lh b v)
@[simp] theorem pad_length (b v n:Nat):(pad b v n).length=n:=by simp[pad]
theorem oq (b v:Nat) {n j:Nat} (h:j<n):(pad b v n).getD j 0=lh b v j:=by simp[pad,List.getD,h]
theorem to {b:Nat} (hb:0<b) (v n:Nat):∀d∈pad b v n,d<b:=by
 intro d hd;obtain⟨j,_,rfl⟩:=ca.1 hd;exact qZ hb v j
theorem xC (b v n:Nat):pad b v (n+1)=(v%b)::pad b (v/b) n:=by
 unfold pad;rw[List.range_succ_eq_map,cJ,iS];congr 1
 ·simp[lh]
 ·apply fX;intro j _;simp[lh,cV,bC,bF]
theorem C6 {b:Nat} (n:Nat):∀v,lN b (pad b v n)=v%b^n:=by
 induction n with
 |zero=>intro v;simp[pad,lN,ec]
 |succ n ih=>
  intro v;rw[xC];show v%b+b*lN b (pad b (v/b) n)=_;rw[ih,bC,bF (b^n) b,Nat.mod_mul]
theorem nm {b v n:Nat} (h:v<b^n):lN b (pad b v n)=v:=by rw[C6,aW h]
theorem vX {b:Nat} (hb:0<b):∀(L:List Nat) (_:∀d∈L,d<b) (j:Nat),lh b (lN b L) j=L.getD j 0
 | [],_,j=>by simp[lh,lN,Nat.zero_div,Nat.zero_mod]
 |d::L,h,0=>by
  show(d+b*lN b L)/b^0%b=d;rw[cU,fC,eO,aW (h d (by simp))]
 |d::L,h,j+1=>by
  have ih:=vX hb L (λd hd=>h d (by simp[hd])) j;show(d+b*lN b L)/b^(j+1)%b=_;rw[bC,bF (b^j) b,<-cV,db _ _ hb,bU (h d (by simp)),bX];simpa[lh]using ih
theorem Nj {b:Nat} (hb:2<=b) (v j:Nat):(ub b v).getD j 0=lh b v j:=by
 rw[<-vX oO (ub b v) (zF hb v),sS hb]
theorem OV {b v:Nat} {L:List Nat} (h:∀j,j<L.length->L.getD j 0=lh b v j):L=pad b v L.length:=by
 apply fm
 ·simp
 ·intro j h1 h2;have:=h j h1;rw[ak,aF h1]at this;simp only[pad,ew,jH];exact this
theorem mE (v j:Nat):(kY v).getD j 0=lh km v j:=Nj dD v j
theorem wg (v:Nat):∀d∈kY v,d<km:=zF dD v
theorem qp (v:Nat):lN km (kY v)=v:=sS dD v
theorem HL {v n:Nat} (h:v<km^n):kY (lN km (pad km v n))=kY v:=by rw[nm h]
theorem Bo (s:ByteArray) (i:Nat) (h:i<s.size):(s[s.size-1-i]).toNat=lh 256 (val s) i:=by
 unfold val;rw[vX dD _ (λd hd=>AX s d (dW.1 hd))];have hl:=qa s;rw[ak,gI (by rw[hl];exact h),hl];rw[aF (by rw[hl];omega)];unfold oY;rw[ew];rfl
theorem mod_pow_succ (b v i:Nat):v%b^(i+1)=v%b^i+b^i*lh b v i:=by
 rw[Nat.mod_pow_succ];rfl
theorem uK (a d r:Nat) (h:a<2^r):a|||d*2^r=a+d*2^r:=by
 have:=Nat.two_pow_add_eq_or_of_lt h d;rw[gu,bF,<-this,fc]
theorem yO {b:Nat} (hb:0<b) (v x:Nat) {j k:Nat} (h:j<k):lh b (v+b^k*x) j=lh b v j:=by
 unfold lh;obtain⟨m,rfl⟩:∃m,k=j+(m+1):=⟨k-j-1,oO⟩;rw[dA,ba,db _ _ (cy hb),bC,bF (b^m) b,ba,eO]
theorem IQ {b:Nat} (hb:0<b) (v x k:Nat):lh b (v+b^k*x) k=(v/b^k+x)%b:=by
 unfold lh;rw[db _ _ (cy hb)]
theorem uj {b v j:Nat} (h:v<b^j):lh b v j=0:=by
 unfold lh;rw[bU h,Nat.zero_mod]
theorem rU {b v k:Nat} (hb:0<b) (h:v<b^(k+1)):lh b v k=v/b^k:=by
 unfold lh;exact aW ((iY (cy hb)).2 (by rwa[bC,bF]at h))
theorem zI {b v n k x:Nat} (hb:2<=b) (hv:v<b^(k+1)) (hx:v+b^k*x<b^(k+1)):(pad b v n).set k (lh b v k+x)=pad b (v+b^k*x) n:=by
 have hb':0<b:=oO;rw[OV (b:=b) (v:=v+b^k*x) (L:=(pad b v n).set k (lh b v k+x)) ?_]
 ·simp
 ·intro j hj;have hj':j<n:=by simpa using hj
  rw[ak,fD];split
  ·rename_i h;subst h;rw[aj (by simpa using hj'),fi,rU hb' hv,rU hb' hx,db _ _ (cy hb')]
  ·rename_i h;rw[<-ak,oq b v hj'];rcases bH j k with h1|h1
   ·rw[yO hb' v x h1]
   ·have h2:b^(k+1)<=b^j:=bJ hb' oO;rw[uj oO,uj oO]
theorem GL (i:Nat):256^i=km^(i/4)*2^(8*(i%4)):=by
 have h1:(256:Nat)=2^8:=rfl;have h2:km=2^32:=rfl;rw[h1,h2,<-fL,<-fL,<-dA];congr 1;omega
theorem ID (v i n:Nat):(pad km (v%256^i) n).set (i/4) (lh km (v%256^i) (i/4)|||lh 256 v i*2^(8*(i%4)))=pad km (v%256^(i+1)) n:=by
 have h0:v%256^i<km^(i/4)*2^(8*(i%4)):=by rw[<-GL];exact bl _ (cy dD)
 have h1:256^(i+1)<=km^(i/4+1):=by
  rw[show(256:Nat)=2^8 from rfl,show km=2^32 from rfl,<-fL,<-fL];exact bJ dD oO
 have h2:v%256^(i+1)<256^(i+1):=bl _ (cy dD);have h5:v%256^i<=v%256^(i+1):=by rw[mod_pow_succ];omega
 have h3:v%256^(i+1)=v%256^i+km^(i/4)*(lh 256 v i*2^(8*(i%4))):=by
  rw[mod_pow_succ];conv=>lhs;rw[show(256:Nat)^i*lh 256 v i=km^(i/4)*2^(8*(i%4))*lh 256 v i by rw[<-GL]]
  rw[ba,bF (2^(8*(i%4)))]
 have h4:lh km (v%256^i) (i/4)<2^(8*(i%4)):=by
  rw[rU dD oO];exact dg h0
 rw[uK _ _ _ h4,h3];exact zI dD oO oO
theorem pi (b n:Nat):pad b 0 n=List.replicate n 0:=by
 apply fm
 ·simp
 ·intro j h1 h2;simp[pad,lh]
theorem sE {b:Nat} (hb:0<b) (v i:Nat):v%b^i<b^i:=bl _ (cy hb)
theorem Cm {b:Nat} (hb:2<=b) (v i n:Nat):(pad b (v%b^i) n).set i (lh b v i)=pad b (v%b^(i+1)) n:=by
 have h1:=sE (b:=b) oO v i;have h2:=sE (b:=b) oO v (i+1);have h3:b^(i+1)=b^i*b:=bC ..;have h4:b^i<=b^(i+1):=bJ oO oO;have h:=zI (b:=b) (v:=v%b^i) (n:=n) (k:=i) (x:=lh b v i) hb oO (by rw[<-mod_pow_succ];exact h2);rw[uj h1,bX,<-mod_pow_succ]at h;exact h
theorem Hb {α:Type} (L:List α) (i:Nat) (x:α) (h:i<L.length):L.reverse.set (L.length-1-i) x=(L.set i x).reverse:=by
 apply jX;intro j;rcases bH j L.length with hj|hj
 ·rw[gI (by simpa using hj),fD,fD,gI hj,bG];by_cases h1:L.length-1-i=j
  ·have h2:i=L.length-1-j:=oO;rw[aj h1,aj h2,aj (by simp;omega),aj h]
  ·have h2:¬i=L.length-1-j:=oO;rw[ah h1,ah h2]
 ·rw[dj (by simp;omega),dj (by simp;omega)]
theorem Gj (v i:Nat):lh km v (i/4)/2^(8*(i%4))%256=lh 256 v i:=by
 unfold lh;rw[GL,<-cV];generalize v/km^(i/4)=x;have h4:i%4=0\/i%4=1\/i%4=2\/i%4=3:=oO;rcases h4 with h|h|h|h<;>rw[h]<;>simp only[km]<;>omega
theorem HG (v n:Nat):val (zC (pad 256 v n).reverse)=v%256^n:=by
 rw[PC _ (λd hd=>to dD _ _ d (dW.1 hd)),gS,C6]
theorem xP (v:Value) (L:List Nat) (w:World) (hv:Sl (uk .u32) 1 w v L) (hL:∀d∈L,d<km):
  mb Tryz.prog 112 #[v] w λr w'=>Sl (uk .u32) 1 w r (kY (lN km L))/\w'=w:=by
 have hmax:=hv.maxLen;refine enter Tryz.func112 rfl Tryz.ntmps112 rfl ?_;refine J2 ?_;refine jp (ky rfl hv ⟨_,Tryz.underlying139⟩ ?_);refine V1 ?_;refine kF (σ:=Nat) (λn ρ w'=>n<=L.length/\(∀i,n<=i->i<L.length->L.getD i 0=0)/\ρ 0=v/\ρ 3=iB n/\w'=w) (λn=>n) L.length
  ⟨aB _,λi h1 h2=>oO,rfl,rfl,rfl⟩ ?_
 rintro n ρ w' ⟨hn,hz,h0,h3,rfl⟩;have hdone:(n=0\/L.getD (n-1) 0≠0)->L.take n=kY (lN km L):=λh=>wk (b:=km) dD L n hL hn hz h;by_cases hpos:0<n
 ·by_cases hl:L.getD (n-1) 0=0
  ·refine J3 ?_;refine ko (kd 8 kR rfl dT) (kw h0 (ko (kd 8 kR rfl dT) (kw h3 (ko (kd 8 kR rfl dT) (sh rfl rfl (ct _ oO) (ko (kd 8 kR rfl dT) (ks (i:=n-1) rfl rfl hv oO dO lI (lA (kd 8 kR rfl dT) (kC (i:=n-1) 0 rfl kV hv dO rfl rfl (.inr rfl) (ko (kd 8 kR rfl dT) (qO rfl rfl (jp (kH (vb rfl dT) rfl ?_)))))))))))));refine V4 ?_;refine⟨n-1,_,rfl,⟨oO,λi h1 h2=> ?_,h0,vi rfl oO,rfl⟩,oO⟩;rcases bH i n with h4|h4
   ·rw[show i=n-1 by omega];exact hl
   ·exact hz i h4 h2
  ·refine J3 ?_;refine ko (kd 8 kR rfl dT) (kw h0 (ko (kd 8 kR rfl dT) (kw h3 (ko (kd 8 kR rfl dT) (sh rfl rfl (ct _ oO) (ko (kd 8 kR rfl dT) (ks (i:=n-1) rfl rfl hv oO dO lI (lA (kd 8 kR rfl dT) (kC (i:=n-1) 0 rfl kV hv dO rfl rfl (.inr rfl) (ko (kd 8 kR rfl dT) (qO rfl rfl (jp (kH (vb rfl dT) rfl ?_)))))))))))));refine J3 ?_;refine jp (xY (hi:=n) rfl rfl hv rfl hn lI ?_);refine J1 ?_;refine jt ?_;refine kJ rfl rfl ?_;refine⟨?_,rfl⟩;rw[<-hdone (.inr hl)];exact hv.sub (Au _) dD (aw n) hn
 ·refine J3 ?_;refine kS (kg 8 kR rfl dF) (kS (kg 8 kR rfl dF) (kS (kg 8 kR rfl dF) (kS (kg 8 kR rfl dF) (kS (kg 8 kR rfl dF) (kS (kg 8 kR rfl dF) (jp (kH (vb rfl dF) rfl ?_)))))));refine ja ?_;refine lH rfl (rfl) ?_;refine J2 ?_;refine jp (xY (hi:=n) rfl rfl hv rfl hn lI ?_);refine J1 ?_;refine jt ?_;refine kJ rfl rfl ?_;refine⟨?_,rfl⟩;rw[<-hdone (.inl oO)];exact hv.sub (Au _) dD (aw n) hn
theorem qS (s:ByteArray) (w:World) (hs:s.size<=70368744177664):
  mb Tryz.prog 69 #[.string s] w λr w'=>Sl (uk .u32) 1 w' r (kY (val s))/\Below w.heap.size w w':=by
 have hS:=St.init w;refine enter Tryz.func69 rfl Tryz.ntmps69 rfl ?_;refine J5 ?_;refine jp (sf rfl rfl oO (gA _ _ oO) (jh (qj (n:=(s.size+3)/4) rfl rfl lI oO oO oO oO hS ?_)));intro b1 wz2 hS hBz2;refine V4 ?_;obtain⟨n,hn⟩:=jz ((s.size+3)/4);rw[<-hn,<-pi km n,show 0=val s%256^0 by rw[cU,ec]]at hS;refine kF (σ:=Nat) (λi ρ w'=>i<=s.size/\ρ 0= .string s/\ρ 3= .slice (some ⟨b1,0,none⟩) n n/\ρ 12=iB s.size/\ρ 13=iB i/\St w w' [(b1,141,Kr .u32 (pad km (val s%256^i) n))]) (λi=>s.size-i) 0
  ⟨aw _,rfl,by rw[hn];rfl,rfl,rfl,hS⟩ ?_
 clear hS;rintro i ρ w2 ⟨hi,h0,h3,h12,h13,hS⟩;refine V1 ?_;by_cases hlt:i<s.size
 ·refine V3 ?_;have hb:=Bo s i hlt;have hl:=qZ (b:=km) dD (val s%256^i) (i/4);have hd:=qZ (b:=256) dD (val s) i;have hg:(pad km (val s%256^i) n).getD (i/4) 0=lh km (val s%256^i) (i/4):=oq _ _ oO;have hp:2^(8*(i%4))<=2^24:=bJ dD oO;have hq:lh 256 (val s) i*2^(8*(i%4))<4294967296:=bZ (fp (Nat.le_of_lt_succ hd) hp) dD;refine ja ?_;refine kK [jo 0,jo 1,jo 2,jo 3,ju 4,jo 5,jo 6,jo 7,jo 8,jo 9,jo 10,jo 11,jo 12,jo 13,jo 14,jo 15,jo 16,jo 17,jo 18,jw 19] kR kR hS ?_;intro wz3 hS hBz3;refine J2 ?_;refine jl rfl (sf rfl rfl oO (r:=((i/4:Nat):Int)) (by exact gA _ _ oO) (jl rfl (kM (i:=i/4) rfl rfl oO dO lI (jm rfl (oe (k:=0) (i:=i/4) rfl kV hS rfl oO dO ?_)))));refine J6 ?_;refine jl rfl (xh (i:=s.size-1-i) rfl rfl oO oO Tryz.underlying9 (jl rfl (kT rfl Tryz.underlying141 ⟨_,Tryz.underlying5⟩ (r:=((lh 256 (val s) i:Nat):Int)) (by rw[hb];exact fw _ oO) ?_)));refine J1 ?_;refine jl rfl (pF rfl rfl oO (r:=((i%4:Nat):Int)) (by rfl) (jl rfl (wF rfl rfl (r:=((8*(i%4):Nat):Int)) (by exact o8 _ oO) (jl rfl (u6 rfl rfl oO (u5 _ _ _ (show _<=32 by omega) (pX _ ⟨rfl,oO,oO⟩)) (jl rfl (y7 rfl rfl (rS rfl _ _ (by rw[hg];exact hl) hq) (jl rfl (kM (i:=i/4) rfl rfl oO dO lI (jx rfl (pO (k:=0) (i:=i/4) (a:=_) rfl rfl rfl kV hS rfl oO dO ?_)))))))))));intro wz4 hS;refine ja ?_;rw[hg,ID]at hS;refine V2 ?_;exact⟨i+1,_,rfl,⟨hlt,h0,h3,h12,vi rfl oO,hS⟩,oO⟩
 ·refine J1 ?_;refine jt ?_;obtain rfl:i=s.size:=oO;have hval:val s<256^s.size:=Fb s;have h256:256^s.size<=km^n:=by
   rw[show(256:Nat)=2^8 from rfl,show km=2^32 from rfl,<-fL,<-fL];exact bJ dD oO
  rw[aW hval]at hS;have hsl:=hS.IH (k:=0) rfl (n:=n) (cap:=n) (by simp) (aB _) oO;rw[aU (by simp)]at hsl;refine J1 ?_;refine jh (kf Tryz.call112 rfl (xP _ _ _ hsl (to dD _ _)) ?_);rintro r w3 ⟨hr,rfl⟩;refine J1 ?_;refine jt ?_;refine kJ rfl rfl ?_;rw[HL oO]at hr;exact⟨hr,hS.kb⟩
theorem vK (v:Value) (L:List Nat) (w:World) (hv:Sl (uk .u32) 1 w v L) (hL:∀d∈L,d<km) (hs:L.length<=17592186044416):
  mb Tryz.prog 70 #[v] w λr w'=>r= .string (kQ (lN km L))/\Below w.heap.size w w':=by
 have hS:=St.init w;refine enter Tryz.func70 rfl Tryz.ntmps70 rfl ?_;refine J2 ?_;refine jp (ky rfl hv ⟨_,Tryz.underlying139⟩ (jp (wF rfl rfl (ct _ oO) (jh (qj (n:=4*L.length) rfl rfl Dl oO oO oO oO hS ?_)))));intro b1 wz2 hS hBz2;refine V4 ?_;obtain⟨V,hV⟩:=jz (lN km L);obtain⟨n,hn⟩:=jz (4*L.length);have h00:List.replicate (4*L.length) 0=(pad 256 (V%256^0) n).reverse:=by rw[cU,ec,pi,List.reverse_replicate,hn]
 rw[h00]at hS;refine kF (σ:=Nat) (λi ρ w'=>i<=n/\ρ 0=v/\ρ 3= .slice (some ⟨b1,0,none⟩) n n/\ρ 10=iB n/\ρ 11=iB i/\St w w' [(b1,5,Kr .u8 (pad 256 (V%256^i) n).reverse)]) (λi=>n-i) 0
  ⟨aw _,rfl,by rw[hn];rfl,vi rfl (by rw[hn]),rfl,hS⟩ ?_
 clear hS;rintro i ρ w3 ⟨hi,h0,h3,h10,h11,hS⟩;have hv2:=hv.kb hS.kb;refine V1 ?_;by_cases hlt:i<n
 ·refine V3 ?_;have hg:L.getD (i/4) 0=lh km V (i/4):=by rw[hV,vX dD _ hL]
  have hl:=qZ (b:=km) dD V (i/4);have hlen:(pad 256 (V%256^i) n).length=n:=pad_length _ _ _;refine J8 ?_;refine jp (sf rfl rfl oO (r:=((i/4:Nat):Int)) (by exact gA _ _ oO) (jp (ks (i:=i/4) rfl rfl hv2 oO dO lI (jq (kC (i:=i/4) 0 rfl kV hv2 dO rfl rfl (.inr rfl) ?_)))));refine J1 ?_;refine jp (pF rfl rfl oO (r:=((i%4:Nat):Int)) (by rfl) (jp (wF rfl rfl (r:=((8*(i%4):Nat):Int)) (by exact o8 _ oO) (jp (qu rfl rfl oO (qN _ _ (show _<=32 by omega)) (jp (kT rfl Tryz.underlying5 ⟨_,Tryz.underlying141⟩ (uA _) (jp (kM (i:=n-1-i) rfl rfl oO dO Dl (jh (pO (k:=0) (i:=n-1-i) (a:=_) rfl rfl rfl WY hS rfl oO dO ?_)))))))))));intro wz3 hS;refine ja ?_;have hset:=Hb (pad 256 (V%256^i) n) i (lh 256 V i) oO;rw[hg,Gj,show n-1-i=(pad 256 (V%256^i) n).length-1-i by omega,hset,Cm dD]at hS;refine V2 ?_;exact⟨i+1,_,rfl,⟨hlt,h0,h3,h10,vi rfl oO,hS⟩,oO⟩
 ·refine J1 ?_;refine jt ?_;obtain rfl:i=n:=oO;have hVlt:V<256^i:=by
   have:=tT L hL;rwa[<-hV,show km=256^4 from rfl,<-fL,<-hn]at this
  have hat:=St.XK hS (k:=0) rfl;have hsz:(zC (pad 256 (V%256^i) i).reverse).size<=9223372036854775807:=by rw[Er];simp;omega
  refine J1 ?_;refine jq (SZ rfl ⟨Tryz.underlying189,Tryz.underlying5,Tryz.underlying9⟩ (by simp) hat (jh (kf Tryz.call66 rfl (nH _ _ hsz) ?_)));rintro r w4 ⟨rfl,rfl⟩;refine J1 ?_;refine jt ?_;refine kJ rfl rfl ?_;rw[HG,Nat.mod_mod,aW hVlt,hV];exact⟨rfl,hS.kb⟩
def sV (m n:Nat):Int:=if m<n then-1 else if n<m then 1 else 0
theorem xH (n:Nat):sV n n=0:=by simp[sV]
theorem uq {m n:Nat} (h:m<n):sV m n= -1:=by simp[sV,h]
theorem ut {m n:Nat} (h:n<m):sV m n=1:=by simp[sV,h,show¬m<n by omega]
theorem pJ (b m i:Nat):m/b^i=b*(m/b^(i+1))+lh b m i:=by
 unfold lh;rw[bC,<-cV];exact(cI _ _).symm
theorem sO {b m n i:Nat} (h:m/b^i<n/b^i):m<n:=by
 rcases bH m n with h1|h1
 ·exact h1
 ·have:=Nat.div_le_div_right (c:=b^i) h1;omega
theorem uv {m n:Nat} (h:(kY m).length<(kY n).length):m<n:=by
 rcases bH m n with h1|h1
 ·exact h1
 ·have:=oa (b:=km) dD h1;unfold kY at h;omega
theorem KG (n:Int) (w:World):
  mb Tryz.prog 133 #[.int .i64 n] w λr w'=>r= .int .i64 (if n<0 then-1 else if 0<n then 1 else 0)/\w'=w:=by
 refine enter Tryz.func133 rfl Tryz.ntmps133 rfl ?_;refine V4 ?_;by_cases h1:n<0
 ·refine lu rfl (ai h1) ?_;refine J1 ?_;refine jt ?_;refine kJ rfl rfl ?_;exact⟨vi rfl (by rw[aj h1]),rfl⟩
 ·refine lH rfl (ae h1) ?_;refine V3 ?_;by_cases h2:0<n
  ·refine lu rfl (ai h2) ?_;refine J1 ?_;refine jt ?_;refine kJ rfl rfl ?_;exact⟨vi rfl (by rw[ah h1,aj h2]),rfl⟩
  ·refine lH rfl (ae h2) ?_;refine J1 ?_;refine jt ?_;refine kJ rfl rfl ?_;exact⟨vi rfl (by rw[ah h1,ah h2]),rfl⟩
theorem Qs {m n:Nat} (h:(kY m).length≠(kY n).length):(if((kY m).length:Int)-((kY n).length:Int)<0 then-1 else if 0<((kY m).length:Int)-((kY n).length:Int)then 1 else 0)=sV m n:=by
 rcases bH (kY m).length (kY n).length with h1|h1
 ·rw[aj oO,uq (uv h1)]
 ·rw[ah oO,aj oO,ut (uv oO)]
theorem Ct (u v:Value) (m n:Nat) (w:World) (hu:Sl (uk .u32) 1 w u (kY m)) (hv:Sl (uk .u32) 1 w v (kY n)):
  mb Tryz.prog 118 #[u,v] w λr w'=>r= .int .i64 (sV m n)/\Below w.heap.size w w':=by
 have hlu:=hu.maxLen;have hlv:=hv.maxLen;have hS:=St.init w;refine enter Tryz.func118 rfl Tryz.ntmps118 rfl ?_;refine J2 ?_;refine jp (ky rfl (hu.kb hS.kb) ⟨_,Tryz.underlying139⟩ ?_);refine J1 ?_;refine jp (ky rfl (hv.kb hS.kb) ⟨_,Tryz.underlying139⟩ ?_);refine V1 ?_;by_cases hl:(kY m).length=(kY n).length
 ·refine lH rfl (ae (by simp[hl])) ?_;refine J1 ?_;refine jp (ky rfl (hu.kb hS.kb) ⟨_,Tryz.underlying139⟩ ?_);refine V2 ?_;refine kF (σ:=Nat) (λi ρ w'=>i<=(kY m).length/\m/km^i=n/km^i/\ρ 0=u/\ρ 1=v/\ρ 5=iB ((i:Int)-1)/\St w w' []) (λi=>i) (kY m).length
   ⟨aB _,?_,rfl,rfl,rfl,hS⟩ ?_
  ·have h1:m<km^(kY m).length:=nt dD m;have h2:n<km^(kY n).length:=nt dD n;rw[bU h1,hl,bU h2]
  clear hS;rintro i ρ w' ⟨hi,hq,h0,h1,h5,hS⟩;refine V2 ?_;by_cases hpos:0<i
  ·refine V1 ?_;have hlen:i-1<(kY m).length:=oO;refine ja ?_;refine kK [jo 0,jo 1,jo 2,ju 3,jo 4,jo 5,jo 6,ju 7,jo 8] kR kR hS ?_;intro wz1 hS hBz1;refine J2 ?_;refine jl rfl (ks (i:=i-1) rfl rfl (hu.kb hS.kb) oO dO lI (jm rfl (kC (i:=i-1) 0 rfl kV (hu.kb hS.kb) dO rfl rfl (.inr rfl) ?_)));refine J2 ?_;refine jl rfl (ks (i:=i-1) rfl rfl (hv.kb hS.kb) oO dO lI (jm rfl (kC (i:=i-1) 0 rfl kV (hv.kb hS.kb) dO rfl rfl (.inr rfl) ?_)));refine V1 ?_;rw[mE,mE];have hs1:=pJ km m (i-1);have hs2:=pJ km n (i-1);rw[show i-1+1=i by omega]at hs1 hs2;by_cases hne:lh km m (i-1)=lh km n (i-1)
   ·refine V4 ?_;exact⟨i-1,_,rfl,⟨oO,by rw[hs1,hs2,hq,hne],h0,h1,vi rfl oO,hS⟩,oO⟩
   ·refine V1 ?_;refine kK [jo 0,jo 1,jo 2,ju 3,jo 4,jo 5,jo 6,ju 7,jo 8] kR kR hS ?_;intro wz2 hS hBz2;refine J2 ?_;refine jl rfl (ks (i:=i-1) rfl rfl (hu.kb hS.kb) oO dO lI (jm rfl (kC (i:=i-1) 0 rfl kV (hu.kb hS.kb) dO rfl rfl (.inr rfl) ?_)));refine J2 ?_;refine jl rfl (ks (i:=i-1) rfl rfl (hv.kb hS.kb) oO dO lI (jm rfl (kC (i:=i-1) 0 rfl kV (hv.kb hS.kb) dO rfl rfl (.inr rfl) ?_)));refine V1 ?_;rw[mE,mE];by_cases hlt:lh km m (i-1)<lh km n (i-1)
    ·refine J2 ?_;refine jt ?_;refine kJ rfl rfl ?_;refine⟨vi rfl (uq (sO (b:=km) (i:=i-1) ?_)).symm,hS.kb⟩;rw[hs1,hs2,hq];omega
    ·refine J2 ?_;refine jt ?_;refine kJ rfl rfl ?_;refine⟨vi rfl (ut (sO (b:=km) (i:=i-1) ?_)).symm,hS.kb⟩;rw[hs1,hs2,hq];omega
  ·refine J2 ?_;refine jt ?_;refine kJ rfl rfl ?_;obtain rfl:i=0:=oO;rw[cU,fC,fC]at hq;rw[hq];exact⟨vi rfl (by rw[xH]),hS.kb⟩
 ·refine J2 ?_;refine jp (ky rfl (hu.kb hS.kb) ⟨_,Tryz.underlying139⟩ ?_);refine J1 ?_;refine jp (ky rfl (hv.kb hS.kb) ⟨_,Tryz.underlying139⟩ ?_);refine J1 ?_;refine jh (kf Tryz.call133 rfl (KG _ _) ?_);rintro r w' ⟨rfl,rfl⟩;refine J1 ?_;refine jt ?_;refine kJ rfl rfl ?_;exact⟨vi rfl (Qs hl),hS.kb⟩
theorem uV:∀(a b:List UInt8),a.length=b.length->Lib.compareBytes a b=sV (lN 256 (a.map UInt8.toNat).reverse) (lN 256 (b.map UInt8.toNat).reverse)
 | [],[],_=>by simp[Lib.compareBytes,sV]
 |x::a,y::b,h=>by
  have hl:a.length=b.length:=by simpa using h
  have ih:=uV a b hl;rw[cJ,cJ,jU,jU,sM,sM];have h1:=tT (b:=256) (a.map UInt8.toNat).reverse (λd hd=>by obtain⟨u,_,rfl⟩:=ca.1 (dW.1 hd);exact u.toNat_lt);have h2:=tT (b:=256) (b.map UInt8.toNat).reverse (λd hd=>by obtain⟨u,_,rfl⟩:=ca.1 (dW.1 hd);exact u.toNat_lt);rw[fF,bj]at h1 h2;rw[fF,fF,bj,bj];rw[hl]at h1⊢;generalize lN 256 (a.map UInt8.toNat).reverse=m at h1 ih;generalize lN 256 (b.map UInt8.toNat).reverse=n at h2 ih;generalize 256^b.length=k at h1 h2;rw[Lib.compareBytes,ih];simp only[lN,eY,eh,UInt8.lt_iff_toNat_lt];generalize x.toNat=p;generalize y.toNat=q;split
  ·rename_i hpq;have:k*(p+1)<=k*q:=bA _ hpq;rw[aV]at this;rw[uq oO]
  ·split
   ·rename_i hpq;have:k*(q+1)<=k*p:=bA _ hpq;rw[aV]at this;rw[ut oO]
   ·obtain rfl:p=q:=oO;unfold sV;simp
theorem zw {m n:Nat} (h:(kQ m).size=(kQ n).size):Lib.compareBytes (kQ m).data.toList (kQ n).data.toList=sV m n:=by
 have h':(kQ m).data.toList.length=(kQ n).data.toList.length:=h;rw[uV _ _ h'];have h1:=lF m;have h2:=lF n;unfold val oY at h1 h2;rw[h1,h2]
theorem zQ {m n:Nat} (h:(kQ m).size<(kQ n).size):m<n:=by
 rcases bH m n with h1|h1
 ·exact h1
 ·have:=oa (b:=256) dD h1;rw[sI,sI]at h;omega
theorem CK {m n:Nat} (h:(kQ m).size≠(kQ n).size):(if((kQ m).size:Int)-((kQ n).size:Int)<0 then-1 else if 0<((kQ m).size:Int)-((kQ n).size:Int)then 1 else 0)=sV m n:=by
 rcases bH (kQ m).size (kQ n).size with h1|h1
 ·rw[aj oO,uq (zQ h1)]
 ·rw[ah oO,aj oO,ut (zQ oO)]
theorem Pe {N:Nat} {ρ:Nat->Value} {w:World} {K2:Value->World->Prop} {x y:Operand} {a b:ByteArray} {ats:Array TypeId} {d:Option Tmp} {ty:TypeId} {pos:String} {aft:Array Edge} {g:Option (Nat×Bool)}
  (hx:ev N ρ x= .string a) (hy:ev N ρ y= .string b) (h:K2 (.int .i64 (Lib.compareBytes a.data.toList b.data.toList)) w):
  pL Tryz.prog N ρ w ⟨d,.call ⟨.value (.func 195),#[x,y],ats⟩,ty,pos,aft,g⟩ K2:=by
 refine ow (v:= .int .i64 (Lib.compareBytes a.data.toList b.data.toList)) (w':=w) ?_ h;have he:ev N ρ (.func 195)= .func (.func 195) #[] #[]:=rfl;simp only[execOp,resolve,he,Deferred.ofValue,invoke,iM,cJ,jV,hx,hy,dI,iu,dk,Array.empty_append,Array.append_empty];rw[run_callFunc_extern Tryz.func195 kR kR kR (e:=Extern.BytealgCompare.compare) kR,Lib.run_compareString];rfl
theorem Av (a b:ByteArray) (w:World):
  mb Tryz.prog 169 #[.string a,.string b] w λr w'=>r= .int .i64 (Lib.compareBytes a.data.toList b.data.toList)/\w'=w:=by
 refine enter Tryz.func169 rfl Tryz.ntmps169 rfl ?_;refine J3 ?_;refine jh (Pe rfl rfl ?_);refine J1 ?_;refine jt ?_;refine kJ rfl rfl ?_;exact⟨rfl,rfl⟩
theorem D5 (a b:ByteArray) (w:World):
  mb Tryz.prog 134 #[.string a,.string b] w λr w'=>r= .int .i64 (Lib.compareBytes a.data.toList b.data.toList)/\w'=w:=by
 refine enter Tryz.func134 rfl Tryz.ntmps134 rfl ?_;refine J3 ?_;refine jh (kf Tryz.call169 rfl (Av _ _ _) ?_);rintro v w' ⟨rfl,rfl⟩;refine J1 ?_;refine jt ?_;refine kJ rfl rfl ?_;exact⟨rfl,rfl⟩
theorem IZ (a b:ByteArray) (w:World) (ha:a.size<=9223372036854775807) (hb:b.size<=9223372036854775807):
  mb Tryz.prog 90 #[.string a,.string b] w λr w'=>r= .int .i64 (sV (val a) (val b))/\w'=w:=by
 refine enter Tryz.func90 rfl Tryz.ntmps90 rfl ?_;refine J2 ?_;refine jh (kf Tryz.call66 rfl (nH _ _ ha) ?_);rintro v w' ⟨rfl,rfl⟩;refine J1 ?_;refine jh (kf Tryz.call66 rfl (nH _ _ hb) ?_);rintro v w' ⟨rfl,rfl⟩;refine V2 ?_;have h1:=qz a;have h2:=qz b;refine V5 ?_;by_cases hl:(kQ (val a)).size=(kQ (val b)).size
 ·refine lH rfl (ae (by simp[hl])) ?_;refine J2 ?_;refine jh (kf Tryz.call134 rfl (D5 _ _ _) ?_);rintro v w' ⟨rfl,rfl⟩;refine J1 ?_;refine jt ?_;refine kJ rfl rfl ?_;exact⟨vi rfl (zw hl),rfl⟩
 ·refine J6 ?_;refine jh (kf Tryz.call133 rfl (KG _ _) ?_);rintro r w' ⟨rfl,rfl⟩;refine J1 ?_;refine jt ?_;refine kJ rfl rfl ?_;exact⟨vi rfl (CK hl),rfl⟩
def xu:ByteArray:=⟨((List.range 256).map λi=>UInt8.ofNat (Lib.bitLen i)).toArray⟩
theorem wh:xu.size=256:=by decide+kernel
theorem Mv:∀i:Fin 256,(xu[i.val]'(by rw[wh];exact i.isLt)).toNat=Lib.bitLen i.val:=by decide+kernel
theorem vv (i:Nat) (h:i<xu.size):(xu[i]).toNat=Lib.bitLen i:=Mv ⟨i,by rw[<-wh];exact h⟩
theorem Qu (x:Nat) (w:World) (h1:x<km):
  mb Tryz.prog 181 #[.int .u32 x] w λr w'=>r= .int .i64 (Lib.bitLen x)/\w'=w:=by
 have hB:km=4294967296:=rfl;have hT:256=xu.size:=wh.symm;refine enter Tryz.func181 rfl Tryz.ntmps181 rfl ?_;refine V3 ?_;by_cases g1:65536<=x
 ·refine J2 ?_;refine jp (qu rfl rfl oO (r:=((x/65536:Nat):Int)) (by exact qN (k:= .u32) x 16 dD) ?_);refine V4 ?_;by_cases g2:256<=(x/65536)
  ·refine J2 ?_;refine jp (qu rfl rfl oO (r:=(((x/65536)/256:Nat):Int)) (by exact qN (k:= .u32) _ 8 dD) ?_);refine V4 ?_;have h8:Lib.bitLen (((x/65536)/256)%256)<=8:=iA ⟨((x/65536)/256)%256,oO⟩;refine J2 ?_;refine jp (kT rfl Tryz.underlying5 ⟨_,Tryz.underlying141⟩ (r:=((((x/65536)/256)%256:Nat):Int)) (by exact uA _) (jp (xh (s:=xu) (i:=((x/65536)/256)%256) (bB Value.string (by decide+kernel)) rfl rfl oO Tryz.underlying9 (jp (kT rfl Tryz.underlying3 ⟨_,Tryz.underlying5⟩ (r:=((Lib.bitLen (((x/65536)/256)%256):Nat):Int)) (by rw[vv];exact o8 _ ⟨rfl,oO,oO⟩) ?_)))));refine J2 ?_;refine jt ?_;refine kJ rfl rfl ?_;have e:Lib.bitLen x=24+Lib.bitLen (((x/65536)/256)%256):=by rw[Lib.bitLen_shift24 x oO oO,show x/16777216=x/65536/256%256 by omega]
   exact⟨vi rfl oO,rfl⟩
  ·refine V1 ?_;have h8:Lib.bitLen ((x/65536)%256)<=8:=iA ⟨(x/65536)%256,oO⟩;refine J2 ?_;refine jp (kT rfl Tryz.underlying5 ⟨_,Tryz.underlying141⟩ (r:=(((x/65536)%256:Nat):Int)) (by exact uA _) (jp (xh (s:=xu) (i:=(x/65536)%256) (bB Value.string (by decide+kernel)) rfl rfl oO Tryz.underlying9 (jp (kT rfl Tryz.underlying3 ⟨_,Tryz.underlying5⟩ (r:=((Lib.bitLen ((x/65536)%256):Nat):Int)) (by rw[vv];exact o8 _ ⟨rfl,oO,oO⟩) ?_)))));refine J2 ?_;refine jt ?_;refine kJ rfl rfl ?_;have e:Lib.bitLen x=16+Lib.bitLen ((x/65536)%256):=by rw[Lib.bitLen_shift16 x oO oO,show x/65536%256=x/65536 by omega]
   exact⟨vi rfl oO,rfl⟩
 ·refine V3 ?_;by_cases g2:256<=x
  ·refine J2 ?_;refine jp (qu rfl rfl oO (r:=((x/256:Nat):Int)) (by exact qN (k:= .u32) _ 8 dD) ?_);refine V4 ?_;have h8:Lib.bitLen ((x/256)%256)<=8:=iA ⟨(x/256)%256,oO⟩;refine J2 ?_;refine jp (kT rfl Tryz.underlying5 ⟨_,Tryz.underlying141⟩ (r:=(((x/256)%256:Nat):Int)) (by exact uA _) (jp (xh (s:=xu) (i:=(x/256)%256) (bB Value.string (by decide+kernel)) rfl rfl oO Tryz.underlying9 (jp (kT rfl Tryz.underlying3 ⟨_,Tryz.underlying5⟩ (r:=((Lib.bitLen ((x/256)%256):Nat):Int)) (by rw[vv];exact o8 _ ⟨rfl,oO,oO⟩) ?_)))));refine J2 ?_;refine jt ?_;refine kJ rfl rfl ?_;have e:Lib.bitLen x=8+Lib.bitLen ((x/256)%256):=by rw[Lib.bitLen_shift8 x oO oO,show x/256%256=x/256 by omega]
   exact⟨vi rfl oO,rfl⟩
  ·refine V1 ?_;have h8:Lib.bitLen (x%256)<=8:=iA ⟨x%256,oO⟩;refine J2 ?_;refine jp (kT rfl Tryz.underlying5 ⟨_,Tryz.underlying141⟩ (r:=((x%256:Nat):Int)) (by exact uA _) (jp (xh (s:=xu) (i:=x%256) (bB Value.string (by decide+kernel)) rfl rfl oO Tryz.underlying9 (jp (kT rfl Tryz.underlying3 ⟨_,Tryz.underlying5⟩ (r:=((Lib.bitLen (x%256):Nat):Int)) (by rw[vv];exact o8 _ ⟨rfl,oO,oO⟩) ?_)))));refine J2 ?_;refine jt ?_;refine kJ rfl rfl ?_;have e:Lib.bitLen x=0+Lib.bitLen (x%256):=by rw[bX,aW oO]
   exact⟨vi rfl oO,rfl⟩
theorem yo:∀(k x:Nat),x<2^k->k<=64->Lib.bitLen x<=k/\x<2^Lib.bitLen x/\(x≠0->0<Lib.bitLen x/\2^(Lib.bitLen x-1)<=x)
 |0,x,h,_=>by
  have:x=0:=by simpa using h
  subst this;exact⟨by decide+kernel,by decide+kernel,λh=>absurd rfl h⟩
 |k+1,x,h,hk=>by
  by_cases hx:x=0
  ·subst hx;have h0:Lib.bitLen 0=0:=by decide+kernel
   rw[h0];exact⟨oO,dD,λh=>absurd rfl h⟩
  ·have hlt:x<2^64:=dq h (bJ dD hk);obtain⟨h1,h2,h3⟩:=yo k (x/2) (by rw[bC]at h;omega) oO;rw[Lib.bitLen_half x hx hlt];refine⟨oO,?_,λ_=>⟨oO,?_⟩⟩
   ·rw[fc,bC];omega
   ·rw[fH];by_cases h4:x/2=0
    ·rw[h4,show Lib.bitLen 0=0 by decide+kernel];omega
    ·obtain⟨h5,h6⟩:=h3 h4;have:2^Lib.bitLen (x/2)=2^(Lib.bitLen (x/2)-1)*2:=by rw[<-bC];congr 1;omega
     omega
theorem y9 (x:Nat) (w:World) (h0:0<x) (h1:x<km):
  mb Tryz.prog 154 #[.int .u32 x] w λr w'=>(∃c:Nat,c<32/\x*2^c<km/\km<=2*(x*2^c)/\r= .int .i64 c)/\w'=w:=by
 have hB:km=4294967296:=rfl;obtain⟨g1,g2,g3⟩:=yo 32 x oO dD;obtain⟨g4,g5⟩:=g3 oO;have hl:=Qu x w h1;refine enter Tryz.func154 rfl Tryz.ntmps154 rfl ?_;refine J2 ?_;refine jh (kf Tryz.call181 rfl (hl) ?_);rintro r w' ⟨rfl,rfl⟩;refine J2 ?_;refine jt ?_;refine kJ rfl rfl ?_;refine⟨⟨32-Lib.bitLen x,oO,?_,?_,vi rfl oO⟩,rfl⟩
 ·have:x*2^(32-Lib.bitLen x)<2^Lib.bitLen x*2^(32-Lib.bitLen x):=de g2 (cy dD);rw[<-dA,show Lib.bitLen x+(32-Lib.bitLen x)=32 by omega]at this;exact this
 ·have:2^(Lib.bitLen x-1)*2^(32-Lib.bitLen x)<=x*2^(32-Lib.bitLen x):=aI _ g5;rw[<-dA,show Lib.bitLen x-1+(32-Lib.bitLen x)=31 by omega]at this;omega
theorem Hn (x y c:Nat) (w:World) (hx:x<km) (hy:y<km) (hc:c<km):
  mb Tryz.prog 117 #[.int .u32 x,.int .u32 y,.int .u32 c] w λr w'=>
   r= .tuple #[.int .u32 ((x+y+c)%km:Nat),.int .u32 ((x+y+c)/km:Nat)]/\w'=w:=by
 have hB:km=4294967296:=rfl;refine enter Tryz.func117 rfl Tryz.ntmps117 rfl ?_;refine J9 ?_;refine jp (py rfl rfl (r:=((x+y+c:Nat):Int)) (by exact lE _ oO) ?_);refine J2 ?_;refine jp (kT rfl Tryz.underlying141 ⟨_,Tryz.underlying99⟩ (sR _) ?_);refine J2 ?_;refine jp (qu rfl rfl dD (SW _ 32 dD) (jp (kT rfl Tryz.underlying141 ⟨_,Tryz.underlying99⟩ (r:=(((x+y+c)/km:Nat):Int)) (by exact pX _ (by unfold km at*;omega)) ?_)));refine J1 ?_;refine jt ?_;refine rP rfl rfl rfl ?_;exact⟨rfl,rfl⟩
theorem F4 {k:IntKind} (hk:k.signed=false) (m n:Nat) (hm:m<2^k.bits) (hn:n<2^k.bits):qg .xor k m n=((m^^^n:Nat):Int):=by
 have hlt:m^^^n<2^k.bits:=ic hm hn;have h:((m^^^n:Nat):Int)%2^k.bits=((m^^^n:Nat):Int):=jZ oO (by exact_mod_cast hlt);simp only[qg,fT,BitVec.toNat_xor,gn,aW hm,aW hn,IntKind.wrap,hk,jy,h];simp
theorem BC (z:Nat) (hz:z<km):z/2^31=(z.testBit 31).toNat:=by
 have hB:km=4294967296:=rfl;rw[Nat.testBit_eq_decide_div_mod_eq];by_cases h:z/2^31%2=1
 ·rw[ai h];show _=1;omega
 ·rw[ae h];show _=0;omega
theorem JS (x y b:Nat) (hx:x<km) (hy:y<km) (hb:b<=1):
  (((4294967295^^^x)&&&y)|||((4294967295^^^(x^^^y))&&&((x+2*km-y-b)%km)))/2^31=if x<y+b then 1 else 0:=by
 have hB:km=4294967296:=rfl;obtain⟨D,hD⟩:=jz (x+2*km-y-b);rw[<-hD];have hD2:D+y+b=x+2*km:=oO;clear hD;have hd:D%km<km:=bl _ oO;have h2:km=2^32:=rfl;have hz:(((4294967295^^^x)&&&y)|||((4294967295^^^(x^^^y))&&&(D%km)))<km:=by
  rw[h2]at*;exact Nat.or_lt_two_pow (ij _ hy) (ij _ hd)
 rw[BC _ hz];simp only[Nat.testBit_or,Nat.testBit_and,Nat.testBit_xor];rw[show Nat.testBit 4294967295 31=true by decide];have tx:=BC x hx;have ty:=BC y hy;have td:=BC _ hd;revert tx ty td
 generalize x.testBit 31=p;generalize y.testBit 31=q;generalize (D%km).testBit 31=r;intro tx ty td;rcases bH x (y+b)with h|h
 ·rw[aj h];cases p<;>cases q<;>cases r<;>simp only[Bool.toNat,cond]at tx ty td<;>first|rfl|(exfalso;unfold km at*;omega)
 ·rw[ah oO];cases p<;>cases q<;>cases r<;>simp only[Bool.toNat,cond]at tx ty td<;>first|rfl|(exfalso;unfold km at*;omega)
theorem Da (x y b:Nat) (w:World) (hx:x<km) (hy:y<km) (hb:b<=1):
  mb Tryz.prog 161 #[.int .u32 x,.int .u32 y,.int .u32 b] w λr w'=>
   r= .tuple #[.int .u32 ((x+2*km-y-b)%km:Nat),.int .u32 (if x<y+b then 1 else 0:Nat)]/\w'=w:=by
 have hB:km=4294967296:=rfl;have hd:(x+2*km-y-b)%km<km:=bl _ oO;have h2:km=2^IntKind.u32.bits:=rfl;have hxy:x^^^y<2^32:=ic oO oO;have hnx:4294967295^^^x<2^32:=ic dD oO;have hnxy:4294967295^^^(x^^^y)<2^32:=ic dD hxy;have ha1:(4294967295^^^x)&&&y<2^32:=ij _ oO;have ha2:(4294967295^^^(x^^^y))&&&((x+2*km-y-b)%km)<2^32:=ij _ oO;refine enter Tryz.func161 rfl Tryz.ntmps161 rfl ?_;refine J4 ?_;refine jp (sh rfl rfl (tV _) ?_);refine J1 ?_;refine jp (sh rfl rfl (r:=(((x+2*km-y-b)%km:Nat):Int)) (by rw[tV];unfold km at*;omega) ?_);refine J2 ?_;refine jp (S3 rfl (F4 rfl 4294967295 x dD hx) ?_);refine J1 ?_;refine jp (EZ rfl rfl (Gn rfl _ _ hnx hy) ?_);refine J2 ?_;refine jp (Ww rfl rfl (F4 rfl x y hx hy) (jp (S3 rfl (F4 rfl 4294967295 _ dD hxy) ?_)));refine J1 ?_;refine jp (EZ rfl rfl (Gn rfl _ _ hnxy hd) (jp (y7 rfl rfl (rS rfl _ _ ha1 ha2) (jp (qu rfl rfl dD (qN _ 31 dD) ?_)))));refine J1 ?_;refine jt ?_;refine rP rfl rfl rfl ?_;rw[JS x y b hx hy hb];exact⟨rfl,rfl⟩
end Go.Proofs.YtoeiejliehgopaaGreatDoor
