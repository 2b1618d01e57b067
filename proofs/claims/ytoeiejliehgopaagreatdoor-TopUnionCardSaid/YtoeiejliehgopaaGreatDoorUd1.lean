import Derived.Below
import Derived.OwnWalk
import Derived.Orders
import Derived.KernelRfl
import Derived.Laws.StructEq
import Derived.Laws.Shifts
import Derived.Laws.Strings
import Derived.Laws.Small
import Derived.Great.BuildSlice
import Derived.Laws.BytesString
import Derived.Laws.AppendOwnNone
import Derived.Maps.AppendAt
import Derived.Great.FillDense
import Derived.IntWalk
import Derived.Laws.ResultCell
import Derived.Laws.Rows
import Derived.Test.YtoeiejliehgopaaGreatDoorProg
import Derived.Lib.Bytealg
import Derived.Lib.Strings
import Derived.Lib.Slices
import Derived.Lib.Small
import Derived.Lib.Walk
import Derived.Lib.BitFns
set_option linter.defProp false
namespace Go
def ab:=@List.sublist_cons_self
def ae:=@decide_eq_false
def ah:=@if_neg
def ai:=@List.getD_eq_getElem?_getD
def aj:=@if_pos
def ak:=@decide_eq_true
def ao:=@List.sublist_append_right
def ap:=@List.sublist_append_left
def aw:=@List.length_append
def ax:=@Nat.zero_le
def ay:=@List.perm_append_comm
def aB:=@Nat.le_refl
def aF:=@List.append_assoc
def aG:=@List.getElem?_eq_getElem
def aH:=@Nat.mul_le_mul_right
def aI:=@List.mem_cons_of_mem
def aJ:=@List.mem_cons_self
def aK:=@List.append_nil
def aO:=@List.length_map
def aQ:=@List.mem_singleton
def aS:=@Nat.not_lt_zero
def aU:=@List.take_of_length_le
def aW:=@Nat.mul_add
def aZ:=@Nat.mod_eq_of_lt
def ba:=@List.length_cons
def bf:=@Nat.mul_assoc
def bj:=@Bool.and_eq_true
def bk:=@List.Sublist.append
def bl:=@Nat.add_mul
def bn:=@Nat.mul_le_mul_left
def bA:=@Nat.pow_succ
def bB:=@List.mem_append
def bC:=@List.mem_cons
def bF:=@Nat.mul_comm
def bG:=@Nat.mod_lt
def bH:=@Nat.lt_or_ge
def bI:=@congrArg
def bJ:=@List.Sublist.refl
def bK:=@List.take_length
def bM:=@Nat.pow_le_pow_right
def bN:=@Option.some.inj
def bO:=@List.map_append
def bP:=@Rat.le_refl
def bQ:=@List.Perm.append_right
def bR:=@Rat.div_def
def bS:=@Nat.div_eq_of_lt
def bT:=@List.mem_map
def bU:=@List.Perm.append_left
def bV:=@List.getElem?_append_right
def bW:=@List.cons_append
def bX:=@Rat.mul_inv_cancel
def bY:=@Nat.lt_of_le_of_lt
def bZ:=@Nat.zero_add
def ca:=@not_not_intro
def ce:=@List.nil_append
def cj:=@List.length_set
def ct:=@List.not_mem_nil
def cw:=@List.flatMap_cons
def cx:=@Go.IntWalk.i64_in
def cy:=@Nat.pow_pos
def cB:=@List.eq_nil_of_length_eq_zero
def cF:=@Nat.eq_of_beq_eq_true
def cG:=@List.length_take
def cH:=@Nat.div_add_mod
def cI:=@List.flatMap_singleton
def cJ:=@List.all_eq_true
def cK:=@Go.run_underlying
def cO:=@Nat.pow_zero
def cQ:=@Nat.div_div_eq_div_mul
def cS:=@List.mem_range
def cU:=@Nat.add_mul_div_left
def cW:=@Nat.add_sub_cancel_left
def cZ:=@List.getElem?_append_left
def da:=@List.take_append_drop
def db:=@Nat.mul_lt_mul_of_pos_right
def dc:=@Nat.div_lt_of_lt_mul
def de:=@List.nodup_append
def df:=@List.map_cons
def dg:=@List.getElem?_eq_none
def dh:=@Nat.eq_zero_or_pos
def di:=@Go.Result.andThen_ok
def dj:=@Rat.intCast_natCast
def dk:=@List.flatMap_append
def dm:=@Rat.le_of_lt
def dp:=@Bool.or_eq_true
def dq:=@Nat.lt_of_lt_of_le
def dt:=@Nat.le_trans
def du:=@List.mem_flatMap
def dw:=@Rat.lt_irrefl
def dx:=@Array.all_eq_true'
def dy:=@Nat.pow_add
def dz:=@Nat.div_le_self
def dA:=@List.any_eq_true
def dB:=@Nat.lt_irrefl
def dE:=@List.length_range
def dG:=@Nat.one_mul
def dH:=@Nat.mul_pos
def dI:=@List.getElem?_eq_some_iff
def dJ:=@List.drop_eq_getElem_cons
def dK:=@Nat.add_comm
def dN:=@Go.Sem.run_bind
def dP:=@decide_eq_decide
def dQ:=@List.Perm.refl
def dR:=@Nat.add_assoc
def dS:=@List.mem_filter
def dU:=@Nat.sub_self
def dV:=@List.mem_reverse
def dW:=@Rat.one_mul
def dX:=@Nat.mod_one
def dY:=@Nat.le_div_iff_mul_le
def dZ:=@Rat.mul_zero
def d9:=@Nat.add_zero
def ec:=@List.set_cons_zero
def ef:=@decide_eq_false_iff_not
def eg:=@Nat.lt_succ_self
def eh:=@List.mem_flatten
def en:=@List.getElem_map
def eo:=@Nat.dvd_trans
def eu:=@Rat.mkRat_self
def ew:=@List.perm_append_singleton
def ey:=@List.foldl_append
def eC:=@Nat.mul_one
def eD:=@Nat.add_mul_mod_self_left
def eE:=@Nat.le_of_ble_eq_true
def eG:=@List.length_singleton
def eI:=@List.length_replicate
def eJ:=@Nat.sub_add_cancel
def eN:=@List.length_drop
def eO:=@Rat.le_trans
def eP:=@Nat.mul_zero
def eQ:=@List.getElem?_map
def eR:=@Rat.intCast_mul
def eV:=@List.getElem_of_mem
def eW:=@List.flatten_append
def eY:=@List.drop_of_length_le
def eZ:=@Option.getD_some
def fa:=@List.ext_getElem
def fb:=@Nat.mul_le_mul
def fc:=@List.take_zero
def fe:=@List.nodup_nil
def ff:=@Int.tmod_eq_emod_of_nonneg
def fg:=@Int.natCast_nonneg
def fh:=@Go.IntWalk.u64_in
def fi:=@Go.IntWalk.u32_in
def fk:=@Nat.mod_add_div
def fm:=@List.count_cons
def fo:=@or_false
def fp:=@Rat.mul_one
def fq:=@Nat.zero_mul
def ft:=@Nat.gcd_dvd_right
def fu:=@Nat.div_one
def fv:=@List.getElem?_set
def fw:=@Decidable.not_not
def fy:=@List.perm_iff_count
def fz:=@List.length_reverse
def fA:=@Int.toNat_of_nonneg
def fB:=@List.filter_cons
def fC:=@Nat.pow_mul
def fD:=@List.take_append_of_le_length
def fE:=@List.drop_append_of_le_length
def fF:=@decide_eq_true_iff
def fG:=@Rat.num_eq_zero
def fH:=@Rat.mul_eq_zero
def fI:=@List.all_append
def fJ:=@decide_eq_true_eq
def fK:=@List.count_append
def fL:=@Bool.not_eq_true'
def fM:=@List.mem_append_left
def fN:=@BitVec.ofInt_natCast
def fO:=@Rat.zero_mul
def fP:=@Nat.le_of_lt
def fQ:=@Go.IntWalk.u16_in
def fR:=@List.replicate_succ
def fS:=@List.map_congr_left
def fT:=@List.length_pos_iff
def fU:=@Array.length_toList
def fV:=@List.all_cons
def fW:=@Nat.mul_ne_zero
def fX:=@List.length_nil
def fY:=@List.cons.injEq
def fZ:=@Bool.eq_iff_iff
def f9:=@Nat.not_lt
def ga:=@Int.natAbs_natCast
def gf:=@BitVec.toNat_ofNat
def gg:=@dite_true
def gh:=@Nat.or_comm
def gi:=@List.length_eq_zero_iff
def gj:=@List.getElem?_replicate
def gk:=@Go.IntWalk.i64_quo
def gl:=@of_decide_eq_true
def gm:=@Rat.mul_comm
def gn:=@Option.some.injEq
def gq:=@List.flatten_singleton
def gu:=@List.count_nil
def gw:=@List.any_eq_false
def gy:=@Array.getElem?_eq_none
def gz:=@Go.bodyPost_ret
def gA:=@List.set_append_right
def gB:=@List.getElem?_reverse
def gC:=@Classical.choose_spec
def gD:=@Array.mem_of_getElem?
def gE:=@Rat.not_lt
def gF:=@Rat.mkRat_eq_div
def gG:=@Nat.blt_eq
def gH:=@Nat.and_two_pow_sub_one_eq_mod
def gI:=@List.prefix_refl
def gJ:=@List.nil_sublist
def gK:=@List.flatMap_nil
def gL:=@List.eq_nil_iff_forall_not_mem
def gN:=@Nat.le_sub_one_of_lt
def gO:=@List.reverse_reverse
def gP:=@List.mem_of_mem_take
def gQ:=@Rat.natCast_add
def gR:=@Rat.intCast_inj
def gS:=@Nat.min_eq_left
def gT:=@List.nodup_cons
def gU:=@Go.IntWalk.u8_in
def gV:=@Int.natCast_mul
def gW:=@Nat.div_mul_le_self
def gX:=@if_true
def gY:=@Rat.add_zero
def gZ:=@List.map_set
def g8:=@Rat.sub_eq_add_neg
def g9:=@Nat.xor_lt_two_pow
def hJ:=@Nat.mul_lt_mul_of_lt_of_le
def ia:=@Nat.mul_add_mod_self_right
def ib:=@Nat.and_lt_two_pow
def ic:=@Nat.add_sub_cancel
def ie:=@List.filter_append
def ig:=@Array.getElem?_eq_some_iff
def ij:=@Array.any_eq_true'
def ik:=@Go.Sem.run_pure
def im:=@Go.mem_ready
def io:=@Nat.mul_left_comm
def iq:=@Nat.div_pos
def iu:=@List.getElem_take
def iw:=@Go.Lib.bitLen_le8
def ix:=@Int.toNat_natCast
def iy:=@Bool.not_eq_false
def iz:=@Rat.mul_assoc
def iA:=@Nat.gcd_pos_of_pos_right
def iC:=@List.sum_cons
def iD:=@Bool.not_true
def iE:=@Bool.false_or
def iF:=@Go.getD_set_ne
def iG:=@Prod.ext
def iH:=@Nat.le_of_not_lt
def iI:=@Nat.gcd_dvd_left
def iJ:=@List.take_append
def iK:=@List.map_toArray
def iL:=@Rat.zero_add
def iM:=@Rat.intCast_le_intCast
def iN:=@Nat.succ_pos
def iO:=@Nat.lt_trans
def iP:=@List.map_map
def iQ:=@Rat.natCast_mul
def iR:=@Nat.mul_add_div
def iS:=@List.sum_append
def iT:=@List.range_succ
def iU:=@Nat.mul_mod_mul_right
def iV:=@Nat.div_lt_iff_lt_mul
def iW:=@Nat.add_mul_div_right
def iX:=@List.mem_append_right
def iY:=@List.length_filter_le
def iZ:=@List.getElem?_toArray
def i2:=@Go.Oper.upon_value
def i3:=@Nat.pow_one
def i4:=@List.mem_of_getElem?
def i5:=@Go.IntWalk.u64_quo
def i6:=@Int.natAbs_mul
def i7:=@Bool.false_and
def i9:=@Rat.mkRat_mul_right
def jf:=@Rat.le_iff_lt_or_eq
def jg:=@Nat.mul_div_cancel'
def ji:=@List.reverse_append
def jj:=@List.replicate_zero
def jk:=@List.prefix_append
def jy:=@List.map_singleton
def jA:=@List.getElem_range
def jB:=@List.getElem?_take
def jC:=@List.getElem?_drop
def jD:=@Int.natAbs_eq_zero
def jE:=@Bool.false_eq_true
def jF:=@List.set_eq_take_append_cons_drop
def jG:=@if_false
def jH:=@Go.getD_set_true
def jI:=@Ne.symm
def jJ:=@Nat.gcd_one_right
def jK:=@Nat.gcd_comm
def jL:=@List.take_succ_eq_append_getElem
def jM:=@List.reverse_cons
def jN:=@List.pairwise_map
def jO:=@List.map_nil
def jP:=@List.ext_getElem?
def jQ:=@Int.emod_eq_of_lt
def jR:=@Nat.le_max_right
def jS:=@Nat.le_add_right
def jT:=@List.nodup_range
def jU:=@List.getElem_mem
def jV:=@List.getElem_inj
def jW:=@Int.neg_mul
def jX:=@UInt8.toNat_inj
def jZ:=@Rat.natCast_pos
def j0:=@Rat.intCast_sub
def j1:=@Nat.div_lt_self
def j2:=@List.zip_append
def j3:=@List.prefix_append_right_inj
def j4:=@List.length_zip
end Go
set_option maxRecDepth 20000
set_option maxHeartbeats 8000000
namespace Go
theorem jY {p : Prop} (h : p := by assumption) : p := h
theorem oO {p : Prop} (h : p := by omega) : p := h
theorem dD {p : Prop} (h : p := by decide) : p := h
theorem kR {p : Prop} (h : p := by kernel_rfl) : p := h
theorem jz {α : Type _} (a : α) : ∃ x, x = a := ⟨_, rfl⟩
structure Jh (p : Prop) : Prop where x : p
theorem dT {p : Prop} [Decidable p] (h : p := by omega) : decide p = true := ak h
theorem dF {p : Prop} [Decidable p] (h : ¬ p := by omega) : decide p = false := ae h
theorem dO {p : Prop} (h : p := by first | omega | (simp; done) | (simp; omega)) : p := h
theorem dL {p : Prop} (h : p := by first | omega | (simp only [ba, fX]; omega)) : p := h
theorem dM {m n : Nat} (h : Nat.ble m n = true := by exact rfl) : m ≤ n := eE h
end Go
namespace Go.Sx
open Go Go.RowKit
def lW (P:Program) (f:FuncId) (args:Array Value) (w:World) (R:Value->World->Prop):Prop:=
 Calls P f args w λe w'=>∃v,e= .returned v/\R v w'
theorem lW.mono {P:Program} {f:FuncId} {args:Array Value} {w:World} {R R':Value->World->Prop} (h:lW P f args w R) (hr:∀v w',R v w'->R' v w'):lW P f args w R':=
 Calls.mono h λ_ _ ⟨v,he,hR⟩=>⟨v,he,hr _ _ hR⟩
def U9:List Value->Nat->Value
 | [],_=>undef
 |v::_,0=>v
 |_::l,n+1=>U9 l n
def Xm (ρ:Nat->Value) (d:Nat) (v:Value):Nat->Value:=λt=>bif Nat.beq t d then v else ρ t
def sW (ρ:Nat->Value):Option Nat->Value->(Nat->Value)
 |some d,v=>Xm ρ d v
 |none,_=>ρ
def act (N:Nat) (ρ:Nat->Value):Act:=⟨Array.ofFn (n:=N) λi=>ρ i.val,[]⟩
def ev (N:Nat) (ρ:Nat->Value):Operand->Value
 | .tmp t=>bif Nat.blt t N then ρ t else undef
 | .const v=>v
 | .global g=> .pointer (some ⟨g,0,none⟩)
 | .func f=> .func (.func f) #[] #[]
theorem n5 (N:Nat) (ρ:Nat->Value) (t:Nat):(act N ρ).tmps.getD t undef=ev N ρ (.tmp t):=by
 simp only[act,ev];by_cases h:t<N
 ·have hb:Nat.blt t N=true:=by rw[gG];exact h
  simp[hb,Array.getD,h]
 ·have hb:Nat.blt t N=false:=by
   cases h':Nat.blt t N with
   |false=>rfl
   |true=>rw[gG]at h';exact absurd h' h
  simp[hb,Array.getD,h]
theorem ow (N:Nat) (ρ:Nat->Value):(act N ρ).eval=ev N ρ:=by
 funext x;cases x with
 |tmp t=>exact n5 N ρ t
 |_=>rfl
theorem o8 (N:Nat) (ρ:Nat->Value) (d:Option Tmp) (v:Value):(act N ρ).put d v=act N (sW ρ d v):=by
 cases d with
 |none=>rfl
 |some d=>
  simp only[Act.put,act,sW];congr 1;apply Array.ext
  ·simp
  ·intro i h1 h2;rw[Array.getElem_setIfInBounds (by simpa using h2)];simp only[Array.getElem_ofFn,Xm];by_cases h:d=i
   ·subst h;simp
   ·have:Nat.beq i d=false:=by cases h':Nat.beq i d with|false=>rfl|true=>exact absurd (cF h').symm h
    simp[h,this]
theorem MP (args:List Value) (N:Nat) (h:args.length<=N):
  (args.toArray++Array.replicate (N-args.toArray.size) undef)=Array.ofFn (n:=N) λi=>U9 args i.val:=by
 apply Array.ext
 ·simp;omega
 ·intro i h1 h2;have key:∀(l:List Value) (i:Nat) (_:i<l.length),U9 l i=l[i]:=by
   intro l;induction l with
   |nil=>intro i hi;simp at hi
   |cons a l ih=>intro i hi;cases i with
    |zero=>rfl
    |succ i=>simpa[U9]using ih i (by simpa using hi)
  have key2:∀(l:List Value) (i:Nat) (_:l.length<=i),U9 l i=undef:=by
   intro l;induction l with
   |nil=>intro i hi;rfl
   |cons a l ih=>intro i hi;cases i with
    |zero=>simp at hi
    |succ i=>simpa[U9]using ih i (by simpa using hi)
  by_cases hi:i<args.length
  ·rw[Array.getElem_append_left (by simpa using hi)];simp[key args i hi]
  ·rw[Array.getElem_append_right (by simpa using hi)];simp[key2 args i oO]
theorem enter {P:Program} {f:FuncId} {fn:Func} {c:Code} {N:Nat} {l:List Value} {w:World} {R:Value->World->Prop}
  (hf:P.funcs[f]?=some fn) (hb:fn.body=some c) (hN:fn.ntmps=N) (hl:Nat.ble l.length N=true)
  (h:c.wp P (bodyPost P fn λe w'=>∃v,e= .returned v/\R v w') (act N (U9 l)) w):lW P f l.toArray w R:=by
 subst hN;refine calls_of_wp hf hb ?_;rw[MP l fn.ntmps (eE hl)];exact h
section
variable {P : Program} {N : Nat} {ρ : Nat → Value} {w : World} {Q : Exit → Act → World → Prop}
structure wl (P:Program) (ops:Array Oper) (Q:Exit->Act->World->Prop) (l:List Oper) (N:Nat) (ρ:Nat->Value) (w:World):Prop where
 out:wpList P ops Q l (act N ρ) w
theorem G3 {id:Nat} {l:List Oper} (h:wl P l.toArray Q l N ρ w):(Code.region id l.toArray false).wp P Q (act N ρ) w:=wp_region_lit h.out
theorem zp {x y:Code} {a:Act} (h:x.wp P (Exit.then (y.wp P Q) Q) a w):(Code.seq x y).wp P Q a w:=wp_seq h
theorem xB {id:Nat} {c:Code} {a:Act} (h:c.wp P (Exit.inBlock id Q) a w):(Code.block id c).wp P Q a w:=wp_block h
theorem uE {a:Act} (h:Q .normal a w):Code.skip.wp P Q a w:=wp_skip h
theorem L3 {a:Act} (h:Q .ret a w):Code.ret.wp P Q a w:=wp_ret h
theorem Dq {id:Nat} {a:Act} (h:Q (.exit id) a w):(Code.exit id).wp P Q a w:=wp_exit h
theorem W2 {c:Operand} {x y:Code} (p:Prop) [Decidable p] (hc:ev N ρ c= .bool (decide p)) (ht:p->x.wp P Q (act N ρ) w) (hf:¬p->y.wp P Q (act N ρ) w):
  (Code.cond c x y).wp P Q (act N ρ) w:=by
 refine wp_cond_split (t:=decide p) (by rw[ow];exact hc) (λh=>ht (gl h)) (λh=>hf (of_decide_eq_false h))
theorem k9 {c:Operand} {x y:Code} {b:Bool} (hc:ev N ρ c= .bool b) (hb:b=true) (h:x.wp P Q (act N ρ) w):
 (Code.cond c x y).wp P Q (act N ρ) w:=wp_cond_true (by rw[ow,hc,hb]) h
theorem lx {c:Operand} {x y:Code} {b:Bool} (hc:ev N ρ c= .bool b) (hb:b=false) (h:y.wp P Q (act N ρ) w):
 (Code.cond c x y).wp P Q (act N ρ) w:=wp_cond_false (by rw[ow,hc,hb]) h
theorem kx {σ:Type} {c:Code} (I:σ->(Nat->Value)->World->Prop) (μ:σ->Nat) (s₀:σ) (h₀:I s₀ ρ w)
  (round:∀s ρ w,I s ρ w->c.wp P (Exit.then (λa' w'=>∃s' ρ',a'=act N ρ'/\I s' ρ' w'/\μ s'<μ s) Q) (act N ρ) w):
  (Code.loop c).wp P Q (act N ρ) w:=by
 have key:∀n,∀s ρ w,μ s<=n->I s ρ w->∀(b:Frame) (k:List Item) (cs:List Frame),
   ∃e a' w',Q e a' w'/\Arrives P (lone (b.at (act N ρ) (.code c:: .inLoop c::k)) cs w) b k cs e a' w':=by
  intro n;induction n with
  |zero=>
   intro s ρ w hn hI b k cs;obtain⟨e,a₁,w₁,hq,harr⟩:=round s ρ w hI b (.inLoop c::k) cs;cases e with
   |normal=>obtain⟨s',ρ',_,_,hlt⟩:=hq;omega
   |exit id=>exact⟨_,a₁,w₁,hq,.pass (x:= .inLoop c) rfl (λ_ _=> .inl (by simp)) harr⟩
   |goto l=>exact⟨_,a₁,w₁,hq,.pass (x:= .inLoop c) rfl (λ_ _=> .inl (by simp)) harr⟩
   |ret=>exact⟨_,a₁,w₁,hq,.pass (x:= .inLoop c) rfl (λ_ _=> .inl (by simp)) harr⟩
   |panic ch=>exact⟨_,a₁,w₁,hq,.pass (x:= .inLoop c) rfl (λ_ _=> .inl (by simp)) harr⟩
   |outgrown=>exact⟨_,a₁,w₁,hq,.pass (x:= .inLoop c) rfl (λ_ _=> .inl (by simp)) harr⟩
  |succ n ih=>
   intro s ρ w hn hI b k cs;obtain⟨e,a₁,w₁,hq,harr⟩:=round s ρ w hI b (.inLoop c::k) cs;cases e with
   |normal=>
    obtain⟨s',ρ',rfl,hI',hlt⟩:=hq;obtain⟨e₂,a₂,w₂,hq₂,harr₂⟩:=ih s' ρ' w₁ oO hI' b k cs;exact⟨e₂,a₂,w₂,hq₂,.of_steps (Steps.trans harr (.one step_inLoop)) harr₂⟩
   |exit id=>exact⟨_,a₁,w₁,hq,.pass (x:= .inLoop c) rfl (λ_ _=> .inl (by simp)) harr⟩
   |goto l=>exact⟨_,a₁,w₁,hq,.pass (x:= .inLoop c) rfl (λ_ _=> .inl (by simp)) harr⟩
   |ret=>exact⟨_,a₁,w₁,hq,.pass (x:= .inLoop c) rfl (λ_ _=> .inl (by simp)) harr⟩
   |panic ch=>exact⟨_,a₁,w₁,hq,.pass (x:= .inLoop c) rfl (λ_ _=> .inl (by simp)) harr⟩
   |outgrown=>exact⟨_,a₁,w₁,hq,.pass (x:= .inLoop c) rfl (λ_ _=> .inl (by simp)) harr⟩
 intro b k cs;obtain⟨e,a',w',hq,harr⟩:=key _ s₀ ρ w (aB _) h₀ b k cs;exact⟨e,a',w',hq,.of_steps (.one step_loop) harr⟩
theorem kz {x:Code} (M:(Nat->Value)->World->Prop) (hx:x.wp P (Exit.then (λa' w'=>∃ρ',a'=act N ρ'/\M ρ' w') Q) (act N ρ) w)
  (hy:∀ρ w,M ρ w->Q .normal (act N ρ) w):x.wp P Q (act N ρ) w:=by
 refine Code.wp_mono (λe a w h=> ?_) hx;cases e<;>first|exact h|(obtain⟨ρ',rfl,hM⟩:=h;exact hy _ _ hM)
theorem uC {a:Act} {K:Act->World->Prop} (h:K a w):Exit.then K Q .normal a w:=h
theorem pz {a:Act} {K:Act->World->Prop} (h:Q .ret a w):Exit.then K Q .ret a w:=h
theorem oT {a:Act} {K:Act->World->Prop} {i:Nat} (h:Q (.exit i) a w):Exit.then K Q (.exit i) a w:=h
theorem tz {id:Nat} {a:Act} (h:Q .normal a w):Exit.inBlock id Q .normal a w:=h
theorem oU {id:Nat} {a:Act} (h:Q .ret a w):Exit.inBlock id Q .ret a w:=h
theorem ot {id:Nat} {a:Act} (h:Q .normal a w):Exit.inBlock id Q (.exit id) a w:=by simp only[Exit.inBlock,gX];exact h
theorem ol {id i:Nat} {a:Act} (hi:Nat.beq i id=false) (h:Q (.exit i) a w):Exit.inBlock id Q (.exit i) a w:=by
 have:¬i=id:=λe=>by subst e;simp at hi
 simp only[Exit.inBlock,this,jG];exact h
theorem kD {fn:Func} {t:Nat} {R:Value->World->Prop} {v:Value} (hr:fn.results= #[.tmp t]) (hv:ev N ρ (.tmp t)=v) (h:R v w):
  bodyPost P fn (λe w'=>∃v,e= .returned v/\R v w') .ret (act N ρ) w:=
 gz (results_tmp hr _ _ _) rfl ⟨_,rfl,by rw[n5,hv];exact h⟩
theorem rH {fn:Func} {t u:Nat} {R:Value->World->Prop} {x y:Value} (hr:fn.results= #[.tmp t,.tmp u]) (hx:ev N ρ (.tmp t)=x) (hy:ev N ρ (.tmp u)=y) (h:R (.tuple #[x,y]) w):
  bodyPost P fn (λe w'=>∃v,e= .returned v/\R v w') .ret (act N ρ) w:=
 gz (results_tmp2 hr _ _ _) rfl ⟨_,rfl,by rw[n5,n5,hx,hy];exact h⟩
theorem qf {fn:Func} {R:Value->World->Prop} (hr:fn.results= #[]) (h:R (.tuple #[]) w):
  bodyPost P fn (λe w'=>∃v,e= .returned v/\R v w') .normal (act N ρ) w:=
 bodyPost_end (results_none hr _ _ _) rfl ⟨_,rfl,h⟩
end
def gd (ops:Array Oper) (N:Nat) (ρ:Nat->Value):Option (Nat×Bool)->Bool
 |none=>true
 |some (j,b)=>match(ops[j]?).bind (·.dst)with
  |some d=>match ev N ρ (.tmp d)with
   | .bool c=>c==b
   |_=>false
  |none=>false
theorem oN (ops:Array Oper) (N:Nat) (ρ:Nat->Value) (o:Oper) (h:gd ops N ρ o.guard=true):Region.wanted o (yielded ops (act N ρ).tmps)=true:=by
 unfold Region.wanted;cases hg:o.guard with
 |none=>rfl
 |some p=>
  obtain⟨j,b⟩:=p;rw[hg]at h;simp only[gd]at h;simp only;split at h
  ·rename_i d hd;have ht:=n5 N ρ d;split at h
   ·rename_i c hc;rw[hc]at ht;have hq:(act N ρ).tmps[d]?=some (.bool c):=by
     rw[Array.getD_eq_getD_getElem?]at ht;cases hx:(act N ρ).tmps[d]?with
     |none=>rw[hx]at ht;exact absurd ht (by simp[undef])
     |some x=>rw[hx]at ht;simpa using ht
    unfold yielded;rw[hd];simp only[Option.bind_some,hq];simpa using h
   ·cases h
  ·cases h
def S4 (ops:Array Oper) (N:Nat) (ρ:Nat->Value):Option (Nat×Bool)->Bool
 |none=>false
 |some (j,b)=>match(ops[j]?).bind (·.dst)with
  |some d=>match ev N ρ (.tmp d)with
   | .bool c=>c !=b
   |_=>true
  |none=>false
theorem B7 (ops:Array Oper) (N:Nat) (ρ:Nat->Value) (o:Oper) (h:S4 ops N ρ o.guard=true):Region.wanted o (yielded ops (act N ρ).tmps)=false:=by
 unfold Region.wanted;cases hg:o.guard with
 |none=>rw[hg]at h;cases h
 |some p=>
  obtain⟨j,b⟩:=p;rw[hg]at h;simp only[S4]at h;simp only;split at h
  ·rename_i d hd;have ht:=n5 N ρ d;unfold yielded;rw[hd];simp only[Option.bind_some];cases hx:(act N ρ).tmps[d]?with
   |none=>rfl
   |some x=>
    rw[Array.getD_eq_getD_getElem?,hx]at ht;simp only[eZ]at ht;rw[<-ht]at h;cases x with
    |bool c=>
     simp only at h;cases c<;>cases b<;>simp_all
    |_=>rfl
  ·cases h
theorem j8 {ops:Array Oper} {N:Nat} {ρ:Nat->Value} {j:Nat} {b c:Bool} (d:Nat) (hd:(ops[j]?).bind (·.dst)=some d) (hv:ev N ρ (.tmp d)= .bool c) (hc:c=b):gd ops N ρ (some (j,b))=true:=by
 simp only[gd,hd,hv,hc,beq_self_eq_true]
theorem kb {ops:Array Oper} {N:Nat} {ρ:Nat->Value} {j:Nat} {b c:Bool} (d:Nat) (hd:(ops[j]?).bind (·.dst)=some d) (hv:ev N ρ (.tmp d)= .bool c) (hc:c= !b):S4 ops N ρ (some (j,b))=true:=by
 simp only[S4,hd,hv,hc];cases b<;>rfl
theorem qP {ops:Array Oper} {N:Nat} {ρ:Nat->Value} {j:Nat} {b:Bool} (d:Nat) (hd:(ops[j]?).bind (·.dst)=some d) (hv:ev N ρ (.tmp d)=undef):S4 ops N ρ (some (j,b))=true:=by
 simp only[S4,hd,hv,undef]
theorem vb {v:Value} {c b:Bool} (h:v= .bool c) (hc:c=b):v= .bool b:=by rw[h,hc]
theorem vi {v:Value} {k:IntKind} {m n:Int} (h:v= .int k m) (hc:m=n):v= .int k n:=by rw[h,hc]
theorem vs {v:Value} {s s':ByteArray} (h:v= .string s) (hc:s=s'):v= .string s':=by rw[h,hc]
section
variable {P : Program} {N : Nat} {ρ : Nat → Value} {w w' : World} {Q : Exit → Act → World → Prop} {ops : Array Oper} {rest : List Oper}
  {d : Option Tmp} {ty : TypeId} {pos : String} {aft : Array Edge} {g : Option (Nat × Bool)} {x y z : Operand}
theorem zT (h:Q .normal (act N ρ) w):wl P ops Q [] N ρ w:=⟨wpList_nil h⟩
def mb (P:Program) (N:Nat) (ρ:Nat->Value) (o:Oper) (K:Value->Prop):Prop:=∃v,(∀w,(execOp (ev N ρ) o).run P w= .ok (.value v) w)/\K v
def qU (P:Program) (N:Nat) (ρ:Nat->Value) (w:World) (o:Oper) (K:Value->Prop):Prop:=
 ∃v,(∀w',Below w.heap.size w w'->(execOp (ev N ρ) o).run P w'= .ok (.value v) w')/\K v
def HW (P:Program) (K:Value->World->Prop):Result Next->Prop
 | .ok (.value v) w'=>K v w'
 | .ok .skip w'=>K undef w'
 | .ok (.enter f args) w'=>lW P f args w' K
 |_=>False
structure pi (P:Program) (N:Nat) (ρ:Nat->Value) (w:World) (o:Oper) (K:Value->World->Prop):Prop where
 out:HW P K ((execOp (ev N ρ) o).run P w)
theorem oB {K K':Value->World->Prop} (hk:∀v w,K v w->K' v w) {r:Result Next} (h:HW P K r):HW P K' r:=by
 cases r with
 |ok n w'=>cases n<;>first|exact hk _ _ h|exact lW.mono h hk|exact h.elim
 |halt x w'=>exact h.elim
theorem oS {p:Op} (hg:gd ops N ρ g=true) (h:pi P N ρ w ⟨d,p,ty,pos,aft,g⟩ λv w'=>wl P ops Q rest N (sW ρ d v) w'):wl P ops Q (⟨d,p,ty,pos,aft,g⟩::rest) N ρ w:=by
 constructor;unfold wpList;rw[aj (oN ops N ρ ⟨d,p,ty,pos,aft,g⟩ hg)];refine .inl ?_;unfold Oper.wp;rw[ow];have h:=h.out;generalize (execOp (ev N ρ) ⟨d,p,ty,pos,aft,g⟩).run P w=r at*;cases r with
 |halt x w'=>exact h.elim
 |ok n w'=>
  cases n with
  |value v=>rw[i2,o8];exact wl.out h
  |skip=>rw[Oper.upon_skip,o8];exact wl.out h
  |enter f args=>
   rw[Oper.upon_enter];refine Calls.mono h ?_;rintro e w1 ⟨v,rfl,hR⟩;simp only[o8];exact wl.out hR
  |_=>exact h.elim
theorem lD {p:Op} (hg:gd ops N ρ g=true) (h:qU P N ρ w ⟨d,p,ty,pos,aft,g⟩ λv=>wl P ops Q rest N (sW ρ d v) w):wl P ops Q (⟨d,p,ty,pos,aft,g⟩::rest) N ρ w:=by
 obtain⟨v,hv,hK⟩:=h;refine oS hg ⟨?_⟩;rw[hv w (Below.refl _ _)];exact hK
theorem kf {p:Op} (hg:gd ops N ρ g=true) (h:mb P N ρ ⟨d,p,ty,pos,aft,g⟩ λv=>wl P ops Q rest N (sW ρ d v) w):wl P ops Q (⟨d,p,ty,pos,aft,g⟩::rest) N ρ w:=by
 obtain⟨v,hv,hK⟩:=h;exact lD hg ⟨v,λw' _=>hv w',hK⟩
theorem kN {p:Op} (hg:S4 ops N ρ g=true) (h:wl P ops Q rest N (sW ρ d undef) w):wl P ops Q (⟨d,p,ty,pos,aft,g⟩::rest) N ρ w:=by
 constructor;unfold wpList;rw[ah (by rw[B7 ops N ρ ⟨d,p,ty,pos,aft,g⟩ hg];decide),o8];exact h.out
variable {K : Value → Prop} {K2 : Value → World → Prop}
theorem n7 {o:Oper} {v:Value} (hr:(execOp (ev N ρ) o).run P w= .ok (.value v) w') (h:K2 v w'):pi P N ρ w o K2:=⟨by rw[hr];exact h⟩
theorem Bg {o:Oper} (hr:(execOp (ev N ρ) o).run P w= .ok .skip w') (h:K2 undef w'):pi P N ρ w o K2:=⟨by rw[hr];exact h⟩
theorem j7 {f:FuncId} {xs:List Operand} {ats:Array TypeId} {args:List Value} {R:Value->World->Prop}
  (hcall:∀args w,(callFunc f args).run P w= .ok (.enter f args) w) (hargs:xs.map (ev N ρ)=args)
  (hc:lW P f args.toArray w R) (h:∀v w',R v w'->K2 v w'):
  pi P N ρ w ⟨d,.call ⟨.value (.func f),xs.toArray,ats⟩,ty,pos,aft,g⟩ K2:=by
 have hr:(execOp (ev N ρ) ⟨d,.call ⟨.value (.func f),xs.toArray,ats⟩,ty,pos,aft,g⟩).run P w= .ok (.enter f args.toArray) w:=by
  have:=hcall args.toArray w;simp only[execOp,resolve,ev,Deferred.ofValue,invoke,iK,hargs,dN,ik,di,Array.empty_append,Array.append_empty];exact this
 constructor;rw[hr];exact hc.mono h
theorem zN {f:FuncId} {t:Nat} {cap:List Value} {xs:List Operand} {ats:Array TypeId} {args:List Value} {R:Value->World->Prop}
  (hcall:∀args w,(callFunc f args).run P w= .ok (.enter f args) w) (hf:ev N ρ (.tmp t)= .func (.func f) #[] cap.toArray) (hargs:xs.map (ev N ρ)++cap=args)
  (hc:lW P f args.toArray w R) (h:∀v w',R v w'->K2 v w'):
  pi P N ρ w ⟨d,.call ⟨.value (.tmp t),xs.toArray,ats⟩,ty,pos,aft,g⟩ K2:=by
 have hr:(execOp (ev N ρ) ⟨d,.call ⟨.value (.tmp t),xs.toArray,ats⟩,ty,pos,aft,g⟩).run P w= .ok (.enter f args.toArray) w:=by
  have:=hcall args.toArray w;simp only[execOp,resolve,hf,Deferred.ofValue,invoke,iK,dN,ik,di,List.append_toArray,ce,hargs];exact this
 constructor;rw[hr];exact hc.mono h
theorem ks {v:Value} (hx:ev N ρ x=v) (h:K v):mb P N ρ ⟨d,.move x,ty,pos,aft,g⟩ K:=
 ⟨_,λw=>(by simp[execOp,hx]),h⟩
theorem ou {v:Value} (hx:ev N ρ x=v) (h:K v):mb P N ρ ⟨d,.assign x,ty,pos,aft,g⟩ K:=
 ⟨_,λw=>(by simp[execOp,hx]),h⟩
theorem kC {v:Value} {b:Bool} (hx:ev N ρ x= .bool b) (hv:(bif b then ev N ρ y else ev N ρ z)=v) (h:K v):
  mb P N ρ ⟨d,.pick x y z,ty,pos,aft,g⟩ K:=
 ⟨_,λw=>(by subst hv;cases b<;>simp[execOp,hx,asBool]),h⟩
theorem wA {i:Nat} {vs:Array Value} {v:Value} (hx:ev N ρ x= .tuple vs) (hv:vs[i]?=some v) (h:K v):
  mb P N ρ ⟨d,.extract x i,ty,pos,aft,g⟩ K:=
 ⟨_,λw=>(by simp[execOp,hx,Instr.extract,hv]),h⟩
theorem Vz {fn:Fn} {fs cs:List Operand} {vf vc:List Value} (hf:fs.map (ev N ρ)=vf) (hc:cs.map (ev N ρ)=vc) (h:K (.func fn vf.toArray vc.toArray)):
  mb P N ρ ⟨d,.makeFunc fn fs.toArray cs.toArray,ty,pos,aft,g⟩ K:=
 ⟨_,λw=>(by simp[execOp,hf,hc,Instr.makeFunc]),h⟩
variable {k k' : IntKind} {m n r : Int} {t t' : TypeId}
theorem pe (hx:ev N ρ x= .int k m) (hy:ev N ρ y= .int k n) (hr:k.wrap (m+n)=r) (h:K (.int k r)):
  mb P N ρ ⟨d,.binOp .add t x y t',ty,pos,aft,g⟩ K:=
 ⟨_,λw=>(by simp[execOp,hx,hy,eqGuard,binOp,Op.intArith,hr]),h⟩
theorem sG (hx:ev N ρ x= .int k m) (hy:ev N ρ y= .int k n) (hr:k.wrap (m-n)=r) (h:K (.int k r)):
  mb P N ρ ⟨d,.binOp .sub t x y t',ty,pos,aft,g⟩ K:=
 ⟨_,λw=>(by simp[execOp,hx,hy,eqGuard,binOp,Op.intArith,hr]),h⟩
theorem ws (hx:ev N ρ x= .int k m) (hy:ev N ρ y= .int k n) (hr:k.wrap (m*n)=r) (h:K (.int k r)):
  mb P N ρ ⟨d,.binOp .mul t x y t',ty,pos,aft,g⟩ K:=
 ⟨_,λw=>(by simp[execOp,hx,hy,eqGuard,binOp,Op.intArith,hr]),h⟩
theorem sF (hx:ev N ρ x= .int k m) (hy:ev N ρ y= .int k n) (hn:n≠0) (hr:k.wrap (m.tdiv n)=r) (h:K (.int k r)):
  mb P N ρ ⟨d,.binOp .quo t x y t',ty,pos,aft,g⟩ K:=
 ⟨_,λw=>(by simp[execOp,hx,hy,eqGuard,binOp,Op.intDiv,hn,hr]),h⟩
theorem pY (hx:ev N ρ x= .int k m) (hy:ev N ρ y= .int k n) (hn:n≠0) (hr:m.tmod n=r) (h:K (.int k r)):
  mb P N ρ ⟨d,.binOp .rem t x y t',ty,pos,aft,g⟩ K:=
 ⟨_,λw=>(by simp[execOp,hx,hy,eqGuard,binOp,Op.intDiv,hn,hr]),h⟩
theorem uV (hx:ev N ρ x= .int k m) (hy:ev N ρ y= .int k' n) (hn:0<=n) (hr:k.wrap (m*2^(min n.toNat k.bits))=r) (h:K (.int k r)):
  mb P N ρ ⟨d,.binOp .shl t x y t',ty,pos,aft,g⟩ K:=
 ⟨_,λw=>(by simp[execOp,hx,hy,eqGuard,binOp,Op.shift,Int.not_lt.2 hn,hr]),h⟩
theorem pX (hx:ev N ρ x= .int k m) (hy:ev N ρ y= .int k' n) (hn:0<=n) (hr:m.fdiv (2^(min n.toNat k.bits))=r) (h:K (.int k r)):
  mb P N ρ ⟨d,.binOp .shr t x y t',ty,pos,aft,g⟩ K:=
 ⟨_,λw=>(by simp[execOp,hx,hy,eqGuard,binOp,Op.shift,Int.not_lt.2 hn,hr]),h⟩
def pO (op:BinOp) (k:IntKind) (x y:Int):Int:=
 let a:=BitVec.ofInt k.bits x
 let b:=BitVec.ofInt k.bits y
 k.wrap (match op with
 | .and=>(a&&&b).toNat
 | .or=>(a|||b).toNat
 | .xor=>(a^^^b).toNat
 |_=>(a&&& ~~~b).toNat)
theorem Eo (hx:ev N ρ x= .int k m) (hy:ev N ρ y= .int k n) (hr:pO .and k m n=r) (h:K (.int k r)):
  mb P N ρ ⟨d,.binOp .and t x y t',ty,pos,aft,g⟩ K:=
 ⟨_,λw=>(by subst hr;simp[execOp,hx,hy,eqGuard,binOp,Op.intBits,pO]),h⟩
theorem zc (hx:ev N ρ x= .int k m) (hy:ev N ρ y= .int k n) (hr:pO .or k m n=r) (h:K (.int k r)):
  mb P N ρ ⟨d,.binOp .or t x y t',ty,pos,aft,g⟩ K:=
 ⟨_,λw=>(by subst hr;simp[execOp,hx,hy,eqGuard,binOp,Op.intBits,pO]),h⟩
theorem Wf (hx:ev N ρ x= .int k m) (hy:ev N ρ y= .int k n) (hr:pO .xor k m n=r) (h:K (.int k r)):
  mb P N ρ ⟨d,.binOp .xor t x y t',ty,pos,aft,g⟩ K:=
 ⟨_,λw=>(by subst hr;simp[execOp,hx,hy,eqGuard,binOp,Op.intBits,pO]),h⟩
theorem wm (hx:ev N ρ x= .int k m) (hy:ev N ρ y= .int k n) (h:K (.bool (decide (m<n)))):
  mb P N ρ ⟨d,.binOp .lss t x y t',ty,pos,aft,g⟩ K:=
 ⟨_,λw=>(by simp[execOp,hx,hy,eqGuard,binOp,Op.intCmp]),h⟩
theorem Ts (hx:ev N ρ x= .int k m) (hy:ev N ρ y= .int k n) (h:K (.bool (decide (m<=n)))):
  mb P N ρ ⟨d,.binOp .leq t x y t',ty,pos,aft,g⟩ K:=
 ⟨_,λw=>(by simp[execOp,hx,hy,eqGuard,binOp,Op.intCmp]),h⟩
theorem uc (hx:ev N ρ x= .int k m) (hy:ev N ρ y= .int k n) (h:K (.bool (decide (n<m)))):
  mb P N ρ ⟨d,.binOp .gtr t x y t',ty,pos,aft,g⟩ K:=
 ⟨_,λw=>(by simp[execOp,hx,hy,eqGuard,binOp,Op.intCmp]),h⟩
theorem y3 (hx:ev N ρ x= .int k m) (hy:ev N ρ y= .int k n) (h:K (.bool (decide (n<=m)))):
  mb P N ρ ⟨d,.binOp .geq t x y t',ty,pos,aft,g⟩ K:=
 ⟨_,λw=>(by simp[execOp,hx,hy,eqGuard,binOp,Op.intCmp]),h⟩
theorem qd (hx:ev N ρ x= .int k m) (hy:ev N ρ y= .int k n) (h:K (.bool (decide (m=n)))):
  mb P N ρ ⟨d,.binOp .eql t x y t',ty,pos,aft,g⟩ K:=
 ⟨.bool (decide (m=n)),λw=>(by
  have:(m==n)=decide (m=n):=rfl;simp[execOp,hx,hy,eqGuard,binOp,Op.intCmp,this]),h⟩
theorem My (hx:ev N ρ x= .int k m) (hy:ev N ρ y= .int k n) (h:K (.bool (decide (m≠n)))):
  mb P N ρ ⟨d,.binOp .neq t x y t',ty,pos,aft,g⟩ K:=
 ⟨.bool (decide (m≠n)),λw=>(by
  have:(m !=n)=decide (m≠n):=by rw[fZ];simp
  simp[execOp,hx,hy,eqGuard,binOp,Op.intCmp,this]),h⟩
theorem kJ (hx:ev N ρ x= .int k m) (hk:P.underlying t'=some (.int k')) (hs:∃e,P.underlying t=some e) (hr:k'.wrap m=r) (h:K (.int k' r)):
  mb P N ρ ⟨d,.convert t t' x,ty,pos,aft,g⟩ K:=by
 obtain⟨e,he⟩:=hs;refine⟨_,λw=> ?_,h⟩;subst hr;simp[execOp,hx,convert,underlying,he,hk,Conv.intToInt]
theorem x9 {b:Bool} (hx:ev N ρ x= .bool b) (h:K (.bool !b)):
  mb P N ρ ⟨d,.unOp .not t x,ty,pos,aft,g⟩ K:=
 ⟨_,λw=>(by simp[execOp,hx,Op.unary]),h⟩
theorem OI (hx:ev N ρ x= .int k m) (hr:k.wrap (0-m)=r) (h:K (.int k r)):
  mb P N ρ ⟨d,.unOp .neg t x,ty,pos,aft,g⟩ K:=
 ⟨_,λw=>(by subst hr;simp[execOp,hx,Op.unary,Op.intArith]),h⟩
theorem S1 (hx:ev N ρ x= .int k m) (hr:pO .xor k (if k.signed then-1 else k.max) m=r) (h:K (.int k r)):
  mb P N ρ ⟨d,.unOp .xor t x,ty,pos,aft,g⟩ K:=
 ⟨_,λw=>(by subst hr;simp[execOp,hx,Op.unary,Op.intBits,pO]),h⟩
theorem Vy {b c:Bool} (hx:ev N ρ x= .bool b) (hy:ev N ρ y= .bool c) (ht:P.underlying t=some .bool) (h:K (.bool (b==c))):
  mb P N ρ ⟨d,.binOp .eql t x y t',ty,pos,aft,g⟩ K:=
 ⟨_,λw=>(by simp[execOp,hx,hy,eqGuard,run_eql_bool w t b c ht]),h⟩
theorem Co {b c:Bool} (hx:ev N ρ x= .bool b) (hy:ev N ρ y= .bool c) (ht:P.underlying t=some .bool) (h:K (.bool (b !=c))):
  mb P N ρ ⟨d,.binOp .neq t x y t',ty,pos,aft,g⟩ K:=
 ⟨.bool (!(b==c)),λw=>(by simp[execOp,hx,hy,eqGuard,run_neq_bool w t b c ht,-bne_iff_ne,-Bool.not_eq_eq_eq_not]),h⟩
variable {s s' : ByteArray}
theorem NP (s s':ByteArray):(s.toList==s'.toList)=decide (s=s'):=by
 rw[fZ];simp only[beq_iff_eq,fJ];constructor
 ·intro h;cases s;cases s'
  rename_i a b;rw[ByteArray.toList_eq,ByteArray.toList_eq]at h;congr 1;exact Array.ext' h
 ·rintro rfl;rfl
theorem tr (hx:ev N ρ x= .string s) (hy:ev N ρ y= .string s') (h:K (.bool (decide (s=s')))):
  mb P N ρ ⟨d,.binOp .eql t x y t',ty,pos,aft,g⟩ K:=
 ⟨_,λw=>(by simp only[execOp,hx,hy,eqGuard,binOp,Op.stringOp,NP];simp),h⟩
theorem wv (hx:ev N ρ x= .string s) (hy:ev N ρ y= .string s') (h:K (.bool (decide (s≠s')))):
  mb P N ρ ⟨d,.binOp .neq t x y t',ty,pos,aft,g⟩ K:=
 ⟨.bool (decide (s≠s')),λw=>(by simp only[execOp,hx,hy,eqGuard,binOp,Op.stringOp,NP];simp),h⟩
theorem PB (hx:ev N ρ x= .string s) (ht:P.underlying t=some .string) (h:K (.int .i64 s.size)):
  mb P N ρ ⟨d,.call ⟨.builtin .len,#[x],#[t]⟩,ty,pos,aft,g⟩ K:=
 ⟨_,λw=>(by simp[execOp,resolve,invoke,builtin,hx,Builtin.len_,underlying,ht,goInt]),h⟩
theorem wU {i:Nat} (hx:ev N ρ x= .string s) (hy:ev N ρ y= .int k m) (hm:m=(i:Int)) (hi:i<s.size) (ht:P.underlying t=some .string)
  (h:K (.int .u8 (s[i]'hi).toNat)):
  mb P N ρ ⟨d,.index t x y,ty,pos,aft,g⟩ K:=by
 subst hm;refine⟨_,λw=> ?_,h⟩;have h1:s[i]?=some (s[i]'hi):=by simp[hi]
 simp[execOp,hx,hy,Instr.index,asIntOf,underlying,ht,h1]
theorem FT {lo:Nat} {kl:IntKind} {ml:Int} (hx:ev N ρ x= .string s) (hl:ev N ρ y= .int kl ml) (hml:ml=(lo:Int))
  (h1:lo<=s.size) (ht:P.underlying t=some .string) (h:K (.string (s.extract lo s.size))):
  mb P N ρ ⟨d,.slice t x (some y) none none,ty,pos,aft,g⟩ K:=by
 subst hml;refine⟨_,λw=> ?_,h⟩;simp[execOp,hx,hl,Instr.sliceAt,Instr.slice,Instr.sliceBounds,Instr.sliceBound,asIntOf,underlying,ht,h1]
end
theorem add_lit (b o n:Nat):(⟨b,o,none⟩:Addr).add n=⟨b,o+n,none⟩:=by unfold Addr.add;split<;>simp_all
theorem add_zero (a:Addr):a.add 0=a:=by simp[Addr.add]
def At (w:World) (a:Addr) (cs:List Value):Prop:=∀j u,cs[j]?=some u->w.cell? (a.add j)=some u
theorem At.j5 {w w':World} {a:Addr} {cs:List Value} (h:At w a cs) (hb:Below w.heap.size w w'):At w' a cs:=λj u hu=>by
 have h1:=h j u hu;rw[hb.cell (by have:=World.block_lt_of_cell? w _ h1;exact this)];exact h1
theorem At.one {w:World} {a:Addr} {u:Value} (h:w.cell? a=some u):At w a [u]:=λj v hv=>by
 cases j with
 |zero=>simp at hv;subst hv;rw[add_zero];exact h
 |succ j=>simp at hv
theorem At.head {w:World} {a:Addr} {u:Value} {cs:List Value} (h:At w a (u::cs)):w.cell? a=some u:=by
 have:=h 0 u rfl;rwa[add_zero]at this
theorem At.seg {w:World} {b o:Nat} {cs:List Value} (h:At w ⟨b,o,none⟩ cs) (k n:Nat):At w ⟨b,o+k,none⟩ ((cs.drop k).take n):=λj u hu=>by
 rw[add_lit];have h2:cs[k+j]?=some u:=by
  rw[jB]at hu;split at hu
  ·rw[jC]at hu;exact hu
  ·cases hu
 have:=h (k+j) u h2;rw[add_lit]at this;rw[dR];exact this
theorem At.of_heap {w:World} {b:Nat} {cs:List Value} {t:TypeId} {fr:Nat×Nat} (h:w.heap[b]?=some (.cells cs.toArray t fr)) (k n:Nat):At w ⟨b,k,none⟩ ((cs.drop k).take n):=by
 have:At w ⟨b,0,none⟩ cs:=λj u hu=>by
  rw[add_lit,cell_of_row w b _ cs.toArray t fr h];simpa using hu
 have h2:=this.seg k n;simpa using h2
def tW:Value->Addr
 | .slice (some a) _ _=>a
 |_=>⟨0,0,none⟩
structure Sl {α:Type} (enc:α->List Value) (size:Nat) (w:World) (v:Value) (L:List α):Prop where
 form:∃a cap,v= .slice a L.length cap/\L.length<=cap/\cap<=maxLen/\(a=none->cap=0)
 elt:∀i (h:i<L.length),At w ((tW v).add (i*size)) (enc L[i])
section
variable {α : Type} {enc : α → List Value} {size : Nat} {w w' : World} {v : Value} {L : List α}
theorem Sl.j5 (h:Sl enc size w v L) (hb:Below w.heap.size w w'):Sl enc size w' v L:=⟨h.form,λi hi=>(h.elt i hi).j5 hb⟩
theorem Sl.maxLen (h:Sl enc size w v L):L.length<=9223372036854775807:=by
 obtain⟨a,cap,_,h1,h2,_⟩:=h.form;unfold Go.maxLen at h2;omega
theorem Sl.at (h:Sl enc size w v L) {i:Nat} (hi:i<L.length) (d:α):At w ((tW v).add (i*size)) (enc (L.getD i d)):=by
 have:=h.elt i hi;simpa[List.getD,hi]using this
theorem Sl.nil (enc:α->List Value) (size:Nat) (w:World):Sl enc size w (.slice none 0 0) []:=⟨⟨none,0,rfl,aB _,ax _,λ_=>rfl⟩,λi hi=>by simp at hi⟩
theorem flat_get (hu:∀x,(enc x).length=size) (L:List α) (i j:Nat) (hi:i<L.length) (hj:j<size):(L.flatMap enc)[i*size+j]?=(enc L[i])[j]?:=by
 induction L generalizing i with
 |nil=>simp at hi
 |cons x L ih=>
  cases i with
  |zero=>
   rw[cw,fq,bZ,cZ (by rw[hu];exact hj)];rfl
  |succ i=>
   rw[cw,bV (by rw[hu,bl];omega),hu,bl];rw[show i*size+1*size+j-size=i*size+j by omega,ih i (by simpa using hi)];rfl
theorem lK (hu:∀x,(enc x).length=size) (L:List α):(L.flatMap enc).length=L.length*size:=by
 induction L with
 |nil=>simp
 |cons x L ih=>rw[cw,aw,hu,ih,ba,bl];omega
theorem Sl.of_heap {b:Nat} {t:TypeId} {fr:Nat×Nat} {spare:List Value} {cap:Nat} (hu:∀x,(enc x).length=size)
  (h:w.heap[b]?=some (.cells (L.flatMap enc++spare).toArray t fr)) (h1:L.length<=cap) (h2:cap<=Go.maxLen):Sl enc size w (.slice (some ⟨b,0,none⟩) L.length cap) L:=by
 refine⟨⟨some ⟨b,0,none⟩,cap,rfl,h1,h2,λh=>by cases h⟩,λi hi j u hj=> ?_⟩;have hj':j<size:=by
  have:=(dI.1 hj).1;rwa[hu]at this
 rw[show tW (.slice (some ⟨b,0,none⟩) L.length cap)=⟨b,0,none⟩from rfl,add_lit,add_lit,cell_of_row w b _ _ t fr h];have hlt:i*size+j<(L.flatMap enc).length:=by
  rw[lK hu];have:(i+1)*size<=L.length*size:=aH _ hi;rw[bl]at this;omega
 simp only[iZ,bZ];rw[cZ hlt,flat_get hu L i j hi hj'];exact hj
end
abbrev kV:=Nat×TypeId×List Value
structure St (w0 w:World) (H:List kV):Prop where
 j5:Below w0.heap.size w0 w
 own:∀e∈H,w0.heap.size<=e.1/\w.heap[e.1]?=some (.cells e.2.2.toArray e.2.1 (0,0))
 nd:(H.map (·.1)).Nodup
section
variable {w0 w w' : World} {H H' : List kV} {b k : Nat} {t : TypeId} {cs : List Value}
theorem St.init (w:World):St w w []:=⟨Below.refl _ _,λe he=>(by cases he),List.Pairwise.nil⟩
theorem St.lt (h:St w0 w H) {e:kV} (he:e∈H):e.1<w.heap.size:=(ig.1 (h.own e he).2).1
theorem St.get (h:St w0 w H) (hk:H[k]?=some (b,t,cs)):w.heap[b]?=some (.cells cs.toArray t (0,0)):=(h.own _ (i4 hk)).2
theorem St.ge (h:St w0 w H) (hk:H[k]?=some (b,t,cs)):w0.heap.size<=b:=(h.own _ (i4 hk)).1
theorem St.at (h:St w0 w H) (hk:H[k]?=some (b,t,cs)) (o n:Nat):At w ⟨b,o,none⟩ ((cs.drop o).take n):=At.of_heap (h.get hk) o n
theorem St.ko (h:St w0 w H) (hb:Below w.heap.size w w'):St w0 w' H:=
 ⟨h.j5.trans (hb.mono h.j5.size),λe he=>⟨(h.own e he).1,by rw[hb.block _ (h.lt he)];exact(h.own e he).2⟩,h.nd⟩
theorem St.push (h:St w0 w H) (hb:Below w.heap.size w w') (hge:w.heap.size<=b) (hc:w'.heap[b]?=some (.cells cs.toArray t (0,0))):St w0 w' ((b,t,cs)::H):=by
 have h':=h.ko hb;refine⟨h'.j5,λe he=> ?_,?_⟩
 ·rcases bC.1 he with rfl|he
  ·exact⟨dt h.j5.size hge,hc⟩
  ·exact h'.own e he
 ·rw[df,gT];refine⟨λhm=> ?_,h.nd⟩;obtain⟨e,he,hee⟩:=bT.1 hm;have:=h.lt he;have hee':e.1=b:=hee;omega
theorem St.drop (h:St w0 w H) (hs:H'.Sublist H):St w0 w H':=⟨h.j5,λe he=>h.own e (hs.subset he),List.Nodup.sublist (hs.map _) h.nd⟩
theorem St.perm (h:St w0 w H) (hp:H.Perm H'):St w0 w H':=⟨h.j5,λe he=>h.own e (hp.mem_iff.2 he),(hp.map _).nodup_iff.1 h.nd⟩
theorem St.mod (h:St w0 w H) (hk:H[k]?=some (b,t,cs)) {cs':List Value} (hs:w.heap.size<=w'.heap.size) (hos:w'.os=w.os) (ht:w'.tape=w.tape) (ho:w'.output=w.output)
  (hoth:∀i,i<w.heap.size->i≠b->w'.heap[i]?=w.heap[i]?) (hc:w'.heap[b]?=some (.cells cs'.toArray t (0,0))):St w0 w' (H.set k (b,t,cs')):=by
 have hbge:=h.ge hk;have hw0:=h.j5.size;have hkl:k<H.length:=(dI.1 hk).1;have hkv:H[k]=(b,t,cs):=(dI.1 hk).2;have hmap:(H.set k (b,t,cs')).map (·.1)=H.map (·.1):=by
  rw[gZ];apply jP;intro i;rw[fv];split
  ·rename_i hi;subst hi;simp[hkl,hkv]
  ·rfl
 refine⟨h.j5.trans ⟨hos,ht,ho,hs,λi hi=>hoth i oO oO⟩,λe he=> ?_,by rw[hmap];exact h.nd⟩;obtain⟨i,hi⟩:=List.mem_iff_getElem?.1 he;rw[fv]at hi;split at hi
 ·rename_i hki;subst hki;obtain rfl:=bN hi;exact⟨hbge,hc⟩
 ·rename_i hne;have hm:e∈H:=i4 hi;refine⟨(h.own e hm).1,?_⟩;rw[hoth _ (h.lt hm) ?_]
  ·exact(h.own e hm).2
  ·intro heq;have hnd:=h.nd;have hil:i<H.length:=(dI.1 hi).1;have hiv:H[i]=e:=(dI.1 hi).2;have h1:(H.map (·.1))[i]'(by simpa using hil)=(H.map (·.1))[k]'(by simpa using hkl):=by
    simp[hiv,hkv,heq]
   exact hne ((jV hnd).1 h1).symm
theorem St.setRow (h:St w0 w H) (hk:H[k]?=some (b,t,cs)) (cs':List Value):St w0 (w.setRow b cs'.toArray) (H.set k (b,t,cs')):=
 h.mod hk (by simp) rfl rfl rfl (λi _ hne=>setRow_other w b i _ hne) (setRow_heap w b _ _ t _ (h.get hk))
theorem pZ (w:World) (o:Obj):Below w.heap.size w (w.alloc o):=(Below.refl _ _).alloc (aB _) o
theorem St.alloc (h:St w0 w H) (cs:List Value) (t:TypeId):St w0 (w.alloc (.cells cs.toArray t)) ((w.heap.size,t,cs)::H):=
 h.push (pZ w _) (aB _) (heap_alloc_new w _)
theorem St.sl {α:Type} {enc:α->List Value} {size:Nat} {L:List α} {spare:List Value} {cap:Nat} (h:St w0 w H) (hk:H[k]?=some (b,t,cs)) (hcs:cs=L.flatMap enc++spare) (hu:∀x,(enc x).length=size)
  (h1:L.length<=cap) (h2:cap<=Go.maxLen):Sl enc size w (.slice (some ⟨b,0,none⟩) L.length cap) L:=
 Sl.of_heap hu (by rw[h.get hk,hcs]) h1 h2
end
def sinfo (P:Program) (t:TypeId):Option (TypeId×Nat×Nat×List Value):=
 match P.underlying t with
 |some (.slice e)=>match P.info? e with
  |some i=>match i.zero with
   |some z=>if z.cells.size=i.size then some (e,i.size,i.bytes,z.cells.toList)else none
   |none=>none
  |none=>none
 |_=>none
theorem mF {P:Program} {t e:TypeId} {size bytes:Nat} {z:List Value} (h:sinfo P t=some (e,size,bytes,z)):
  P.underlying t=some (.slice e)/\∃i zv,P.info? e=some i/\i.zero=some zv/\i.size=size/\i.bytes=bytes/\zv.cells=z.toArray/\z.length=size:=by
 unfold sinfo at h;split at h
 ·rename_i e' hu;split at h
  ·rename_i i hi;split at h
   ·rename_i zv hz;split at h
    ·rename_i hs;simp only[gn,Prod.mk.injEq]at h;obtain⟨rfl,rfl,rfl,rfl⟩:=h;exact⟨hu,i,zv,hi,hz,rfl,rfl,by simp,by simpa using hs⟩
    ·cases h
   ·cases h
  ·cases h
 ·cases h
def lS (P:Program) (t:TypeId):Option (Nat×Bool×List Value):=
 match P.info? t,P.underlying t with
 |some i,some d=>match i.zero with
  |some z=>if z.cells.size=i.size then some (i.size,(match d with| .struct _| .array _ _=>true|_=>false),z.cells.toList)else none
  |none=>none
 |_,_=>none
theorem qX {P:Program} {t:TypeId} {n:Nat} {agg:Bool} {z:List Value} (h:lS P t=some (n,agg,z)):
  ∃i d zv,P.info? t=some i/\P.underlying t=some d/\i.zero=some zv/\i.size=n/\(match d with| .struct _| .array _ _=>true|_=>false)=agg/\zv.cells=z.toArray:=by
 unfold lS at h;split at h
 ·rename_i i d hi hu;split at h
  ·rename_i zv hz;split at h
   ·simp only[gn,Prod.mk.injEq]at h;obtain⟨rfl,rfl,rfl⟩:=h;exact⟨i,d,zv,hi,hu,hz,rfl,rfl,by simp⟩
   ·cases h
  ·cases h
 ·cases h
def od (P:Program) (t:TypeId) (f:Nat):Option Nat:=
 match P.underlying t with
 |some (.struct fs)=>match fs[f]?with
  |some fd=>match P.info? fd.type with
   |some i=>if i.size=0 then none else some fd.offset
   |none=>none
  |none=>none
 |_=>none
theorem I7 {P:Program} {t:TypeId} {f o:Nat} (h:od P t f=some o):∃fs fd i,P.underlying t=some (.struct fs)/\fs[f]?=some fd/\P.info? fd.type=some i/\¬i.size=0/\fd.offset=o:=by
 unfold od at h;split at h
 ·rename_i fs hu;split at h
  ·rename_i fd hf;split at h
   ·rename_i i hi;split at h
    ·cases h
    ·rename_i hs;exact⟨fs,fd,i,hu,hf,hi,hs,bN h⟩
   ·cases h
  ·cases h
 ·cases h
def RE:Bool->List Value->Value
 |true,cs=> .agg cs.toArray
 |false,u::_=>u
 |false,[]=>undef
def rep (n:Nat) (z:List Value):List Value:=(List.replicate n z).flatten
theorem xf (n:Nat) (z:List Value):rep (n+1) z=z++rep n z:=by simp[rep,fR]
theorem Cu (n:Nat) (z:List Value):(rep n z).length=n*z.length:=by
 induction n with
 |zero=>simp[rep]
 |succ n ih=>rw[xf,aw,ih,bl];omega
theorem Sj (n:Nat) (z:List Value):∀i,i<n*z.length->(rep n z)[i]?=z[i%z.length]?:=by
 induction n with
 |zero=>intro i hi;simp at hi
 |succ n ih=>
  intro i hi;rw[xf];by_cases h:i<z.length
  ·rw[cZ h,aZ h]
  ·rw[bV oO,ih _ (by rw[bl]at hi;omega)];congr 1;exact(Nat.mod_eq_sub_mod oO).symm
theorem Iz (z : List Value) (n : Nat) : madeCells z.toArray (n * z.length) = (rep n z).toArray := by
  apply Array.ext'
  apply jP
  intro i
  rcases bH i (n * z.length) with h | h
  · have hz : 0 < z.length := by rcases dh z.length with h0 | h0; · rw [h0] at h; simp at h
                                 · exact h0
    have hm : i % z.length < z.length := bG _ hz
    have h2 : (madeCells z.toArray (n * z.length)).toList[i]? = z[i % z.length]? := by simp [madeCells, h, hm]
    have h3 : (rep n z).toArray.toList[i]? = z[i % z.length]? := by rw [← Sj n z i h]
    rw [h2, h3]
  · rw [dg (by simpa [madeCells] using h), dg (by simpa [Cu] using h)]
section
variable {P : Program} {N : Nat} {ρ : Nat → Value} {w0 w w' : World} {Q : Exit → Act → World → Prop} {ops : Array Oper} {rest : List Oper}
  {d : Option Tmp} {ty : TypeId} {pos : String} {aft : Array Edge} {g : Option (Nat × Bool)} {x y z : Operand} {t e : TypeId} {H : List kV} {k b o : Nat} {cs : List Value} {v : Value} {K : Value → Prop} {K2 : Value → World → Prop}
theorem lI {f off:Nat} (hx:ev N ρ x= .pointer (some ⟨b,o,none⟩)) (hf:od P t f=some off) (h:K (.pointer (some ⟨b,o+off,none⟩))):
  mb P N ρ ⟨d,.fieldAddr t x f,ty,pos,aft,g⟩ K:=by
 obtain⟨fs,fd,i,hu,hfd,hi,hs,rfl⟩:=I7 hf;refine⟨_,λw=> ?_,h⟩;simp[execOp,hx,Instr.fieldAt,cK hu,hfd,Instr.sureAddr,fieldPlace,sizeOf,typeInfo,hi,hs,add_lit]
theorem kF {i n c sz by_:Nat} {zz:List Value} {kk:IntKind} {m:Int} (hx:ev N ρ x= .slice (some ⟨b,o,none⟩) n c) (hy:ev N ρ y= .int kk m) (hm:m=(i:Int)) (hi:i<n)
  (ht:sinfo P t=some (e,sz,by_,zz)) (h:K (.pointer (some ⟨b,o+i*sz,none⟩))):
  mb P N ρ ⟨d,.indexAddr t x y,ty,pos,aft,g⟩ K:=by
 obtain⟨hu,ii,zv,hi1,_,hsz,_⟩:=mF ht;subst hm hsz;refine⟨_,λw=> ?_,h⟩;simp[execOp,hx,hy,Instr.indexAt,asIntOf,cK hu,hi,sizeOf,typeInfo,hi1,add_lit]
theorem kp {α:Type} {enc:α->List Value} {L:List α} {i sz by_:Nat} {zz:List Value} {kk:IntKind} {m:Int} (hx:ev N ρ x=v) (hy:ev N ρ y= .int kk m) (hS:Sl enc sz w v L) (hm:m=(i:Int)) (hi:i<L.length)
  (ht:sinfo P t=some (e,sz,by_,zz)) (h:K (.pointer (some ((tW v).add (i*sz))))):
  mb P N ρ ⟨d,.indexAddr t x y,ty,pos,aft,g⟩ K:=by
 obtain⟨hu,ii,zv,hi1,_,hsz,_⟩:=mF ht;obtain⟨a,cap,hv,hlc,_,hnone⟩:=hS.form;subst hm hsz;refine⟨_,λw=> ?_,h⟩;cases a with
 |none=>have:=hnone rfl;omega
 |some a=>
  subst hv;simp[execOp,hx,hy,Instr.indexAt,asIntOf,cK hu,hi,sizeOf,typeInfo,hi1,tW]
theorem pR {n c:Nat} {a:Option Addr} (hx:ev N ρ x= .slice a n c) (ht:∃e,P.underlying t=some (.slice e)) (h:K (.int .i64 n)):
  mb P N ρ ⟨d,.call ⟨.builtin .len,#[x],#[t]⟩,ty,pos,aft,g⟩ K:=by
 obtain⟨e,ht⟩:=ht;exact⟨_,λw=>(by simp[execOp,resolve,invoke,builtin,hx,Builtin.len_,cK ht,goInt]),h⟩
theorem kj {α:Type} {enc:α->List Value} {size:Nat} {L:List α} (hx:ev N ρ x=v) (hS:Sl enc size w v L) (ht:∃e,P.underlying t=some (.slice e)) (h:K (.int .i64 L.length)):
  mb P N ρ ⟨d,.call ⟨.builtin .len,#[x],#[t]⟩,ty,pos,aft,g⟩ K:=by
 obtain⟨a,cap,hv,_⟩:=hS.form;exact pR (hx.trans hv) ht h
theorem oL {n:Nat} {agg:Bool} {zz:List Value} {a:Addr} (hx:ev N ρ x= .pointer (some a)) (ht:lS P t=some (n,agg,zz)) (ha:At w a cs) (hn:cs.length=n) (hv:RE agg cs=v) (hagg:agg=true\/n=1)
  (h:K v):qU P N ρ w ⟨d,.load t x,ty,pos,aft,g⟩ K:=by
 obtain⟨i,dd,zv,hi,hu,_,hs,hag,_⟩:=qX ht;subst hv hs;refine⟨_,λw' hb=> ?_,h⟩;have ha':=ha.j5 hb;have hisagg:(isAgg t).run P w'= .ok agg w':=by
  unfold isAgg;rw[dN,cK hu w'];subst hag;cases dd<;>simp
 cases agg with
 |true=>
  have hl:=run_loadCells_list (P:=P) w' a cs ha';rw[hn]at hl;simp[execOp,hx,Instr.loadAt,Instr.sureAddr,loadVar,hisagg,sizeOf,typeInfo,hi,hl,RE]
 |false=>
  rcases hagg with h0|h0
  ·cases h0
  ·match cs,hn.trans h0,ha' with
   | [u],_,ha'=>
    have hc:=ha'.head;simp[execOp,hx,Instr.loadAt,Instr.sureAddr,loadVar,hisagg,hc,RE]
theorem kX {n:Nat} {agg:Bool} {zz:List Value} {t':TypeId} (hx:ev N ρ x= .pointer (some ⟨b,o,none⟩)) (ht:lS P t=some (n,agg,zz)) (hS:St w0 w H) (hk:H[k]?=some (b,t',cs))
  (hn:((cs.drop o).take n).length=n) (hv:RE agg ((cs.drop o).take n)=v) (hagg:agg=true\/n=1)
  (h:K v):qU P N ρ w ⟨d,.load t x,ty,pos,aft,g⟩ K:=
 oL hx ht (hS.at hk o n) hn hv hagg h
theorem LH {zz:List Value} {t':TypeId} (hx:ev N ρ x= .pointer (some ⟨b,o,none⟩)) (ht:lS P t=some (1,false,zz)) (hS:St w0 w H) (hk:H[k]?=some (b,t',cs))
  (hv:cs[o]?=some v) (h:K v):qU P N ρ w ⟨d,.load t x,ty,pos,aft,g⟩ K:=
 oL hx ht (At.one (u:=v) (by rw[cell_of_row w b o _ t' _ (hS.get hk)];simpa using hv)) rfl rfl (.inr rfl) h
theorem ky {α:Type} {enc:α->List Value} {L:List α} {i n:Nat} {agg:Bool} {zz:List Value} {vs:Value} (dd:α) (hx:ev N ρ x= .pointer (some ((tW vs).add (i*n)))) (ht:lS P t=some (n,agg,zz))
  (hS:Sl enc n w vs L) (hi:i<L.length) (hn:(enc (L.getD i dd)).length=n) (hv:RE agg (enc (L.getD i dd))=v) (hagg:agg=true\/n=1)
  (h:K v):qU P N ρ w ⟨d,.load t x,ty,pos,aft,g⟩ K:=
 oL hx ht (hS.at hi dd) hn hv hagg h
def splice (cs:List Value) (o:Nat) (new:List Value):List Value:=cs.take o++new++cs.drop (o+new.length)
theorem lG {n:Nat} {agg:Bool} {zz:List Value} {t':TypeId} {new:List Value} (hx:ev N ρ x= .pointer (some ⟨b,o,none⟩)) (hy:ev N ρ y=v) (ht:lS P t=some (n,agg,zz)) (hS:St w0 w H) (hk:H[k]?=some (b,t',cs))
  (hv:v.cells.toList=new) (hn:new.length=n) (hfit:o+n<=cs.length) (h1:new.all (·.oneCell')=true)
  (h:∀w',St w0 w' (H.set k (b,t',splice cs o new))->K2 undef w'):pi P N ρ w ⟨d,.store t x y,ty,pos,aft,g⟩ K2:=by
 obtain⟨i,dd,zv,hi,hu,_,hs,_,_⟩:=qX ht;subst hs hv;have hst:=run_storeCells_at P b o t' v.cells.toList 0 cs.toArray w (hS.get hk) (by have:=hn;simp only[fU]at this;simp only[fU,List.size_toArray];omega) (λu hu=>(cJ.1 h1) u hu);refine Bg (w':=w.setRow b (splice cs o v.cells.toList).toArray) ?_ (h _ (hS.setRow hk _));have hsz:v.cells.size=i.size:=by simpa using hn
 simp only[d9]at hst;simp[execOp,hx,hy,Instr.storeAt,Instr.sureAddr,storeVar,sizeOf,typeInfo,hi,hsz,hst,splice]
theorem Ju (cs:List Value) (o:Nat) (u:Value) (h:o<cs.length):splice cs o [u]=cs.set o u:=by
 unfold splice;rw[jF,aj h];simp
theorem nW {zz:List Value} {t':TypeId} (hx:ev N ρ x= .pointer (some ⟨b,o,none⟩)) (hy:ev N ρ y=v) (ht:lS P t=some (1,false,zz)) (hS:St w0 w H) (hk:H[k]?=some (b,t',cs))
  (hfit:o<cs.length) (h1:v.oneCell'=true)
  (h:∀w',St w0 w' (H.set k (b,t',cs.set o v))->K2 undef w'):pi P N ρ w ⟨d,.store t x y,ty,pos,aft,g⟩ K2:=by
 have hv:v.cells.toList=[v]:=by cases v<;>first|rfl|cases h1
 refine lG hx hy ht hS hk hv rfl oO (by simp[h1]) (λw' hS'=> ?_);rw[Ju cs o v hfit]at hS';exact h w' hS'
theorem lR {n:Nat} {agg:Bool} {zz:List Value} (ht:lS P t=some (n,agg,zz)) (hS:St w0 w H)
  (h:∀b w',St w0 w' ((b,t,zz)::H)->Below w.heap.size w w'->K2 (.pointer (some ⟨b,0,none⟩)) w'):pi P N ρ w ⟨d,.alloc t,ty,pos,aft,g⟩ K2:=by
 obtain⟨i,dd,zv,hi,hu,hz,hs,_,hc⟩:=qX ht;refine n7 ?_ (h w.heap.size _ (hS.alloc zz t) (pZ w _));simp[execOp,Instr.alloc,zeroValue,typeInfo,hi,hz,newVar,newRow,hc]
theorem lj {new:List Value} (hx:ev N ρ x=v) (hv:v.cells.toList=new) (hS:St w0 w H)
  (h:∀b w',St w0 w' ((b,t,new)::H)->Below w.heap.size w w'->K2 (.pointer (some ⟨b,0,none⟩)) w'):pi P N ρ w ⟨d,.box t x,ty,pos,aft,g⟩ K2:=by
 subst hv;refine n7 ?_ (h w.heap.size _ (hS.alloc v.cells.toList t) (pZ w _));simp[execOp,hx,Instr.box,newVar,newRow]
theorem AE {sz by_ n:Nat} {zz:List Value} {kl kc:IntKind} {ml mc:Int} (hx:ev N ρ x= .int kl ml) (hy:ev N ρ y= .int kc mc) (ht:sinfo P t=some (e,sz,by_,zz)) (hml:ml=(n:Int)) (hmc:mc=(n:Int))
  (h1:by_*n<=281474976710656) (h2:n<=9223372036854775807) (hS:St w0 w H)
  (h:∀b w',St w0 w' ((b,e,rep n zz)::H)->Below w.heap.size w w'->K2 (.slice (some ⟨b,0,none⟩) n n) w'):
  pi P N ρ w ⟨d,.makeSlice t x y,ty,pos,aft,g⟩ K2:=by
 obtain⟨hu,ii,zv,hi1,hz,hsz,hby,hc,hzl⟩:=mF ht;subst hml hmc;have hr:=run_make (P:=P) w t e ii zv hu hi1 hz kl kc (n:Int) (n:Int) oO (Int.le_refl _) (by rw[hby,<-gV];omega) oO;simp only[ix]at hr;rw[hc,hsz,<-hzl,Iz]at hr;refine n7 ?_ (h w.heap.size _ (hS.alloc (rep n zz) e) (pZ w _));simp[execOp,hx,hy,hr]
theorem Rv {sz by_ n:Nat} {zz:List Value} {kl kc:IntKind} {ml mc:Int} (hx:ev N ρ x= .int kl ml) (hy:ev N ρ y= .int kc mc) (ht:sinfo P t=some (e,sz,by_,zz)) (hml:ml=0) (hmc:mc=(n:Int))
  (h1:by_*n<=281474976710656) (h2:n<=9223372036854775807) (hS:St w0 w H)
  (h:∀b w',St w0 w' ((b,e,rep n zz)::H)->Below w.heap.size w w'->K2 (.slice (some ⟨b,0,none⟩) 0 n) w'):
  pi P N ρ w ⟨d,.makeSlice t x y,ty,pos,aft,g⟩ K2:=by
 obtain⟨hu,ii,zv,hi1,hz,hsz,hby,hc,hzl⟩:=mF ht;subst hml hmc;have hr:=run_make (P:=P) w t e ii zv hu hi1 hz kl kc 0 (n:Int) (Int.le_refl _) oO (by rw[hby,<-gV];omega) oO;simp only[ix,Int.toNat_zero]at hr;rw[hc,hsz,<-hzl,Iz]at hr;refine n7 ?_ (h w.heap.size _ (hS.alloc (rep n zz) e) (pZ w _));simp[execOp,hx,hy,hr]
theorem kQ {parts:List (Nat×Operand)} {pv:List (Nat×Value)} {cells:List Value} (hp:(parts.map λp=>(p.1,ev N ρ p.2))=pv) (hb:P.built t pv=some cells.toArray)
  (h:K (.agg cells.toArray)):mb P N ρ ⟨d,.build t parts.toArray,ty,pos,aft,g⟩ K:=by
 subst hp;refine⟨_,λw=> ?_,h⟩;have hr:=run_build (P:=P) w t (parts.toArray.map λ(i,x)=>(i,ev N ρ x)) cells.toArray (by simpa using hb);simp only[execOp,dN,hr,di];rfl
theorem mO {len sz by_:Nat} {zz:List Value} {parts:List (Nat×Operand)} {vs:List Value} {cells:List Value} (hp:(parts.map λp=>(p.1,ev N ρ p.2))=(vs.zipIdx 0).map λx=>(x.2,x.1))
  (ht:sinfo P t=some (e,sz,by_,zz)) (hlen:vs.length=len) (h0:0<len) (hsz0:0<sz) (hsm:len*sz<=16777216) (hvs:∀v∈vs,v.cells.size=sz) (hc:(vs.flatMap λv=>v.cells.toList)=cells) (hS:St w0 w H)
  (h:∀b w',St w0 w' ((b,e,cells)::H)->Below w.heap.size w w'->K2 (.slice (some ⟨b,0,none⟩) len len) w'):
  pi P N ρ w ⟨d,.buildSlice t len parts.toArray,ty,pos,aft,g⟩ K2:=by
 obtain⟨hu,ii,zv,hi1,hz,hsz,hby,hcz,hzl⟩:=mF ht;subst hc hsz;have hpos:0<len*ii.size:=dH h0 hsz0;have hr:=run_buildSlice (P:=P) w t e len (parts.toArray.map λ(i,x)=>(i,ev N ρ x)) (vs.flatMap λv=>v.cells.toList).toArray ii zv hu hi1 hz oO oO
  (by(have h1:(parts.toArray.map λ(i,x)=>(i,ev N ρ x)).toList=(vs.zipIdx 0).map λx=>(x.2,x.1):=by simpa using hp);rw[h1];exact Go.Great.fill_whole hsz0 vs _ hvs (by simp[hlen]))
 refine n7 ?_ (h w.heap.size _ (hS.alloc _ e) (pZ w _));simp only[execOp,dN,hr,di];rfl
def Gs (e:TypeId) (size:Nat) (v:Value) (n:Nat) (X:List Value) (L:List kV):Prop:=
 X.length=n*size/\((v= .slice none 0 0/\n=0/\L=[])\/∃b cap spare,v= .slice (some ⟨b,0,none⟩) n cap/\L=[(b,e,X++spare)]/\n<=cap/\cap<=Go.maxLen/\(X++spare).length=cap*size)
theorem Gs.nil (e:TypeId) (size:Nat):Gs e size (.slice none 0 0) 0 [] []:=⟨by simp,.inl ⟨rfl,rfl,rfl⟩⟩
theorem Gs.own {e:TypeId} {size n:Nat} {v:Value} {X:List Value} {L:List kV} (hG:Gs e size v n X L) (hS:St w0 w (L++H)):w.ownsRow w0.heap.size e size v n X/\∀b,v.ownBlock=some b->∀e'∈H,e'.1≠b:=by
 obtain⟨hX,⟨rfl,rfl,rfl⟩|⟨b,cap,spare,rfl,rfl,h1,h2,h3⟩⟩:=hG
 ·have:X=[]:=cB (by simpa using hX);subst this;exact⟨World.ownsRow_nil _ _ _ _,λb hb=>by cases hb⟩
 ·refine⟨⟨hX,.inr ⟨b,cap,(X++spare).toArray,rfl,(hS.own (b,e,X++spare) (by simp)).1,(hS.own (b,e,X++spare) (by simp)).2,h1,h2,by simpa using h3,by simp[<-hX]⟩⟩,λb' hb' e' he' heq=> ?_⟩;have hnd:=hS.nd;simp only[bW,ce,df,gT]at hnd;simp only[Value.ownBlock,gn]at hb';subst hb';exact hnd.1 (bT.2 ⟨e',he',heq⟩)
theorem Tf {size bytes n m c:Nat} {zz:List Value} {X news:List Value} {L:List kV} {xv:Value} {ad:Addr} (hx:ev N ρ x=v) (hy:ev N ρ y=xv) (ht:sinfo P t=some (e,size,bytes,zz)) (hsz:0<size)
  (hG:Gs e size v n X L) (hS:St w0 w (L++H)) (hxv:xv= .slice (some ad) m c) (hl:news.length=m*size) (hnews:At w ad news) (h1:∀u∈news,u.oneCell'=true)
  (h63:n+m<=9223372036854775807) (hb:(n+m)*bytes<=140737488355328)
  (h:∀v' L' w',Gs e size v' (n+m) (X++news) L'->St w0 w' (L'++H)->(∀i,i<w.heap.size->v.ownBlock≠some i->w'.heap[i]?=w.heap[i]?)->w.heap.size<=w'.heap.size->
   K2 v' w'):
  pi P N ρ w ⟨d,.call ⟨.builtin .append,#[x,y],#[t,t]⟩,ty,pos,aft,g⟩ K2:=by
 obtain⟨hu,ii,zv,hi1,hz,hsize,hby,hcz,hzl⟩:=mF ht;obtain⟨hown,hdis⟩:=hG.own hS;obtain⟨v',w1,hr,hown',hgrow,_,hlies⟩:=run_append_own_at (P:=P) w w0.heap.size t ty e ii zv size bytes hu hi1 hz hsize hby (by rw[hcz];simpa using hzl) hsz v n X hown ad m c news hl hnews h1 (by unfold Go.maxLen;omega) hb hS.j5.size;subst hxv;have hback:∃L',Gs e size v' (n+m) (X++news) L'/\St w0 w1 (L'++H):=by
  have hfar:∀e'∈H,w1.heap[e'.1]?=w.heap[e'.1]?:=λe' he'=>hgrow.block _ (hS.lt (by simp[he'])) (λheq=>hdis e'.1 (by rw[<-heq]) e' he' rfl);have hbel:Below w0.heap.size w0 w1:=hS.j5.grown hgrow hS.j5.size (λk hk=>(hown.lt k hk).1);have hndH:(H.map (·.1)).Nodup:=by
   have:=hS.nd;rw[bO]at this;exact(de.1 this).2.1
  obtain⟨hXl,⟨rfl,h0⟩|⟨gb,cap,cur,rfl,hgb,hh,hnc,hcm,hcs,htake⟩⟩:=hown'
  ·refine⟨[],⟨hXl,.inl ⟨rfl,h0,rfl⟩⟩,⟨hbel,λe' he'=>⟨(hS.own e' (by simp at he';simp[he'])).1,?_⟩,by simpa using hndH⟩⟩;simp only[ce]at he';rw[hfar e' he'];exact(hS.own e' (by simp[he'])).2
  ·have hsplit:cur.toList=(X++news)++cur.toList.drop ((n+m)*size):=by
    rw[<-htake,da]
   have hcell:w1.heap[gb]?=some (.cells ((X++news)++cur.toList.drop ((n+m)*size)).toArray e (0,0)):=by
    rw[<-hsplit,hh,Array.toArray_toList]
   refine⟨[(gb,e,(X++news)++cur.toList.drop ((n+m)*size))],⟨hXl,.inr ⟨gb,cap,_,rfl,rfl,hnc,hcm,by rw[<-hsplit];simpa using hcs⟩⟩,⟨hbel,λe' he'=> ?_,?_⟩⟩
   ·simp only[bW,ce,bC]at he';rcases he' with rfl|he'
    ·exact⟨hgb,hcell⟩
    ·refine⟨(hS.own e' (by simp[he'])).1,?_⟩;rw[hfar e' he'];exact(hS.own e' (by simp[he'])).2
   ·simp only[bW,ce,df,gT];refine⟨λhm=> ?_,hndH⟩;obtain⟨e',he',hee⟩:=bT.1 hm;rcases hlies with hob|hob
    ·exact hdis gb hob.symm e' he' hee
    ·have:=hS.lt (e:=e') (by simp[he']);have hgs:gb=w.heap.size:=by simpa[Value.ownBlock]using hob
     have hee':e'.1=gb:=hee;omega
 obtain⟨L',hG',hS'⟩:=hback;refine n7 ?_ (h v' L' w1 hG' hS' (λi hi hne=>hgrow.block i hi (λheq=>hne heq.symm)) hgrow.size);simp[execOp,resolve,invoke,builtin,hx,hy,hr]
end
theorem tJ (n:Int):IntKind.u32.wrap n=n%4294967296:=IntKind.wrap_u32 n
theorem xD (n:Int):IntKind.u64.wrap n=n%18446744073709551616:=by simp[IntKind.wrap,IntKind.bits,IntKind.signed]
theorem Oo (n:Int):IntKind.u8.wrap n=n%256:=IntKind.wrap_u8 n
theorem Nh (n:Int):IntKind.u16.wrap n=n%65536:=by simp[IntKind.wrap,IntKind.bits,IntKind.signed]
theorem Th {k:IntKind} (m:Int) (c:Nat) (hc:c<=k.bits):m.fdiv (2^(min ((c:Int)).toNat k.bits))=m/2^c:=by
 rw[ix,gS hc];exact Int.fdiv_eq_ediv_of_nonneg _ (Int.le_of_lt (Int.pow_pos dD))
theorem rM {k:IntKind} (hk:k.signed=false) (m n:Nat) (hm:m<2^k.bits) (hn:n<2^k.bits):pO .or k m n=((m|||n:Nat):Int):=by
 have hlt:m|||n<2^k.bits:=Nat.or_lt_two_pow hm hn;have h:((m|||n:Nat):Int)%2^k.bits=((m|||n:Nat):Int):=jQ oO (by exact_mod_cast hlt);simp only[pO,fN,BitVec.toNat_or,gf,aZ hm,aZ hn,IntKind.wrap,hk,i7,h];simp
theorem Fo {k:IntKind} (hk:k.signed=false) (m n:Nat) (hm:m<2^k.bits) (hn:n<2^k.bits):pO .and k m n=((m&&&n:Nat):Int):=by
 have hlt:m&&&n<2^k.bits:=bY Nat.and_le_left hm;have h:((m&&&n:Nat):Int)%2^k.bits=((m&&&n:Nat):Int):=jQ oO (by exact_mod_cast hlt);simp only[pO,fN,BitVec.toNat_and,gf,aZ hm,aZ hn,IntKind.wrap,hk,i7,h];simp
def Kr (k:IntKind) (L:List Nat):List Value:=L.map λx:Nat=>Value.int k (x:Int)
def uk (k:IntKind) (x:Nat):List Value:=[Value.int k (x:Int)]
theorem Ky (k:IntKind) (L:List Nat):Kr k L=L.flatMap (uk k):=by
 induction L with
 |nil=>rfl
 |cons x L ih=>rw[cw,<-ih];rfl
theorem QA (k:IntKind) (L:List Nat):(Kr k L).length=L.length:=by simp[Kr]
theorem UA (k:IntKind) (L:List Nat) {i:Nat} (h:i<L.length):(Kr k L)[i]?=some (.int k (L.getD i 0:Nat)):=by simp[Kr,List.getD,h]
theorem UX (k:IntKind) (L:List Nat) (i x:Nat):(Kr k L).set i (.int k (x:Int))=Kr k (L.set i x):=by simp[Kr,gZ]
theorem TK (k:IntKind) (n:Nat):rep n [.int k 0]=Kr k (List.replicate n 0):=by
 induction n with
 |zero=>rfl
 |succ n ih=>rw[xf,ih];rfl
theorem MS (k:IntKind) (L M:List Nat):Kr k L++Kr k M=Kr k (L++M):=by simp[Kr]
def Bp (v:Value) (size lo hi:Nat):Value:=
 match v with
 | .slice a _ c=> .slice (if c=lo then a else a.map (·.add (lo*size))) (hi-lo) (c-lo)
 |v=>v
theorem Nw {w:World} {α:Type} {enc:α->List Value} {size:Nat} {v:Value} {L:List α} (h:Sl enc size w v L) {lo hi:Nat} (hlt:lo<L.length):tW (Bp v size lo hi)=(tW v).add (lo*size):=by
 obtain⟨a,cap,rfl,h1,_,hn⟩:=h.form;cases a with
 |none=>have:=hn rfl;omega
 |some a=>simp[Bp,tW,show¬cap=lo by omega]
theorem zU (a:Addr) (m n:Nat) (h:a.spot=none):(a.add m).add n=a.add (m+n):=by
 obtain⟨b,o,s⟩:=a;subst h;rw[add_lit,add_lit,add_lit,dR]
theorem Sl.spot {w:World} {α:Type} {enc:α->List Value} {size:Nat} {v:Value} {L:List α} (h:Sl enc size w v L) (hu:∀x,(enc x).length=size) (hs:0<size) (hl:0<L.length):(tW v).spot=none:=by
 have h0:=h.elt 0 hl;rw[fq,add_zero]at h0;have hpos:0<(enc L[0]).length:=by rw[hu];exact hs
 have:=h0 0 _ (aG hpos);rw[add_zero]at this;exact World.cell?_spot this
theorem Sl.sub {w:World} {α:Type} {enc:α->List Value} {size:Nat} {v:Value} {L:List α} (h:Sl enc size w v L) (hu:∀x,(enc x).length=size) (hs:0<size) {lo hi:Nat} (h1:lo<=hi) (h2:hi<=L.length):
  Sl enc size w (Bp v size lo hi) ((L.drop lo).take (hi-lo)):=by
 have hlen:((L.drop lo).take (hi-lo)).length=hi-lo:=by simp;omega
 refine⟨?_,λi hi' j u hj=> ?_⟩
 ·obtain⟨a,cap,rfl,g1,g2,g3⟩:=h.form;refine⟨_,_,by rw[hlen];rfl,by rw[hlen];omega,oO,λhn=> ?_⟩;split at hn
  ·omega
  ·cases a with
   |none=>have:=g3 rfl;omega
   |some a=>simp at hn
 ·rw[hlen]at hi';have hlt:lo<L.length:=oO;rw[Nw h hlt,zU _ _ _ (h.spot hu hs oO),<-bl];refine h.elt (lo+i) oO j u ?_;rw[<-hj];simp
section
variable {w0 w : World} {H : List kV} {b k : Nat} {t : TypeId} {kk : IntKind} {L : List Nat}
theorem Ao (k:IntKind):∀x,(uk k x).length=1:=λ_=>rfl
theorem St.IS (h:St w0 w H) (hk:H[k]?=some (b,t,Kr kk L)) {n cap:Nat} (hn:n<=L.length) (h1:n<=cap) (h2:cap<=9223372036854775807):Sl (uk kk) 1 w (.slice (some ⟨b,0,none⟩) n cap) (L.take n):=by
 have hl:(L.take n).length=n:=by simp;omega
 have:=h.sl (enc:=uk kk) (size:=1) (L:=L.take n) (spare:=Kr kk (L.drop n)) (cap:=cap) hk (by rw[<-Ky,MS,da]) (Ao kk) (by rw[hl];exact h1) (by unfold Go.maxLen;omega);rwa[hl]at this
end
section
variable {P : Program} {N : Nat} {ρ : Nat → Value} {w0 w w' : World} {Q : Exit → Act → World → Prop} {ops : Array Oper} {rest : List Oper}
  {d : Option Tmp} {ty : TypeId} {pos : String} {aft : Array Edge} {g : Option (Nat × Bool)} {x y z : Operand} {t e : TypeId} {H : List kV} {k b o : Nat} {cs : List Value} {v : Value} {K : Value → Prop} {K2 : Value → World → Prop} {kk : IntKind} {L : List Nat}
theorem nS {i:Nat} {zz:List Value} {t':TypeId} (hx:ev N ρ x= .pointer (some ⟨b,o,none⟩)) (ht:lS P t=some (1,false,zz)) (hS:St w0 w H) (hk:H[k]?=some (b,t',Kr kk L)) (ho:o=i) (hi:i<L.length)
  (h:K (.int kk (L.getD i 0:Nat))):qU P N ρ w ⟨d,.load t x,ty,pos,aft,g⟩ K:=by
 subst ho;exact LH hx ht hS hk (UA kk L hi) h
theorem pj {i a:Nat} {m:Int} {zz:List Value} {t':TypeId} (hx:ev N ρ x= .pointer (some ⟨b,o,none⟩)) (hy:ev N ρ y= .int kk m) (hm:m=(a:Int)) (ht:lS P t=some (1,false,zz)) (hS:St w0 w H) (hk:H[k]?=some (b,t',Kr kk L)) (ho:o=i) (hi:i<L.length)
  (h:∀w',St w0 w' (H.set k (b,t',Kr kk (L.set i a)))->K2 undef w'):pi P N ρ w ⟨d,.store t x y,ty,pos,aft,g⟩ K2:=by
 subst ho hm;refine nW hx hy ht hS hk (by rw[QA];exact hi) rfl (λw' hS'=> ?_);rw[UX]at hS';exact h w' hS'
theorem pV {by_ n:Nat} {kl kc:IntKind} {ml mc:Int} (hx:ev N ρ x= .int kl ml) (hy:ev N ρ y= .int kc mc) (ht:sinfo P t=some (e,1,by_,[.int kk 0])) (hml:ml=(n:Int)) (hmc:mc=(n:Int))
  (h1:by_*n<=281474976710656) (h2:n<=9223372036854775807) (hS:St w0 w H)
  (h:∀b w',St w0 w' ((b,e,Kr kk (List.replicate n 0))::H)->Below w.heap.size w w'->K2 (.slice (some ⟨b,0,none⟩) n n) w'):
  pi P N ρ w ⟨d,.makeSlice t x y,ty,pos,aft,g⟩ K2:=by
 refine AE hx hy ht hml hmc h1 h2 hS (λb w' hS' hB=> ?_);rw[TK]at hS';exact h b w' hS' hB
theorem zI {α:Type} {enc:α->List Value} {size by_:Nat} {zz:List Value} {L:List α} {hi:Nat} {kh:IntKind} {mh:Int} (hx:ev N ρ x=v) (hh:ev N ρ z= .int kh mh) (hS:Sl enc size w v L)
  (hmh:mh=(hi:Int)) (h2:hi<=L.length) (ht:sinfo P t=some (e,size,by_,zz)) (h:K (Bp v size 0 hi)):mb P N ρ ⟨d,.slice t x none (some z) none,ty,pos,aft,g⟩ K:=by
 obtain⟨hu,ii,zv,hi1,_,hsz,_⟩:=mF ht;obtain⟨a,cap,rfl,g1,_⟩:=hS.form;subst hmh hsz;refine⟨_,λw=> ?_,h⟩;have a2:hi<=cap:=oO;simp[execOp,hx,hh,Instr.sliceAt,Instr.slice,Instr.sliceBounds,Instr.sliceBound,asIntOf,cK hu,sizeOf,typeInfo,hi1,a2,Bp]
theorem Sv {α:Type} {enc:α->List Value} {size by_:Nat} {zz:List Value} {L:List α} {lo:Nat} {kl:IntKind} {ml:Int} (hx:ev N ρ x=v) (hl:ev N ρ y= .int kl ml) (hS:Sl enc size w v L)
  (hml:ml=(lo:Int)) (h1:lo<=L.length) (ht:sinfo P t=some (e,size,by_,zz)) (h:K (Bp v size lo L.length)):mb P N ρ ⟨d,.slice t x (some y) none none,ty,pos,aft,g⟩ K:=by
 obtain⟨hu,ii,zv,hi1,_,hsz,_⟩:=mF ht;obtain⟨a,cap,rfl,g1,_⟩:=hS.form;subst hml hsz;refine⟨_,λw=> ?_,h⟩;simp[execOp,hx,hl,Instr.sliceAt,Instr.slice,Instr.sliceBounds,Instr.sliceBound,asIntOf,cK hu,sizeOf,typeInfo,hi1,h1,Bp]
theorem FQ {size by_ n cap:Nat} {zz:List Value} {hi:Nat} {kh:IntKind} {mh:Int} (hx:ev N ρ x= .slice (some ⟨b,o,none⟩) n cap) (hh:ev N ρ z= .int kh mh)
  (hmh:mh=(hi:Int)) (h2:hi<=cap) (ht:sinfo P t=some (e,size,by_,zz)) (h:K (.slice (some ⟨b,o,none⟩) hi cap)):mb P N ρ ⟨d,.slice t x none (some z) none,ty,pos,aft,g⟩ K:=by
 obtain⟨hu,ii,zv,hi1,_,hsz,_⟩:=mF ht;subst hmh hsz;refine⟨_,λw=> ?_,h⟩;have:(if cap=0 then some (⟨b,o,none⟩:Addr)else some ((⟨b,o,none⟩:Addr).add 0))=some ⟨b,o,none⟩:=by rw[add_zero];split<;>rfl
 simp[execOp,hx,hh,Instr.sliceAt,Instr.slice,Instr.sliceBounds,Instr.sliceBound,asIntOf,cK hu,sizeOf,typeInfo,hi1,h2,add_zero]
theorem U5 {size by_ n cap:Nat} {zz:List Value} {lo hi:Nat} {kl kh:IntKind} {ml mh:Int} (hx:ev N ρ x= .slice (some ⟨b,o,none⟩) n cap) (hl:ev N ρ y= .int kl ml) (hh:ev N ρ z= .int kh mh)
  (hml:ml=(lo:Int)) (hmh:mh=(hi:Int)) (h1:lo<=hi) (h2:hi<=cap) (h3:lo<cap) (ht:sinfo P t=some (e,size,by_,zz)) (h:K (.slice (some ⟨b,o+lo*size,none⟩) (hi-lo) (cap-lo))):
  mb P N ρ ⟨d,.slice t x (some y) (some z) none,ty,pos,aft,g⟩ K:=by
 obtain⟨hu,ii,zv,hi1,_,hsz,_⟩:=mF ht;subst hml hmh hsz;refine⟨_,λw=> ?_,h⟩;simp[execOp,hx,hl,hh,Instr.sliceAt,Instr.slice,Instr.sliceBounds,Instr.sliceBound,asIntOf,cK hu,sizeOf,typeInfo,hi1,h1,h2,show¬cap=lo by omega,add_lit]
def zq (L:List Nat):ByteArray:=⟨(L.map UInt8.ofNat).toArray⟩
theorem foldl_push (L:List Nat):∀s:ByteArray,(L.map λx:Nat=>(x:Int)).foldl (λr n=>r.push (UInt8.ofNat n.toNat)) s=⟨s.data++(L.map UInt8.ofNat).toArray⟩:=by
 induction L with
 |nil=>intro s;cases s;simp
 |cons a L ih=>
  intro s;simp only[df,List.foldl_cons];rw[ih];cases s
  simp[ByteArray.push]
theorem SN {el:TypeId} {cap n:Nat} {a:Addr} {L:List Nat} (hx:ev N ρ x= .slice (some a) n cap) (ht:P.underlying t=some (.slice el)/\P.underlying el=some (.int .u8)/\P.underlying e=some .string) (hn:L.length=n) (ha:At w a (Kr .u8 L))
  (h:K (.string (zq L))):qU P N ρ w ⟨d,.convert t e x,ty,pos,aft,g⟩ K:=by
 refine⟨_,λw' hb=> ?_,h⟩;have ha':=ha.j5 hb;have hl:=run_loadCells_list (P:=P) w' a (Kr .u8 L) ha';rw[QA,hn]at hl;have hl2:(loadCells a n).run P w'= .ok ((L.map λx:Nat=>(x:Int)).map (Value.int .u8)).toArray w':=by rw[hl];simp[Kr]
 have:=run_bytesToString (P:=P) w' a n cap (L.map λx:Nat=>(x:Int)) hl2;rw[foldl_push]at this;simp[execOp,hx,run_convert_bytes_string w' t e el (some a) n cap ht.1 ht.2.1 ht.2.2,this,zq]
end
inductive Md where
 |pure|read|ko|free
 deriving DecidableEq
section
variable {P : Program} {ops : Array Oper}
def rP (ops:Array Oper):Nat->Nat->Nat->Bool
 |0,_,_=>false
 |n+1,i,h=>match ops[i]?with
  |some o=>o.after.any λe=>Region.binds .any e&&(Nat.beq e.on h||rP ops n e.on h)
  |none=>false
def closed (ops:Array Oper) (listed:Array Bool):Prop:=∀i o,ops[i]?=some o->listed.getD i true=true->∀e∈o.after,Region.binds .any e=true->listed.getD e.on false=true
theorem AU {listed:Array Bool} (hc:closed ops listed):∀n i h,(∀o,ops[i]?=some o->∀e∈o.after,Region.binds .any e=true->listed.getD e.on false=true)->rP ops n i h=true->listed.getD h false=true:=by
 intro n;induction n with
 |zero=>intro i h _ ht;cases ht
 |succ n ih=>
  intro i h hall ht;unfold rP at ht;cases ho:ops[i]?with
  |none=>rw[ho]at ht;cases ht
  |some o=>
   rw[ho]at ht;simp only[ij,bj,dp]at ht;obtain⟨e,he,hb,h1|h1⟩:=ht
   ·have:=hall o ho e he hb;rwa[cF h1]at this
   ·have hl:=hall o ho e he hb;refine ih e.on h (λo' ho' e' he' hb'=>hc e.on o' ho' ?_ e' he' hb') h1;have hlt:e.on<listed.size:=by
     rcases bH e.on listed.size with h2|h2
     ·exact h2
     ·simp[Array.getD,f9.2 h2]at hl
    simp only[Array.getD,hlt,gg]at hl⊢;exact hl
def mf (P:Program) (ops:Array Oper) (m:Md) (o:Oper) (a:Act) (w:World) (K:Act->World->Prop):Prop:=
 if Region.wanted o (yielded ops a.tmps)then
  match m with
  | .pure=>∃v,(∀w',(execOp a.eval o).run P w'= .ok (.value v) w')/\K (a.put o.dst v) w
  | .read=>∃v,(∀w',Below w.heap.size w w'->(execOp a.eval o).run P w'= .ok (.value v) w')/\K (a.put o.dst v) w
  | .ko=>HW P (λv w'=>Below w.heap.size w w'/\K (a.put o.dst v) w') ((execOp a.eval o).run P w)
  | .free=>HW P (λv w'=>K (a.put o.dst v) w') ((execOp a.eval o).run P w)
 else K (a.put o.dst undef) w
def wr (P:Program) (ops:Array Oper) (Kend:Act->World->Prop):List (Nat×Md)->Act->World->Prop
 | [],a,w=>Kend a w
 |(i,m)::σ,a,w=>match ops[i]?with
  |some o=>mf P ops m o a w (wr P ops Kend σ)
  |none=>False
theorem mM {m:Md} {o:Oper} {a:Act} {w:World} {K K':Act->World->Prop} (hk:∀a w,K a w->K' a w) (h:mf P ops m o a w K):mf P ops m o a w K':=by
 unfold mf at*;split
 ·rename_i hw;simp only[hw,gX]at h;cases m with
  |pure=>obtain⟨v,h1,h2⟩:=h;exact⟨v,h1,hk _ _ h2⟩
  |read=>obtain⟨v,h1,h2⟩:=h;exact⟨v,h1,hk _ _ h2⟩
  |ko=>exact oB (λv w h=>⟨h.1,hk _ _ h.2⟩) h
  |free=>exact oB (λv w h=>hk _ _ h) h
 ·rename_i hw;simp only[hw]at h;exact hk _ _ h
theorem sw {Q:Exit->Act->World->Prop} {i:Nat} {m:Md} {o:Oper} {a:Act} {w:World} {K:Act->World->Prop} (hi:ops[i]?=some o) (h:mf P ops m o a w K):wpOp P ops Q i K a w:=by
 unfold mf at h;unfold wpOp;simp only[hi];split
 ·rename_i hw;simp only[hw,gX]at h;refine .inl ?_;unfold Oper.wp;have hv:∀ {K':Value->World->Prop},(∀v w',K' v w'->K (a.put o.dst v) w')->HW P K' ((execOp a.eval o).run P w)->o.upon P a K Q ((execOp a.eval o).run P w):=by
   intro K' hk' hh;generalize (execOp a.eval o).run P w=r at hh;cases r with
   |halt x w'=>exact hh.elim
   |ok n w'=>
    cases n with
    |value v=>rw[i2];exact hk' _ _ hh
    |skip=>rw[Oper.upon_skip];exact hk' _ _ hh
    |enter f args=>
     rw[Oper.upon_enter];refine Calls.mono hh ?_;rintro e w1 ⟨v,rfl,hR⟩;exact hk' _ _ hR
    |_=>exact hh.elim
  cases m with
  |pure=>obtain⟨v,h1,h2⟩:=h;rw[h1 w,i2];exact h2
  |read=>obtain⟨v,h1,h2⟩:=h;rw[h1 w (Below.refl _ _),i2];exact h2
  |ko=>exact hv (λv w' hh=>hh.2) h
  |free=>exact hv (λv w' hh=>hh) h
 ·rename_i hw;simp only[hw]at h;exact h
theorem qj {m:Md} {o:Oper} {a:Act} {w:World} {K:Act->World->Prop} (hw:¬Region.wanted o (yielded ops a.tmps)=true):mf P ops m o a w K=K (a.put o.dst undef) w:=by unfold mf;rw[ah hw]
theorem nL {o:Oper} {a:Act} {w:World} {K:Act->World->Prop} (hw:Region.wanted o (yielded ops a.tmps)=true):
 mf P ops .pure o a w K=∃v,(∀w',(execOp a.eval o).run P w'= .ok (.value v) w')/\K (a.put o.dst v) w:=by unfold mf;rw[aj hw]
theorem sn {o:Oper} {a:Act} {w:World} {K:Act->World->Prop} (hw:Region.wanted o (yielded ops a.tmps)=true):
 mf P ops .read o a w K=∃v,(∀w',Below w.heap.size w w'->(execOp a.eval o).run P w'= .ok (.value v) w')/\K (a.put o.dst v) w:=by unfold mf;rw[aj hw]
theorem qI {o:Oper} {a:Act} {w:World} {K:Act->World->Prop} (hw:Region.wanted o (yielded ops a.tmps)=true):
 mf P ops .ko o a w K=HW P (λv w'=>Below w.heap.size w w'/\K (a.put o.dst v) w') ((execOp a.eval o).run P w):=by unfold mf;rw[aj hw]
theorem sh {o:Oper} {a:Act} {w:World} {K:Act->World->Prop} (hw:Region.wanted o (yielded ops a.tmps)=true):
 mf P ops .free o a w K=HW P (λv w'=>K (a.put o.dst v) w') ((execOp a.eval o).run P w):=by unfold mf;rw[aj hw]
def nN (ops:Array Oper) (i:Nat×Md) (j:Nat×Md):Bool:=
 match ops[i.1]?,ops[j.1]?with
 |some oi,some oj=>Oper.apart ops oi oj&&(match i.2,j.2 with
  | .pure,_=>true
  |_,.pure=>true
  | .read,.read=>true
  | .read,.ko=>true
  |_,_=>false)
 |_,_=>false
def oW (ops:Array Oper) (n:Nat):List (Nat×Md)->Bool
 | []=>true
 |i::σ=>(σ.all λj=> !Nat.beq i.1 j.1&&(rP ops n j.1 i.1||nN ops i j))&&oW ops n σ
theorem uy {n:Nat} {x:Nat×Md}:∀ {σ τ:List (Nat×Md)},oW ops n (σ++x::τ)=true->oW ops n (σ++τ)=true
 | [],τ,h=>by simp only[ce,oW,bj]at h⊢;exact h.2
 |y::σ,τ,h=>by
  simp only[bW,oW,bj,fI,fV]at h⊢;exact⟨⟨h.1.1,h.1.2.2⟩,uy h.2⟩
theorem yR {K:Value->World->Prop} {r:Result Next} (h:HW P K r):∃v w,K v w:=by
 cases r with
 |halt x w'=>exact h.elim
 |ok n w'=>
  cases n with
  |value v=>exact⟨v,w',h⟩
  |skip=>exact⟨undef,w',h⟩
  |enter f args=>
   obtain⟨e,w1,fr,⟨v,_,hK⟩,_⟩:=h [];exact⟨v,w1,hK⟩
  |_=>exact h.elim
theorem wX {m:Md} {o:Oper} {a:Act} {w:World} {K K':Act->World->Prop} (hk:∀v w',(m≠ .free->Below w.heap.size w w')->K (a.put o.dst v) w'->K' (a.put o.dst v) w') (h:mf P ops m o a w K):mf P ops m o a w K':=by
 unfold mf at*;split
 ·rename_i hw;rw[aj hw]at h;cases m with
  |pure=>obtain⟨v,h1,h2⟩:=h;exact⟨v,h1,hk _ _ (λ_=>Below.refl _ _) h2⟩
  |read=>obtain⟨v,h1,h2⟩:=h;exact⟨v,h1,hk _ _ (λ_=>Below.refl _ _) h2⟩
  |ko=>exact oB (λv w h=>⟨h.1,hk _ _ (λ_=>h.1) h.2⟩) h
  |free=>exact oB (λv w h=>hk _ _ (λh=>absurd rfl h) h) h
 ·rename_i hw;rw[ah hw]at h;exact hk _ _ (λ_=>Below.refl _ _) h
theorem HR {i j:Nat} {mi mj:Md} {oi oj:Oper} (hi:ops[i]?=some oi) (hj:ops[j]?=some oj) (hsi:∀cs b,oi.op≠ .select cs b) (hsj:∀cs b,oj.op≠ .select cs b)
  (hok:nN ops (i,mi) (j,mj)=true) {K:Act->World->Prop} {a:Act} {w:World}
  (h:mf P ops mi oi a w (λa w=>mf P ops mj oj a w K)):mf P ops mj oj a w (λa w=>mf P ops mi oi a w K):=by
 unfold nN at hok;simp only[hi,hj,bj]at hok;obtain⟨hap,hm⟩:=hok;obtain⟨h1,h2,h3⟩:=Oper.apart_spec hap;have wj:∀u,Region.wanted oj (yielded ops (a.put oi.dst u).tmps)=Region.wanted oj (yielded ops a.tmps):=λu=>wanted_put oj a oi.dst u h1;have wi:∀u,Region.wanted oi (yielded ops (a.put oj.dst u).tmps)=Region.wanted oi (yielded ops a.tmps):=λu=>wanted_put oi a oj.dst u h3;have ej:∀u,execOp (a.put oi.dst u).eval oj=execOp a.eval oj:=λu=>execOp_put oj hsj a oi.dst u h1;have ei:∀u,execOp (a.put oj.dst u).eval oi=execOp a.eval oi:=λu=>execOp_put oi hsi a oj.dst u h3;have cm:∀u v,(a.put oi.dst u).put oj.dst v=(a.put oj.dst v).put oi.dst u:=λu v=>Act.put_comm a u v h2;have jback:∀u w,mf P ops mj oj (a.put oi.dst u) w K->mf P ops mj oj a w (λa' w'=>K (a'.put oi.dst u) w'):=by
  intro u w h;by_cases hw:Region.wanted oj (yielded ops a.tmps)=true
  ·have hw':Region.wanted oj (yielded ops (a.put oi.dst u).tmps)=true:=by rw[wj u];exact hw
   cases mj with
   |pure=>rw[nL hw']at h;rw[nL hw];obtain⟨v,g1,g2⟩:=h;rw[cm]at g2;exact⟨v,λw'=>by rw[<-ej u];exact g1 w',g2⟩
   |read=>rw[sn hw']at h;rw[sn hw];obtain⟨v,g1,g2⟩:=h;rw[cm]at g2;exact⟨v,λw' hb=>by rw[<-ej u];exact g1 w' hb,g2⟩
   |ko=>rw[qI hw',ej u]at h;rw[qI hw];exact oB (λv w' g=>⟨g.1,by rw[<-cm];exact g.2⟩) h
   |free=>rw[sh hw',ej u]at h;rw[sh hw];exact oB (λv w' g=>by rw[<-cm];exact g) h
  ·have hw':¬Region.wanted oj (yielded ops (a.put oi.dst u).tmps)=true:=by rw[wj u];exact hw
   rw[qj hw',cm]at h;rw[qj hw];exact h
 have wi':Region.wanted oi (yielded ops a.tmps)=true->∀u,Region.wanted oi (yielded ops (a.put oj.dst u).tmps)=true:=λh u=>by rw[wi u];exact h
 have wj':Region.wanted oj (yielded ops a.tmps)=true->∀u,Region.wanted oj (yielded ops (a.put oi.dst u).tmps)=true:=λh u=>by rw[wj u];exact h
 have wjn:¬Region.wanted oj (yielded ops a.tmps)=true->∀u,¬Region.wanted oj (yielded ops (a.put oi.dst u).tmps)=true:=λh u=>by rw[wj u];exact h
 by_cases hwi:Region.wanted oi (yielded ops a.tmps)=true
 case neg=>
  rw[qj hwi]at h;refine wX (λv w' _ hK=> ?_) (jback undef w h);rw[qj (by rw[wi v];exact hwi)];exact hK
 case pos=>
  cases mi with
  |pure=>
   rw[nL hwi]at h;obtain⟨v,g1,g2⟩:=h;refine wX (λu w' _ hK=> ?_) (jback v w g2);rw[nL (wi' hwi u)];exact⟨v,λw''=>by rw[ei u];exact g1 w'',hK⟩
  |read=>
   rw[sn hwi]at h;obtain⟨v,g1,g2⟩:=h;have hmj:mj≠ .free:=by rintro rfl;cases hm
   refine wX (λu w' hb hK=> ?_) (jback v w g2);have hb':=hb hmj;rw[sn (wi' hwi u)];exact⟨v,λw'' hb''=>by rw[ei u];exact g1 w'' (hb'.trans (hb''.mono hb'.size)),hK⟩
  |ko=>
   have hmj:mj= .pure:=by cases mj<;>first|rfl|cases hm
   subst hmj;rw[qI hwi]at h;by_cases hwj:Region.wanted oj (yielded ops a.tmps)=true
   ·obtain⟨v0,w0,_,hb⟩:=yR h;rw[nL (wj' hwj v0)]at hb;obtain⟨vj,g1,_⟩:=hb;rw[nL hwj];refine⟨vj,λw'=>by rw[<-ej v0];exact g1 w',?_⟩;rw[qI (wi' hwi vj),ei vj];refine oB (λv w1 hr=> ?_) h;obtain⟨hbl,hr⟩:=hr;rw[nL (wj' hwj v)]at hr;obtain⟨v',g1',g2'⟩:=hr;have e1:=g1 w1;have e2:=g1' w1;rw[ej v0]at e1;rw[ej v,e1]at e2;obtain rfl:vj=v':=by simpa using e2
    exact⟨hbl,by rw[<-cm];exact g2'⟩
   ·rw[qj hwj,qI (wi' hwi undef),ei undef];refine oB (λv w1 hr=> ?_) h;obtain⟨hbl,hr⟩:=hr;rw[qj (wjn hwj v),cm]at hr;exact⟨hbl,hr⟩
  |free=>
   have hmj:mj= .pure:=by cases mj<;>first|rfl|cases hm
   subst hmj;rw[sh hwi]at h;by_cases hwj:Region.wanted oj (yielded ops a.tmps)=true
   ·obtain⟨v0,w0,hb⟩:=yR h;rw[nL (wj' hwj v0)]at hb;obtain⟨vj,g1,_⟩:=hb;rw[nL hwj];refine⟨vj,λw'=>by rw[<-ej v0];exact g1 w',?_⟩;rw[sh (wi' hwi vj),ei vj];refine oB (λv w1 hr=> ?_) h;rw[nL (wj' hwj v)]at hr;obtain⟨v',g1',g2'⟩:=hr;have e1:=g1 w1;have e2:=g1' w1;rw[ej v0]at e1;rw[ej v,e1]at e2;obtain rfl:vj=v':=by simpa using e2
    rw[<-cm];exact g2'
   ·rw[qj hwj,sh (wi' hwi undef),ei undef];refine oB (λv w1 hr=> ?_) h;rw[qj (wjn hwj v),cm]at hr;exact hr
def wu (ops:Array Oper):Prop:=∀(i:Nat) (o:Oper) (cs:Array SelectCase) (b:Bool),ops[i]?=some o->o.op≠Op.select cs b
theorem Du {Kend:Act->World->Prop} (hs:wu ops) {i:Nat} {m:Md} {oi:Oper} (hi:ops[i]?=some oi) {post:List (Nat×Md)}:
  ∀(pre:List (Nat×Md)) (a:Act) (w:World),(∀y∈pre,nN ops y (i,m)=true)->wr P ops Kend (pre++(i,m)::post) a w->mf P ops m oi a w (wr P ops Kend (pre++post))
 | [],a,w,_,h=>by simpa[wr,hi]using h
 |(y,my)::pre,a,w,hp,h=>by
  simp only[bW,wr]at h;cases hy:ops[y]?with
  |none=>rw[hy]at h;exact h.elim
  |some oy=>
   rw[hy]at h;simp only at h;have h':mf P ops my oy a w (λa w=>mf P ops m oi a w (wr P ops Kend (pre++post))):=
    mM (λa w hh=>Du hs hi pre a w (λz hz=>hp z (aI _ hz)) hh) h
   have:=HR hy hi (λcs b=>hs y oy cs b hy) (λcs b=>hs i oi cs b hi) (hp (y,my) (aJ ..)) h';refine mM (λa w hh=> ?_) this;simp only[bW,wr,hy];exact hh
def th (ops:Array Oper):List (Nat×Md)->Bool
 | []=>true
 |i::σ=>(match ops[i.1]?with
  |some o=>o.after.all λe=> !Region.binds .any e||(Nat.blt e.on ops.size&& !Nat.beq e.on i.1&&σ.all λj=> !Nat.beq e.on j.1)
  |none=>false)&&th ops σ
theorem vK {x:Nat×Md}:∀ {σ τ:List (Nat×Md)},th ops (σ++x::τ)=true->th ops (σ++τ)=true
 | [],τ,h=>by simp only[ce,th,bj]at h⊢;exact h.2
 |y::σ,τ,h=>by
  simp only[bW,th,bj]at h⊢;refine⟨?_,vK h.2⟩;have h1:=h.1;cases ho:ops[y.1]?with
  |none=>rw[ho]at h1;cases h1
  |some o=>
   rw[ho]at h1;simp only[dx]at h1⊢;intro e he;have:=h1 e he;simp only[dp,bj,fI,fV]at this⊢;rcases this with h2|h2
   ·exact .inl h2
   ·exact .inr ⟨h2.1,h2.2.1,h2.2.2.2⟩
theorem wV {i j:Nat} (h:(!Nat.beq i j)=true):i≠j:=by
 rintro rfl;simp at h
theorem A2 {Q:Exit->Act->World->Prop} {Kend:Act->World->Prop} (hs:wu ops) (hQ:∀a w,Kend a w->Q .normal a w) (n:Nat):
  ∀(fuel:Nat) (σ:List (Nat×Md)) (listed:Array Bool) (a:Act) (w:World),σ.length<=fuel->listed.size=ops.size->closed ops listed->
   (∀i,listed.getD i true=false↔∃m,(i,m)∈σ)->oW ops n σ=true->th ops σ=true->wr P ops Kend σ a w->wpAny P .any ops Q fuel listed a w:=by
 have hempty:∀(listed:Array Bool),(∀i,listed.getD i true=false↔∃m,(i,m)∈([]:List (Nat×Md)))->Region.ready .any ops listed=[]:=by
  intro listed hl;refine gL.2 λi hi=> ?_;have:=(hl i).1 (im.1 hi).1;obtain⟨m,hm⟩:=this;cases hm
 intro fuel;induction fuel with
 |zero=>
  intro σ listed a w hlen _ _ hl _ _ h;have:σ=[]:=cB oO;subst this;exact⟨hempty listed hl,hQ _ _ h⟩
 |succ fuel ih=>
  intro σ listed a w hlen hsz hc hl hp ht h;refine⟨λhr=> ?_,λi hi=> ?_⟩
  ·--nothing is ready:nothing is left
   cases σ with
   |nil=>exact hQ _ _ h
   |cons x σ=>
    exfalso;have hx:x.1∈Region.ready .any ops listed:=by
     refine im.2 ⟨(hl x.1).2 ⟨x.2,aJ ..⟩,?_⟩;simp only[th,bj]at ht;cases ho:ops[x.1]?with
     |none=>rw[ho]at ht;cases ht.1
     |some o=>
      rw[ho]at ht;refine⟨o,rfl,λe he hb=> ?_⟩;have:=dx.1 ht.1 e he;simp only[hb,iD,iE,bj]at this;obtain⟨⟨g1,g2⟩,g3⟩:=this;rw[gG]at g1;have hnot:¬∃m,(e.on,m)∈x::σ:=by
       rintro⟨m,hm⟩;rcases bC.1 hm with rfl|hm
       ·exact wV g2 rfl
       ·exact wV (cJ.1 g3 _ hm) rfl
      have hne:listed.getD e.on true≠false:=λhf=>hnot ((hl e.on).1 hf);have hlt:e.on<listed.size:=oO;simp only[Array.getD,hlt,gg]at hne⊢;simpa using hne
    rw[hr]at hx;cases hx
  ·obtain⟨hun,oi,hoi,hdeps⟩:=im.1 hi;obtain⟨m,hm⟩:=(hl i).1 hun;obtain⟨pre,post,rfl⟩:=List.append_of_mem hm;have hnd:∀y∈pre,y.1≠i/\(rP ops n i y.1=true\/nN ops y (i,m)=true):=by
    clear ih h hl hlen ht hm;induction pre with
    |nil=>intro y hy;cases hy
    |cons z pre ihp=>
     simp only[bW,oW,bj,fI,fV]at hp;intro y hy;rcases bC.1 hy with rfl|hy
     ·have h1:=hp.1.2.1;rw[dp]at h1;exact⟨wV h1.1,h1.2⟩
     ·exact ihp hp.2 y hy
   have hpost:∀y∈post,i≠y.1:=by
    clear ih h hl hlen ht hm hnd;induction pre with
    |nil=>
     simp only[ce,oW,bj]at hp;intro y hy;have:=cJ.1 hp.1 y hy;simp only[bj]at this;exact wV this.1
    |cons z pre ihp=>
     simp only[bW,oW,bj]at hp;exact ihp hp.2
   have hsw:∀y∈pre,nN ops y (i,m)=true:=λy hy=>by
    rcases(hnd y hy).2 with h1|h1
    ·have h2:=AU hc n i y.1 (λo ho e he hb=>by rw[hoi]at ho;obtain rfl:=bN ho;exact hdeps e he hb) h1;have h3:listed.getD y.1 true=false:=(hl y.1).2 ⟨y.2,by simp[hy]⟩;exfalso;rcases bH y.1 listed.size with hlt|hlt
     ·simp only[Array.getD,hlt,gg]at h2 h3;rw[h2]at h3;cases h3
     ·simp[Array.getD,f9.2 hlt]at h2
    ·exact h1
   refine sw hoi (mM (λa w hh=> ?_) (Du hs hoi pre a w hsw h));have hilt:i<listed.size:=by
    rcases bH i listed.size with h2|h2
    ·exact h2
    ·simp[Array.getD,f9.2 h2]at hun
   refine ih (pre++post) (listed.setIfInBounds i true) a w (by simp at hlen⊢;omega) (by simpa using hsz) ?_ ?_ (uy hp) (vK ht) hh
   ·intro j o hj hjl e he hb;by_cases hji:j=i
    ·subst hji;rw[hoi]at hj;obtain rfl:=bN hj;exact jH (hdeps e he hb)
    ·rw[iF true (jI hji)]at hjl;exact jH (hc j o hj hjl e he hb)
   ·intro j;by_cases hji:j=i
    ·subst hji;constructor
     ·intro hf;simp[Array.getD,hilt]at hf
     ·rintro⟨m',hm'⟩;rcases bB.1 hm' with h1|h1
      ·exact absurd rfl (hnd _ h1).1
      ·exact absurd rfl (hpost _ h1)
    ·rw[iF true (jI hji),hl j];constructor
     ·rintro⟨m',hm'⟩;refine⟨m',?_⟩;rcases bB.1 hm' with h1|h1
      ·simp[h1]
      ·rcases bC.1 h1 with h2|h2
       ·exact absurd (bI Prod.fst h2) hji
       ·simp[h2]
     ·rintro⟨m',hm'⟩;refine⟨m',?_⟩;rcases bB.1 hm' with h1|h1
      ·simp[h1]
      ·simp[h1]
def Fs (ops:Array Oper) (σ:List (Nat×Md)):Bool:=
 Nat.ble σ.length ops.size&&(List.range ops.size).all (λi=>σ.any λx=>Nat.beq x.1 i)&&σ.all (λx=>Nat.blt x.1 ops.size)&&oW ops ops.size σ&&th ops σ&&
 ops.all λo=>match o.op with| .select .. =>false|_=>true
end
structure Wr (P:Program) (ops:Array Oper) (Kend:Act->World->Prop) (σ:List (Nat×Md)) (N:Nat) (ρ:Nat->Value) (w:World):Prop where
 out:wr P ops Kend σ (act N ρ) w
section
variable {P : Program} {N : Nat} {ρ : Nat → Value} {w0 w : World} {Q : Exit → Act → World → Prop} {ops : Array Oper} {H : List kV} {Kend : Act → World → Prop} {i : Nat} {o : Oper} {σ : List (Nat × Md)}
theorem kE {id:Nat} {l:List Oper} (σ:List (Nat×Md)) (hm:P.follows .mixedOrders=true) (hchk:Fs l.toArray σ=true) (hS:St w0 w H)
  (h:∀w',St w0 w' H->Below w.heap.size w w'->Wr P l.toArray (Q .normal) σ N ρ w'):(Code.region id l.toArray true).wp P Q (act N ρ) w:=by
 simp only[Fs,bj]at hchk;obtain⟨⟨⟨⟨⟨h1,h2⟩,h3⟩,h4⟩,h5⟩,h6⟩:=hchk;have hs:wu l.toArray:=by
  intro i o cs b hi hsel;have:=dx.1 h6 o (gD hi);rw[hsel]at this;cases this
 have hbd:Below w.heap.size w {w with drawn:=w.drawn+1}:=(Below.refl _ w).drew;refine wp_region_any hm (A2 hs (λ_ _ h=>h) l.toArray.size _ σ _ _ _ (eE h1) (by simp) ?_ ?_ h4 h5 (h _ (hS.ko hbd) hbd).out)
 ·intro j o _ hl;by_cases hj:j<l.toArray.size
  ·rw[Array.getD,dif_pos (by simpa using hj)]at hl;simp at hl
  ·rename_i hjo;rw[gy oO]at hjo;cases hjo
 ·intro j;constructor
  ·intro hf;have hj:j<l.toArray.size:=by
    rcases bH j l.toArray.size with hlt|hlt
    ·exact hlt
    ·simp at hlt;simp[Array.getD,f9.2 hlt]at hf
   have:=cJ.1 h2 j (by simpa using hj);obtain⟨x,hx,hb⟩:=dA.1 this;exact⟨x.2,by rw[<-cF hb];exact hx⟩
  ·rintro⟨m,hm'⟩;have:=cJ.1 h3 _ hm';rw[gG]at this;simp at this;simp[Array.getD,this]
theorem zL (h:Kend (act N ρ) w):Wr P ops Kend [] N ρ w:=⟨h⟩
theorem kU {d:Option Tmp} {p:Op} {ty:TypeId} {pos:String} {aft:Array Edge} {g:Option (Nat×Bool)} (ho:ops[i]?=some ⟨d,p,ty,pos,aft,g⟩) (hg:gd ops N ρ g=true) (h:mb P N ρ ⟨d,p,ty,pos,aft,g⟩ λv=>Wr P ops Kend σ N (sW ρ d v) w):Wr P ops Kend ((i,.pure)::σ) N ρ w:=by
 constructor;simp only[wr,ho,mf];rw[aj (oN ops N ρ ⟨d,p,ty,pos,aft,g⟩ hg),ow];obtain⟨v,h1,h2⟩:=h;exact⟨v,h1,by rw[o8];exact h2.out⟩
theorem nl {d:Option Tmp} {p:Op} {ty:TypeId} {pos:String} {aft:Array Edge} {g:Option (Nat×Bool)} (ho:ops[i]?=some ⟨d,p,ty,pos,aft,g⟩) (hg:gd ops N ρ g=true) (h:qU P N ρ w ⟨d,p,ty,pos,aft,g⟩ λv=>Wr P ops Kend σ N (sW ρ d v) w):Wr P ops Kend ((i,.read)::σ) N ρ w:=by
 constructor;simp only[wr,ho,mf];rw[aj (oN ops N ρ ⟨d,p,ty,pos,aft,g⟩ hg),ow];obtain⟨v,h1,h2⟩:=h;exact⟨v,h1,by rw[o8];exact h2.out⟩
theorem Ac {d:Option Tmp} {p:Op} {ty:TypeId} {pos:String} {aft:Array Edge} {g:Option (Nat×Bool)} (ho:ops[i]?=some ⟨d,p,ty,pos,aft,g⟩) (hg:gd ops N ρ g=true) (h:pi P N ρ w ⟨d,p,ty,pos,aft,g⟩ λv w'=>Below w.heap.size w w'/\Wr P ops Kend σ N (sW ρ d v) w'):Wr P ops Kend ((i,.ko)::σ) N ρ w:=by
 constructor;simp only[wr,ho,mf];rw[aj (oN ops N ρ ⟨d,p,ty,pos,aft,g⟩ hg),ow];simp only[o8];exact oB (λv w h=>⟨h.1,h.2.out⟩) h.out
theorem Tz {d:Option Tmp} {p:Op} {ty:TypeId} {pos:String} {aft:Array Edge} {g:Option (Nat×Bool)} (ho:ops[i]?=some ⟨d,p,ty,pos,aft,g⟩) (hg:gd ops N ρ g=true) (h:pi P N ρ w ⟨d,p,ty,pos,aft,g⟩ λv w'=>Wr P ops Kend σ N (sW ρ d v) w'):Wr P ops Kend ((i,.free)::σ) N ρ w:=by
 constructor;simp only[wr,ho,mf];rw[aj (oN ops N ρ ⟨d,p,ty,pos,aft,g⟩ hg),ow];simp only[o8];exact oB (λv w h=>Wr.out h) h.out
theorem nU {m:Md} {d:Option Tmp} {p:Op} {ty:TypeId} {pos:String} {aft:Array Edge} {g:Option (Nat×Bool)} (ho:ops[i]?=some ⟨d,p,ty,pos,aft,g⟩) (hg:S4 ops N ρ g=true) (h:Wr P ops Kend σ N (sW ρ d undef) w):Wr P ops Kend ((i,m)::σ) N ρ w:=by
 constructor;simp only[wr,ho,mf];rw[ah (by rw[B7 ops N ρ ⟨d,p,ty,pos,aft,g⟩ hg];decide),o8];exact h.out
end
section
variable {P : Program} {N : Nat} {ρ : Nat → Value} {w0 w : World} {H : List kV} {k b : Nat} {t : TypeId} {cs : List Value}
theorem Gz {fn:Func} {t u v:Nat} {R:Value->World->Prop} {x y z:Value} (hr:fn.results= #[.tmp t,.tmp u,.tmp v]) (hx:ev N ρ (.tmp t)=x) (hy:ev N ρ (.tmp u)=y) (hz:ev N ρ (.tmp v)=z) (h:R (.tuple #[x,y,z]) w):
  bodyPost P fn (λe w'=>∃v,e= .returned v/\R v w') .ret (act N ρ) w:=
 gz (results_tmp3 hr _ _ _) rfl ⟨_,rfl,by rw[n5,n5,n5,hx,hy,hz];exact h⟩
theorem St.cast {H':List kV} (h:St w0 w H) (e:H=H'):St w0 w H':=e▸h
theorem St.loadVar {n:Nat} {zz:List Value} {ty:TypeId} (hS:St w0 w H) (hk:H[k]?=some (b,t,cs)) (ht:lS P ty=some (n,true,zz)) (hn:cs.length=n):
  (Go.loadVar ty ⟨b,0,none⟩).run P w= .ok (.agg cs.toArray) w:=by
 obtain⟨i,dd,zv,hi,hu,_,hs,hag,_⟩:=qX ht;exact run_loadVar_row w b t ty cs.toArray (0,0) dd (hS.get hk) hu (by cases dd<;>first|rfl|cases hag) (by rw[hi];simp[hs,hn])
theorem mq {fn:Func} {p n:Nat} {ty:TypeId} {zz:List Value} {R:Value->World->Prop} (hr:fn.results= #[.cell p ty]) (hp:ev N ρ (.tmp p)= .pointer (some ⟨b,0,none⟩)) (ht:lS P ty=some (n,true,zz))
  (hS:St w0 w H) (hk:H[k]?=some (b,t,cs)) (hn:cs.length=n) (h:R (.agg cs.toArray) w):
  bodyPost P fn (λe w'=>∃v,e= .returned v/\R v w') .ret (act N ρ) w:=by
 refine gz (v:= .agg cs.toArray) ?_ rfl ⟨_,rfl,h⟩;obtain⟨i,dd,zv,hi,hu,_,hs,hag,_⟩:=qX ht;exact results_cell_row hr _ w b t cs.toArray (0,0) dd (by rw[n5,hp]) (hS.get hk) hu (by cases dd<;>first|rfl|cases hag) (by rw[hi];simp[hs,hn])
theorem nj {fn:Func} {p u n:Nat} {ty:TypeId} {zz:List Value} {y:Value} {R:Value->World->Prop} (hr:fn.results= #[.cell p ty,.tmp u]) (hp:ev N ρ (.tmp p)= .pointer (some ⟨b,0,none⟩)) (hy:ev N ρ (.tmp u)=y) (ht:lS P ty=some (n,true,zz))
  (hS:St w0 w H) (hk:H[k]?=some (b,t,cs)) (hn:cs.length=n) (h:R (.tuple #[.agg cs.toArray,y]) w):
  bodyPost P fn (λe w'=>∃v,e= .returned v/\R v w') .ret (act N ρ) w:=by
 refine gz (v:= .tuple #[.agg cs.toArray,y]) ?_ rfl ⟨_,rfl,h⟩;rw[results_cell_tmp hr,n5,n5,hp,hy];have hl:=hS.loadVar hk ht hn;simp only[asAddr,ik,di];rw[hl];simp[Result.andThen]
end
theorem St.join {w0 w1 w2:World} {H0 H1:List kV} (h0:St w0 w1 H0) (h1:St w1 w2 H1):St w0 w2 (H1++H0):=by
 refine⟨h0.j5.trans (h1.j5.mono h0.j5.size),λe he=> ?_,?_⟩
 ·rcases bB.1 he with h|h
  ·exact⟨dt h0.j5.size (h1.own e h).1,(h1.own e h).2⟩
  ·exact⟨(h0.own e h).1,by rw[h1.j5.block _ (h0.lt h)];exact(h0.own e h).2⟩
 ·rw[bO,de];refine⟨h1.nd,h0.nd,?_⟩;rintro a ha b hb rfl;obtain⟨x,hx,rfl⟩:=bT.1 ha;obtain⟨y,hy,hyx⟩:=bT.1 hb;have:=(h1.own x hx).1;have:=h0.lt hy;omega
def Gl {α:Type} (enc:α->List Value) (e:TypeId) (size:Nat) (v:Value) (X:List α) (L:List kV):Prop:=Gs e size v X.length (X.flatMap enc) L
section
variable {α : Type} {enc : α → List Value} {e : TypeId} {size : Nat} {w0 w : World} {H L : List kV} {X : List α} {v : Value}
theorem Gl.nil (enc:α->List Value) (e:TypeId) (size:Nat):Gl enc e size (.slice none 0 0) [] []:=Gs.nil e size
theorem Gl.sl (hG:Gl enc e size v X L) (hS:St w0 w (H++L)) (hu:∀x,(enc x).length=size):Sl enc size w v X:=by
 obtain⟨hX,⟨rfl,h0,_⟩|⟨b,cap,spare,rfl,rfl,h1,h2,h3⟩⟩:=hG
 ·obtain rfl:X=[]:=cB h0;exact Sl.nil _ _ _
 ·exact(hS.perm ay).sl (k:=0) (b:=b) (t:=e) (cs:=X.flatMap enc++spare) rfl rfl hu h1 h2
theorem Gl.OL {z:List Value} {n b:Nat} (hz:z.length=size) (hn:n<=9223372036854775807):Gl enc e size (.slice (some ⟨b,0,none⟩) 0 n) [] [(b,e,rep n z)]:=by
 refine⟨by simp,.inr ⟨b,n,rep n z,rfl,rfl,ax _,by unfold Go.maxLen;omega,?_⟩⟩;simp[Cu,hz]
theorem Gl.len (hG:Gl enc e size v X L):∃a cap,v= .slice a X.length cap:=by
 obtain⟨_,⟨rfl,h0,_⟩|⟨b,cap,spare,rfl,_⟩⟩:=hG
 ·exact⟨none,0,by rw[h0]⟩
 ·exact⟨_,_,rfl⟩
end
section
variable {P : Program} {N : Nat} {ρ : Nat → Value} {w0 w w' : World} {d : Option Tmp} {ty : TypeId} {pos : String} {aft : Array Edge} {g : Option (Nat × Bool)} {x y z : Operand} {t t' e : TypeId} {H L : List kV} {b : Nat} {cs : List Value} {v : Value} {K2 : Value → World → Prop}
theorem mz {α:Type} {enc:α->List Value} {size bytes c:Nat} {zz:List Value} {X:List α} (xs:List α) {xv:Value} (hx:ev N ρ x=v) (hy:ev N ρ y=xv) (ht:sinfo P t=some (e,size,bytes,zz)) (hsz:0<size)
  (hG:Gl enc e size v X L) (hS:St w0 w ((b,t',cs)::(H++L))) (hxv:xv= .slice (some ⟨b,0,none⟩) xs.length c) (hcs:cs=xs.flatMap enc) (hu:∀x,(enc x).length=size) (h1:∀u∈cs,u.oneCell'=true)
  (h63:X.length+xs.length<=9223372036854775807) (hb:(X.length+xs.length)*bytes<=140737488355328)
  (h:∀v' L' w',Gl enc e size v' (X++xs) L'->St w0 w' (H++L')->w.heap.size<=w'.heap.size->K2 v' w'):
  pi P N ρ w ⟨d,.call ⟨.builtin .append,#[x,y],#[t,t]⟩,ty,pos,aft,g⟩ K2:=by
 have hat:=hS.at (k:=0) (b:=b) (t:=t') (cs:=cs) rfl 0 cs.length;rw[List.drop_zero,bK]at hat;refine Tf hx hy ht hsz hG (hS.perm ((List.Perm.cons _ ay).trans List.perm_middle.symm)) hxv (by rw[hcs,lK hu]) hat h1 h63 hb (λv' L' w' hG' hS' _ hge=> ?_);refine h v' L' w' ?_ (((hS'.perm List.perm_middle).drop (ab _ _)).perm ay) hge;unfold Gl;rw[aw,dk,<-hcs];exact hG'
theorem UO (k:IntKind) (xs:List Nat):∀u∈xs.flatMap (uk k),u.oneCell'=true:=by
 intro u hu;obtain⟨x,_,hx⟩:=du.1 hu;rw[aQ.1 hx];rfl
theorem T3 {el t'':TypeId} {X:List Nat} {K:Value->Prop} (hx:ev N ρ x=v) (ht:P.underlying t=some (.slice el)/\P.underlying el=some (.int .u8)/\P.underlying t''=some .string) (hG:Gl (uk .u8) e 1 v X L) (hS:St w0 w (H++L))
  (h:K (.string (zq X))):qU P N ρ w ⟨d,.convert t t'' x,ty,pos,aft,g⟩ K:=by
 obtain⟨hX,⟨rfl,h0,rfl⟩|⟨b,cap,spare,rfl,rfl,h1,h2,h3⟩⟩:=hG
 ·obtain rfl:X=[]:=cB h0;refine⟨_,λw' hb=> ?_,h⟩;simp[execOp,hx,run_convert_bytes_string w' t t'' el none 0 0 ht.1 ht.2.1 ht.2.2,Conv.bytesToString,zq];rfl
 ·refine SN hx ht rfl ?_ h;have hat:=(hS.perm ay).at (k:=0) (b:=b) (t:=e) (cs:=X.flatMap (uk .u8)++spare) rfl 0 (X.flatMap (uk .u8)).length;rw[List.drop_zero,List.take_left]at hat;rw[Ky];exact hat
theorem Pr {α:Type} {enc:α->List Value} {sz by_ n:Nat} {zz:List Value} {kl kc:IntKind} {ml mc:Int} (hx:ev N ρ x= .int kl ml) (hy:ev N ρ y= .int kc mc) (ht:sinfo P t=some (e,sz,by_,zz)) (hml:ml=0) (hmc:mc=(n:Int))
  (h1:by_*n<=281474976710656) (h2:n<=9223372036854775807) (hS:St w0 w H)
  (h:∀v L w',Gl enc e sz v [] L->St w0 w' (H++L)->Below w.heap.size w w'->K2 v w'):
  pi P N ρ w ⟨d,.makeSlice t x y,ty,pos,aft,g⟩ K2:=by
 obtain⟨_,_,_,_,_,_,_,_,hzl⟩:=mF ht;exact Rv hx hy ht hml hmc h1 h2 hS (λb w' hS' hB=>h _ [(b,e,rep n zz)] w' (Gl.OL hzl h2) (hS'.perm (ay (l₁:=[(b,e,rep n zz)]))) hB)
end
section
variable {α : Type} {enc : α → List Value} {size : Nat}
theorem Ez (hu:∀x,(enc x).length=size) (L:List α) (i:Nat):(L.flatMap enc).drop (i*size)=(L.drop i).flatMap enc:=by
 induction L generalizing i with
 |nil=>simp
 |cons x L ih=>
  cases i with
  |zero=>simp
  |succ i=>
   rw[cw,List.drop_append,hu,List.drop_eq_nil_of_le (by rw[hu,bl];omega),ce,List.drop_succ_cons,<-ih i];congr 1;rw[bl];omega
theorem uU (hu:∀x,(enc x).length=size) (L:List α) (i:Nat):(L.flatMap enc).take (i*size)=(L.take i).flatMap enc:=by
 induction L generalizing i with
 |nil=>simp
 |cons x L ih=>
  cases i with
  |zero=>simp
  |succ i=>
   rw[cw,iJ,hu,aU (by rw[hu,bl];omega),List.take_succ_cons,cw,<-ih i];congr 2;rw[bl];omega
theorem ES (hu:∀x,(enc x).length=size) (L:List α) (d:α) {i:Nat} (hi:i<L.length):((L.flatMap enc).drop (i*size)).take size=enc (L.getD i d):=by
 rw[Ez hu,dJ hi,cw,iJ,aU (by rw[hu];exact aB _),hu,dU,fc,aK];rw[ai,aG hi];rfl
theorem xd (hu:∀x,(enc x).length=size) (L:List α) (x:α) {i:Nat} (hi:i<L.length):splice (L.flatMap enc) (i*size) (enc x)=(L.set i x).flatMap enc:=by
 unfold splice;rw[uU hu,hu,show i*size+size=(i+1)*size by rw[bl];omega,Ez hu,jF,aj hi,dk,cw,aF]
theorem H2 (z:α) (n:Nat):rep n (enc z)=(List.replicate n z).flatMap enc:=by
 induction n with
 |zero=>rfl
 |succ n ih=>rw[xf,ih];rfl
end
section
variable {w0 w : World} {H : List kV} {b k : Nat} {t : TypeId}
theorem St.sle {α:Type} {enc:α->List Value} {size:Nat} {L:List α} (h:St w0 w H) (hk:H[k]?=some (b,t,L.flatMap enc)) (hu:∀x,(enc x).length=size) {n cap:Nat} (hn:n<=L.length) (h1:n<=cap) (h2:cap<=9223372036854775807):
  Sl enc size w (.slice (some ⟨b,0,none⟩) n cap) (L.take n):=by
 have hl:(L.take n).length=n:=by simp;omega
 have:=h.sl (enc:=enc) (size:=size) (L:=L.take n) (spare:=(L.drop n).flatMap enc) (cap:=cap) hk (by rw[<-dk,da]) hu (by rw[hl];exact h1) (by unfold Go.maxLen;omega);rwa[hl]at this
end
section
variable {P : Program} {N : Nat} {ρ : Nat → Value} {w0 w w' : World}
  {d : Option Tmp} {ty : TypeId} {pos : String} {aft : Array Edge} {g : Option (Nat × Bool)} {x y z : Operand} {t t' e : TypeId} {H : List kV} {k b o : Nat} {v : Value} {K : Value → Prop} {K2 : Value → World → Prop}
theorem Tb {α:Type} {enc:α->List Value} {size:Nat} {L:List α} {i:Nat} {zz:List Value} {agg:Bool} (dd:α) (hu:∀x,(enc x).length=size) (hx:ev N ρ x= .pointer (some ⟨b,o,none⟩)) (ht:lS P t=some (size,agg,zz)) (hS:St w0 w H) (hk:H[k]?=some (b,t',L.flatMap enc))
  (ho:o=i*size) (hi:i<L.length) (hv:RE agg (enc (L.getD i dd))=v) (hagg:agg=true\/size=1) (h:K v):qU P N ρ w ⟨d,.load t x,ty,pos,aft,g⟩ K:=by
 subst ho;have hat:=hS.at hk (i*size) size;rw[ES hu L dd hi]at hat;exact oL hx ht hat (hu _) hv hagg h
theorem zy {α:Type} {enc:α->List Value} {size:Nat} {L:List α} {i:Nat} {zz:List Value} {agg:Bool} (u:α) (hu:∀x,(enc x).length=size) (hx:ev N ρ x= .pointer (some ⟨b,o,none⟩)) (hy:ev N ρ y=v) (ht:lS P t=some (size,agg,zz)) (hS:St w0 w H) (hk:H[k]?=some (b,t',L.flatMap enc))
  (ho:o=i*size) (hi:i<L.length) (hv:v.cells.toList=enc u) (h1:(enc u).all (·.oneCell')=true)
  (h:∀w',St w0 w' (H.set k (b,t',(L.set i u).flatMap enc))->K2 undef w'):pi P N ρ w ⟨d,.store t x y,ty,pos,aft,g⟩ K2:=by
 subst ho;refine lG hx hy ht hS hk hv (hu u) ?_ h1 (λw' hS'=> ?_)
 ·rw[lK hu];have:(i+1)*size<=L.length*size:=aH _ hi;rw[bl]at this;omega
 ·rw[xd hu L u hi]at hS';exact h w' hS'
theorem lU {α:Type} {enc:α->List Value} {size by_ n:Nat} {zz:List Value} {kl kc:IntKind} {ml mc:Int} (zd:α) (hx:ev N ρ x= .int kl ml) (hy:ev N ρ y= .int kc mc) (ht:sinfo P t=some (e,size,by_,zz)) (hz:zz=enc zd) (hml:ml=(n:Int)) (hmc:mc=(n:Int))
  (h1:by_*n<=281474976710656) (h2:n<=9223372036854775807) (hS:St w0 w H)
  (h:∀b w',St w0 w' ((b,e,(List.replicate n zd).flatMap enc)::H)->Below w.heap.size w w'->K2 (.slice (some ⟨b,0,none⟩) n n) w'):
  pi P N ρ w ⟨d,.makeSlice t x y,ty,pos,aft,g⟩ K2:=by
 refine AE hx hy ht hml hmc h1 h2 hS (λb w' hS' hB=> ?_);rw[hz,H2]at hS';exact h b w' hS' hB
end
theorem Ps {a:Addr} (h:a.spot=none) (n:Nat):(a.add n).spot=none:=by
 obtain⟨b,o,s⟩:=a;subst h;rw[add_lit]
theorem At.sub {w:World} {a:Addr} {cs:List Value} (hs:a.spot=none) (h:At w a cs) (k n:Nat):At w (a.add k) ((cs.drop k).take n):=by
 obtain⟨b,o,s⟩:=a;subst hs;rw[add_lit];exact h.seg k n
section
variable {P : Program} {N : Nat} {ρ : Nat → Value} {w : World}
  {d : Option Tmp} {ty : TypeId} {pos : String} {aft : Array Edge} {g : Option (Nat × Bool)} {x : Operand} {t : TypeId} {v : Value} {K : Value → Prop}
theorem nc {α:Type} {enc:α->List Value} {size:Nat} {L:List α} (hS:Sl enc size w v L) (hu:∀x,(enc x).length=size) (hs:0<size) {i:Nat} (hi:i<L.length):((tW v).add (i*size)).spot=none:=
 Ps (hS.spot hu hs oO) _
theorem oG {f off:Nat} {a:Addr} (hx:ev N ρ x= .pointer (some a)) (hs:a.spot=none) (hf:od P t f=some off) (h:K (.pointer (some (a.add off)))):
  mb P N ρ ⟨d,.fieldAddr t x f,ty,pos,aft,g⟩ K:=by
 obtain⟨b,o,s⟩:=a;subst hs;rw[add_lit]at h;exact lI hx hf h
theorem oE {α:Type} {enc:α->List Value} {size:Nat} {L:List α} {i off m:Nat} {agg:Bool} {zz:List Value} {vs:Value} (dd:α) (hx:ev N ρ x= .pointer (some (((tW vs).add (i*size)).add off))) (ht:lS P t=some (m,agg,zz))
  (hS:Sl enc size w vs L) (hu:∀x,(enc x).length=size) (hs:0<size) (hi:i<L.length) (hn:(((enc (L.getD i dd)).drop off).take m).length=m) (hv:RE agg (((enc (L.getD i dd)).drop off).take m)=v) (hagg:agg=true\/m=1)
  (h:K v):qU P N ρ w ⟨d,.load t x,ty,pos,aft,g⟩ K:=
 oL hx ht (At.sub (nc hS hu hs hi) (hS.at hi dd) off m) hn hv hagg h
end
open Go
def lB (b:Nat):List Nat->Nat
 | []=>0
 |d::l=>d+b*lB b l
def t7 (b n:Nat):List Nat:=
 if _h:n=0\/b<2 then []else n%b::t7 b (n/b)
termination_by n
decreasing_by
  have h1 : n ≠ 0 := fun e => _h (.inl e)
  exact j1 (by omega) (by omega)
theorem nQ (b:Nat):t7 b 0=[]:=by rw[t7];simp
theorem u0 {b n:Nat} (hb:2<=b) (hn:0<n):t7 b n=n%b::t7 b (n/b):=by
 rw[t7,dif_neg oO]
theorem sA {b:Nat} (hb:2<=b) (n:Nat):lB b (t7 b n)=n:=by
 induction n using Nat.strongRecOn with
 |_ n ih=>
  rcases dh n with rfl|hn
  ·rw[nQ];rfl
  ·rw[u0 hb hn,lB,ih _ (j1 hn oO)];exact fk n b
theorem zW {b:Nat} (hb:2<=b) (n:Nat):∀d∈t7 b n,d<b:=by
 induction n using Nat.strongRecOn with
 |_ n ih=>
  rcases dh n with rfl|hn
  ·rw[nQ];intro d hd;cases hd
  ·rw[u0 hb hn];intro d hd;rcases bC.1 hd with rfl|hd
   ·exact bG _ oO
   ·exact ih _ (j1 hn oO) d hd
theorem tK {b:Nat} (l:List Nat) (h:∀d∈l,d<b):lB b l<b^l.length:=by
 induction l with
 |nil=>simp[lB]
 |cons d l ih=>
  have h1:=ih (λx hx=>h x (aI _ hx));have h2:=h d (aJ ..);rw[lB,ba,bA,bF (b^l.length) b];have:b*(lB b l+1)<=b*b^l.length:=bn _ h1;rw[aW]at this;omega
theorem sy (b:Nat) (l m:List Nat):lB b (l++m)=lB b l+b^l.length*lB b m:=by
 induction l with
 |nil=>simp[lB]
 |cons d l ih=>
  rw[bW,lB,ih,lB,ba,bA,aW,bF (b^l.length) b,bf,dR]
theorem zZ (b n:Nat):lB b (List.replicate n 0)=0:=by
 induction n with
 |zero=>rfl
 |succ n ih=>rw[fR,lB,ih];simp
def trimmed (l:List Nat):Prop:=l.getLast?≠some 0
theorem rT {b:Nat} (hb:2<=b):∀(l:List Nat),trimmed l->l≠ []->0<lB b l
 | [],_,h=>absurd rfl h
 | [d],h,_=>by
  simp only[trimmed,List.getLast?_singleton,ne_eq,gn]at h;simp only[lB];omega
 |d::e::l,h,_=>by
  have h':trimmed (e::l):=by simpa[trimmed,List.getLast?_cons_cons]using h
  have:=rT hb (e::l) h' (by simp);rw[lB];have:0<b*lB b (e::l):=dH oO this;omega
theorem xg {b:Nat} (hb:2<=b):∀(l:List Nat),(∀d∈l,d<b)->trimmed l->t7 b (lB b l)=l
 | [],_,_=>by rw[lB,nQ]
 |d::l,h,ht=>by
  have hd:=h d (aJ ..);have hpos:=rT hb (d::l) ht (by simp);have hl:trimmed l:=by
   cases l with
   |nil=>simp[trimmed]
   |cons e l=>simpa[trimmed,List.getLast?_cons_cons]using ht
  rw[u0 hb hpos,lB];have h1:(d+b*lB b l)%b=d:=by rw[eD];exact aZ hd
  have h2:(d+b*lB b l)/b=lB b l:=by
   rw[cU _ _ oO,bS hd,bZ]
  rw[h1,h2,xg hb l (λx hx=>h x (aI _ hx)) hl]
theorem vZ {b:Nat} (hb:2<=b) (l:List Nat) (n:Nat) (h:∀d∈l,d<b) (hn:n<=l.length) (hz:∀i,n<=i->i<l.length->l.getD i 0=0) (hl:n=0\/l.getD (n-1) 0≠0):
  l.take n=t7 b (lB b l):=by
 have hsplit:l=l.take n++List.replicate (l.length-n) 0:=by
  conv=>lhs;rw[<-da n l]
  congr 1;apply fa
  ·simp
  ·intro i h1 h2;simp only[List.getElem_drop,List.getElem_replicate];have:=hz (n+i) oO (by simp at h1;omega);rwa[ai,aG (by simp at h1;omega)]at this
 have hv:lB b l=lB b (l.take n):=by
  conv=>lhs;rw[hsplit]
  rw[sy,zZ];simp
 rw[hv,xg hb _ (λd hd=>h d (gP hd))];unfold trimmed;rcases hl with rfl|hl
 ·simp
 ·rcases dh n with rfl|hp
  ·simp
  ·rw[List.getLast?_eq_getElem?,cG,gS hn,jB,aj oO];intro h0;rw[ai,h0]at hl;exact hl rfl
theorem qc {b:Nat} (hb:2<=b):∀(k n:Nat),n<b^k->(t7 b n).length<=k:=by
 intro k;induction k with
 |zero=>intro n hn;simp at hn;subst hn;rw[nQ];simp
 |succ k ih=>
  intro n hn;rcases dh n with rfl|hp
  ·rw[nQ];simp
  ·rw[u0 hb hp,ba];have:=ih (n/b) (by rw[iV oO];rw[bA]at hn;exact hn);omega
theorem mV {b:Nat} (hb:2<=b) (n:Nat):n<b^(t7 b n).length:=by
 have:=tK (t7 b n) (zW hb n);rwa[sA hb]at this
theorem nH {b m n:Nat} (hb:2<=b) (h:m<=n):(t7 b m).length<=(t7 b n).length:=
 qc hb _ _ (bY h (mV hb n))
theorem rS {b n k:Nat} (hb:2<=b) (h:k<(t7 b n).length):b^k<=n:=by
 rcases bH n (b^k)with h1|h1
 ·have:=qc hb k n h1;omega
 ·exact h1
theorem Bb {b n:Nat} (hb:2<=b):t7 b n=[]↔n=0:=by
 constructor
 ·intro h;have:=sA hb n;rw[h]at this;exact this.symm
 ·rintro rfl;exact nQ b
def oD (s:ByteArray):List Nat:=s.data.toList.map UInt8.toNat
def val (s:ByteArray):Nat:=lB 256 (oD s).reverse
def kG (n:Nat):ByteArray:=zq (t7 256 n).reverse
theorem xa (l:List Nat) (h:∀d∈l,d<256):oD (zq l)=l:=by
 unfold oD zq;simp only[iP];conv=>rhs;rw[<-List.map_id l]
 apply fS;intro d hd;simp only[Function.comp,id];rw[UInt8.toNat_ofNat'];exact aZ (h d hd)
theorem IJ (s:ByteArray):zq (oD s)=s:=by
 cases s with
 |mk a=>
  unfold oD zq;simp only[iP];congr 1;apply Array.ext';simp only;conv=>rhs;rw[<-List.map_id a.toList]
  apply fS;intro x _;simp
theorem Af (s:ByteArray):∀d∈oD s,d<256:=by
 intro d hd;obtain⟨x,_,rfl⟩:=bT.1 hd;exact x.toNat_lt
theorem pM (s:ByteArray):(oD s).length=s.size:=by unfold oD;rw[aO,fU];rfl
theorem li (n:Nat):val (kG n)=n:=by
 unfold val kG;rw[xa _ (λd hd=>zW dD n d (dV.1 hd)),gO,sA dD]
theorem Cz {m n:Nat} (h:kG m=kG n):m=n:=by rw[<-li m,h,li]
theorem Qk (l:List Nat) (h:∀d∈l,d<256):val (zq l)=lB 256 l.reverse:=by unfold val;rw[xa l h]
theorem r7 (n:Nat):(kG n).size=(t7 256 n).length:=by
 rw[<-pM,kG,xa _ (λd hd=>zW dD n d (dV.1 hd)),fz]
theorem F3 (s:ByteArray):val s<256^s.size:=by
 have:=tK (b:=256) (oD s).reverse (λd hd=>Af s d (dV.1 hd));rwa[fz,pM]at this
theorem ql (s:ByteArray):(kG (val s)).size<=s.size:=by rw[r7];exact qc dD _ _ (F3 s)
theorem D6:kG 0=ByteArray.empty:=by unfold kG;rw[nQ];rfl
theorem DK {n:Nat}:kG n=ByteArray.empty↔n=0:=by
 rw[<-D6];exact⟨λh=>Cz h,λh=>by rw[h]⟩
theorem wW:kG 1=⟨#[1]⟩:=by
 unfold kG;rw[u0 dD dD,show 1/256=0 from rfl,nQ];rfl
abbrev kd:Nat:=4294967296
def kL (n:Nat):List Nat:=t7 kd n
theorem lN {n k:Nat} (h:n<256^k):(kG n).size<=k:=by rw[r7];exact qc dD _ _ h
theorem qo (n:Nat):n<256^(kG n).size:=by rw[r7];exact mV dD n
theorem lT {m n:Nat} (h:m<=n):(kG m).size<=(kG n).size:=lN (bY h (qo n))
theorem lO (m n:Nat):(kG (m*n)).size<=(kG m).size+(kG n).size:=by
 refine lN ?_;rw[dy];have h1:=qo m;have h2:=qo n;exact hJ h1 (fP h2) (bY (ax _) h2)
theorem ut (m n:Nat):(kG (m+n)).size<=max (kG m).size (kG n).size+1:=by
 refine lN ?_;have h1:m<256^max (kG m).size (kG n).size:=dq (qo m) (bM dD (Nat.le_max_left _ _));have h2:n<256^max (kG m).size (kG n).size:=dq (qo n) (bM dD (jR _ _));rw[bA];omega
theorem pL:(kG 1).size=1:=by rw[wW];rfl
theorem uH {n:Nat} (h:0<n):1<=(kG n).size:=by
 have:=lT (m:=1) (n:=n) h;rwa[pL]at this
theorem yv:val ⟨#[1]⟩=1:=by rw[<-wW,li]
theorem ob {n:Nat}:kG n=⟨#[]⟩↔n=0:=DK
theorem Ro:val ⟨#[]⟩=0:=rfl
structure RR where
 neg:Bool
 num:ByteArray
 den:ByteArray
 deriving DecidableEq
def j6 (r:RR):List Value:=[.bool r.neg,.string r.num,.string r.den]
def lu (r:RR):Value:= .agg #[.bool r.neg,.string r.num,.string r.den]
theorem kt:∀r,(j6 r).length=3:=λ_=>rfl
def sg (b:Bool) (n:Nat):Int:=if b then-(n:Int)else n
theorem El (b:Bool) (n:Nat):(sg b n).natAbs=n:=by unfold sg;split<;>simp
def j9 (q:Rat):RR:=⟨decide (q.num<0),kG q.num.natAbs,if q.den=1 then⟨#[]⟩else kG q.den⟩
def dv (s:ByteArray):Nat:=if s=⟨#[]⟩then 1 else val s
def M3 (r:RR):Rat:=mkRat (sg r.neg (val r.num)) (dv r.den)
def L4 (r:RR):Prop:=j9 (M3 r)=r
instance (r:RR):Decidable (L4 r):=inferInstanceAs (Decidable (j9 (M3 r)=r))
def toQ (r:RR):Rat:=if L4 r then M3 r else 0
def fx (r:RR):RR:=j9 (toQ r)
theorem Ri {d:Nat} (h:d≠0):dv (if d=1 then⟨#[]⟩else kG d)=d:=by
 unfold dv;by_cases h1:d=1
 ·simp[h1]
 ·rw[ah h1,ah (by rw[ob];exact h),li]
theorem Ie (q:Rat):M3 (j9 q)=q:=by
 unfold M3 j9;simp only;rw[Ri q.den_nz,li];have:sg (decide (q.num<0)) q.num.natAbs=q.num:=by
  unfold sg;by_cases h:q.num<0<;>simp[h]<;>omega
 rw[this,eu]
theorem Mi (q:Rat):L4 (j9 q):=by unfold L4;rw[Ie]
@[simp] theorem toQ_ofQ (q:Rat):toQ (j9 q)=q:=by unfold toQ;rw[aj (Mi q),Ie]
theorem GB {r:RR} (h:L4 r):j9 (toQ r)=r:=by unfold toQ;rw[aj h];exact h
theorem Um {r:RR} (h:L4 r):fx r=r:=GB h
theorem oC:j9 0=⟨false,⟨#[]⟩,⟨#[]⟩⟩:=by
 unfold j9;simp only[Rat.zero_num,Rat.zero_den,gX];rw[show(0:Int).natAbs=0 from rfl,ob.2 rfl];rfl
theorem FM {r:RR} (h:¬L4 r):toQ r=0:=by unfold toQ;rw[ah h]
theorem UR {r:RR} (h:¬L4 r):fx r=⟨false,⟨#[]⟩,⟨#[]⟩⟩:=by unfold fx;rw[FM h,oC]
theorem sR {q:Rat}:(j9 q).num=⟨#[]⟩↔q=0:=by
 show kG q.num.natAbs=_↔_;rw[ob,jD,fG]
theorem De {b:Bool} {n d:Nat} (hn:0<n) (hd:d≠0) (hc:Nat.gcd n d=1):j9 (mkRat (sg b n) d)=⟨b,kG n,if d=1 then⟨#[]⟩else kG d⟩:=by
 have e:(⟨sg b n,d,hd,by rw[El];exact hc⟩:Rat)=mkRat (sg b n) d:=Rat.mk_eq_mkRat ..;rw[<-e];unfold j9;simp only[El];have:decide (sg b n<0)=b:=by
  unfold sg;cases b
  ·simp
  ·simp;omega
 rw[this]
theorem EQ {b:Bool} {n d g:Nat} (hd:d≠0) (hg:g=Nat.gcd n d):mkRat (sg b n) d=mkRat (sg b (n/g)) (d/g):=by
 have hgp:0<g:=by rw[hg];exact iA _ oO
 have h1:g*(n/g)=n:=jg (by rw[hg];exact iI _ _);have h2:g*(d/g)=d:=jg (by rw[hg];exact ft _ _);have h3:sg b n=(g:Int)*sg b (n/g):=by
  unfold sg;have:((n:Nat):Int)=(g:Int)*((n/g:Nat):Int):=by exact_mod_cast h1.symm
  split
  ·rw[this,Int.mul_neg]
  ·exact this
 conv=>lhs;rw[h3,<-h2]
 exact Rat.mkRat_mul_left oO
theorem RH (r:RR):L4 r↔kG (val r.num)=r.num/\kG (val r.den)=r.den/\
  (r.num=⟨#[]⟩->r.neg=false/\r.den=⟨#[]⟩)/\(r.num≠⟨#[]⟩->r.den=⟨#[]⟩\/(r.den≠⟨#[1]⟩/\Nat.gcd (val r.num) (val r.den)=1)):=by
 constructor
 ·intro h;obtain⟨q,rfl⟩:∃q,r=j9 q:=⟨_,h.symm⟩;have hnum:val (j9 q).num=q.num.natAbs:=li _;refine⟨by rw[hnum];rfl,?_,?_,?_⟩
  ·show kG (val (if q.den=1 then _ else _))=if q.den=1 then _ else _
   split
   ·rw[Ro];exact ob.2 rfl
   ·rw[li]
  ·intro h0;have:q=0:=sR.1 h0;subst this;rw[oC];exact⟨rfl,rfl⟩
  ·intro h0;by_cases h1:q.den=1
   ·left;show(if q.den=1 then _ else _)=_;rw[aj h1]
   ·right;have hden:(j9 q).den=kG q.den:=by show(if q.den=1 then _ else _)=_;rw[ah h1]
    rw[hnum,hden,li];exact⟨λh2=>h1 (by rw[<-li q.den,h2,yv]),q.reduced⟩
 ·rintro⟨h1,h2,h3,h4⟩;by_cases h0:r.num=⟨#[]⟩
  ·obtain⟨g1,g2⟩:=h3 h0;have:r=j9 0:=by rw[oC];cases r;simp_all
   rw[this];exact Mi 0
  ·have hn:0<val r.num:=by
    rcases dh (val r.num)with g|g
    ·rw[g,ob.2 rfl]at h1;exact absurd h1.symm h0
    ·exact g
   unfold L4 M3;rcases h4 h0 with g|⟨g1,g2⟩
   ·have hd:dv r.den=1:=by unfold dv;rw[aj g]
    rw[hd,De hn dD (jJ _),aj rfl,h1];cases r;simp_all
   ·by_cases hd0:r.den=⟨#[]⟩
    ·have hd:dv r.den=1:=by unfold dv;rw[aj hd0]
     rw[hd,De hn dD (jJ _),aj rfl,h1];cases r;simp_all
    ·have hd:dv r.den=val r.den:=by unfold dv;rw[ah hd0]
     have hdn:val r.den≠0:=λg=>by rw[g,ob.2 rfl]at h2;exact hd0 h2.symm
     have hd1:val r.den≠1:=λg=>by rw[g,wW]at h2;exact g1 h2.symm
     rw[hd,De hn hdn g2,ah hd1,h1,h2]
def L (q:Rat):Nat:=max (kG q.num.natAbs).size (kG q.den).size
def Lr (r:RR):Nat:=max 1 (max r.num.size r.den.size)
theorem Vk (q:Rat):1<=L q:=dt (uH (Nat.pos_of_ne_zero q.den_nz)) (jR _ _)
theorem tU (q:Rat):(kG q.num.natAbs).size<=L q:=Nat.le_max_left _ _
theorem to (q:Rat):(kG q.den).size<=L q:=jR _ _
@[simp] theorem Lr_ofQ (q:Rat):Lr (j9 q)=L q:=by
 unfold Lr L j9;simp only;have h1:=uH (Nat.pos_of_ne_zero q.den_nz);by_cases h:q.den=1
 ·rw[aj h,h,pL];show max 1 (max _ 0)=_;omega
 ·rw[ah h];omega
theorem n8:L 0=1:=by
 unfold L;rw[Rat.zero_num,Rat.zero_den,pL,show(0:Int).natAbs=0 from rfl,ob.2 rfl];rfl
theorem T9 (r:RR):1<=Lr r:=by unfold Lr;omega
theorem uK (r:RR):L (toQ r)<=Lr r:=by
 by_cases h:L4 r
 ·rw[<-Lr_ofQ,GB h];exact aB _
 ·rw[FM h,n8];exact T9 r
theorem G6 (r:RR):r.num.size<=Lr r:=by unfold Lr;omega
theorem HQ (r:RR):r.den.size<=Lr r:=by unfold Lr;omega
theorem FD (n:Int) {d:Nat} (hd:d≠0) {k:Nat} (h1:(kG n.natAbs).size<=k) (h2:(kG d).size<=k):L (mkRat n d)<=k:=by
 have e1:(mkRat n d).num.natAbs<=n.natAbs:=by
  rw[Rat.num_mkRat,ah hd,Int.natAbs_ediv_of_dvd]
  ·exact dz _ _
  ·exact Int.dvd_natAbs.1 (Int.natCast_dvd_natCast.2 (ft _ _))
 have e2:(mkRat n d).den<=d:=by rw[Rat.den_mkRat,ah hd];exact dz _ _
 unfold L;have:=lT e1;have:=lT e2;omega
theorem zK (p q:Rat):L (p*q)<=L p+L q:=by
 rw[Rat.mul_def'];refine FD _ (fW p.den_nz q.den_nz) ?_ ?_
 ·rw[i6];have:=lO p.num.natAbs q.num.natAbs;have:=tU p;have:=tU q;omega
 ·have:=lO p.den q.den;have:=to p;have:=to q;omega
theorem Bc (p q:Rat):L (p+q)<=L p+L q+1:=by
 rw[Rat.add_def'];have a1:=tU p;have a2:=tU q;have a3:=to p;have a4:=to q;refine FD _ (fW p.den_nz q.den_nz) ?_ ?_
 ·have h:(p.num*q.den+q.num*p.den).natAbs<=p.num.natAbs*q.den+q.num.natAbs*p.den:=by
   refine dt (Int.natAbs_add_le _ _) ?_;rw[i6,i6,ga,ga];exact aB _
  have h1:=lT h;have h2:=ut (p.num.natAbs*q.den) (q.num.natAbs*p.den);have h3:=lO p.num.natAbs q.den;have h4:=lO q.num.natAbs p.den;omega
 ·have:=lO p.den q.den;omega
theorem C3 (q:Rat):L (-q)=L q:=by unfold L;rw[Rat.neg_num,Rat.neg_den,Int.natAbs_neg]
theorem tV (p q:Rat):L (p-q)<=L p+L q+1:=by rw[g8,<-C3 q];exact Bc p (-q)
theorem VH (q:Rat):L q⁻¹<=L q:=by
 by_cases h:q.num=0
 ·rw[fG.1 h,Rat.inv_zero];exact aB _
 ·unfold L;rw[Rat.num_inv,Rat.den_inv,ah h,i6,ga];have:q.num.sign.natAbs=1:=by rw[Int.natAbs_sign];simp[h]
  rw[this,dG,Nat.max_comm];exact aB _
theorem z5 (p q:Rat):L (p/q)<=L p+L q:=by
 rw[bR];have:=zK p q⁻¹;have:=VH q;omega
theorem Vj {q:Rat} {k:Nat} (h1:q.num.natAbs<256^k) (h2:q.den<256^k):L q<=k:=by
 unfold L;have:=lN h1;have:=lN h2;omega
theorem Hm:L 1=1:=by
 have h1:L 1<=1:=Vj dD dD;have:=Vk 1;omega
theorem VA (n:Int) {k:Nat} (h:n.natAbs<256^k) (hk:1<=k):L (n:Rat)<=k:=by
 refine Vj (by rw[Rat.num_intCast];exact h) ?_;rw[Rat.den_intCast];have:256^1<=256^k:=bM dD hk;omega
def sj (q:Rat):Int:=if q.num=0 then 0 else if q.num<0 then-1 else 1
def tf (p q:Rat):Int:=if p<q then-1 else if q<p then 1 else 0
theorem R7 {q:Rat}:q.num<0↔q<0:=by
 have:=Rat.lt_iff q 0;simp only[Rat.zero_num,Rat.zero_den,Int.zero_mul]at this;simpa using this.symm
theorem za {q:Rat}:sj q<0↔q<0:=by
 rw[<-R7];unfold sj;split<;>(try split)<;>omega
theorem xy {q:Rat}:sj q=0↔q=0:=by
 rw[<-fG];unfold sj;split<;>(try split)<;>omega
theorem nB {q:Rat}:0<sj q↔0<q:=by
 have h1:=za (q:=q);have h2:=xy (q:=q);constructor
 ·intro h;rcases jf.1 (gE.1 (λg=>by have:=h1.2 g;omega:¬q<0))with g|g
  ·exact g
  ·exfalso;have:=h2.2 g.symm;omega
 ·intro h;have g1:¬sj q<0:=λg=>dw (a:=(0:Rat)) (by have:=h1.1 g;grind);have g2:¬sj q=0:=λg=>by have:=h2.1 g;rw[this]at h;exact dw h
  omega
theorem Cc (q:Rat):sj q= -1\/sj q=0\/sj q=1:=by unfold sj;split<;>(try split)<;>simp
theorem KT {p q:Rat} (h:p<q):tf p q= -1:=by unfold tf;rw[aj h]
theorem KN {p q:Rat} (h:q<p):tf p q=1:=by unfold tf;rw[ah (by grind),aj h]
theorem KU {p:Rat}:tf p p=0:=by unfold tf;rw[ah dw,ah dw]
theorem tP (p q:Rat):(p<q/\tf p q= -1)\/(p=q/\tf p q=0)\/(q<p/\tf p q=1):=by
 rcases Rat.le_total (a:=p) (b:=q)with h|h
 ·rcases jf.1 h with g|g
  ·exact .inl ⟨g,KT g⟩
  ·subst g;exact .inr (.inl ⟨rfl,KU⟩)
 ·rcases jf.1 h with g|g
  ·exact .inr (.inr ⟨g,KN g⟩)
  ·subst g;exact .inr (.inl ⟨rfl,KU⟩)
theorem Dr {p q:Rat}:tf p q<0↔p<q:=by
 rcases tP p q with⟨h,e⟩|⟨h,e⟩|⟨h,e⟩<;>rw[e]
 ·exact⟨λ_=>h,λ_=>dD⟩
 ·subst h;exact⟨λh=>absurd h dD,λh=>absurd h dw⟩
 ·exact⟨λh=>absurd h dD,λg=>absurd g (by grind)⟩
theorem N4 {p q:Rat}:0<tf p q↔q<p:=by
 rcases tP p q with⟨h,e⟩|⟨h,e⟩|⟨h,e⟩<;>rw[e]
 ·exact⟨λh=>absurd h dD,λg=>absurd g (by grind)⟩
 ·subst h;exact⟨λh=>absurd h dD,λh=>absurd h dw⟩
 ·exact⟨λ_=>h,λ_=>dD⟩
theorem KA {p q:Rat}:tf p q<=0↔p<=q:=by rw[<-Int.not_lt,N4,gE]
theorem K5 {p q:Rat}:0<=tf p q↔q<=p:=by rw[<-Int.not_lt,Dr,gE]
theorem CJ (q:Rat):sg (decide (q.num<0)) q.num.natAbs=q.num:=by
 unfold sg;by_cases h:q.num<0<;>simp[h]<;>omega
theorem Hu (q:Rat):mkRat (sg (decide (q.num<0)) q.num.natAbs) q.den=q:=by rw[CJ,eu]
theorem yX (q:Rat) {e:Nat} (he:e≠0):mkRat (sg (decide (q.num<0)) (q.num.natAbs*e)) (q.den*e)=q:=by
 have h:sg (decide (q.num<0)) (q.num.natAbs*e)=q.num*(e:Int):=by
  conv=>rhs;rw[<-CJ q]
  unfold sg;split
  ·rw[gV,jW]
  ·rw[gV]
 rw[h,i9 he,eu]
theorem Db (a b:Int) {D:Nat} (hD:D≠0):mkRat a D+mkRat b D=mkRat (a+b) D:=by
 rw[Rat.mkRat_add_mkRat _ _ hD hD,<-Int.add_mul,i9 hD]
theorem TC (b:Bool) (X Y:Nat):sg b X+sg b Y=sg b (X+Y):=by unfold sg;split<;>(push_cast;omega)
theorem Uf {b c:Bool} (h:b≠c) {X Y:Nat} (hle:Y<=X):sg b X+sg c Y=sg b (X-Y):=by
 cases b<;>cases c<;>first|exact absurd rfl h|(simp[sg];omega)
theorem Q8 {b c:Bool} (h:b≠c) {X Y:Nat} (hle:X<=Y):sg b X+sg c Y=sg c (Y-X):=by
 cases b<;>cases c<;>first|exact absurd rfl h|(simp[sg];omega)
theorem AY {p q:Rat}:(j9 p).den=(j9 q).den↔p.den=q.den:=by
 show(if p.den=1 then _ else _)=(if q.den=1 then _ else _)↔_;have h1:∀(d:Nat),d≠0->kG d≠⟨#[]⟩:=λd hd h=>hd (ob.1 h);by_cases hp:p.den=1
 ·by_cases hq:q.den=1
  ·simp[hp,hq]
  ·rw[aj hp,ah hq];exact⟨λh=>absurd h.symm (h1 _ q.den_nz),λh=>absurd (h.symm.trans hp) hq⟩
 ·by_cases hq:q.den=1
  ·rw[ah hp,aj hq];exact⟨λh=>absurd h (h1 _ p.den_nz),λh=>absurd (h.trans hq) hp⟩
  ·rw[ah hp,ah hq];exact⟨λh=>Cz h,λh=>by rw[h]⟩
end Go.Sx
namespace Go.Proofs.YtoeiejliehgopaaGreatDoor
open Go Go.Sx
theorem ni:lS Tryz.prog 3=some (1,false,[.int .i64 0]):=by kernel_rfl
theorem qn:lS Tryz.prog 4=some (1,false,[.bool false]):=by kernel_rfl
theorem WV:lS Tryz.prog 5=some (1,false,[.int .u8 0]):=by kernel_rfl
theorem t9:lS Tryz.prog 9=some (1,false,[.string ⟨#[]⟩]):=by kernel_rfl
theorem Wk:sinfo Tryz.prog 22=some (25,1,2,[.int .u16 0]):=by kernel_rfl
theorem VW:sinfo Tryz.prog 23=some (69,4,8,[.int .u16 0,.int .u16 0,.int .u16 0,.int .u16 0]):=by kernel_rfl
theorem SK:sinfo Tryz.prog 24=some (70,3,6,[.int .u16 0,.int .u16 0,.int .u16 0]):=by kernel_rfl
theorem pG:lS Tryz.prog 25=some (1,false,[.int .u16 0]):=by kernel_rfl
theorem pw:sinfo Tryz.prog 26=some (51,5,88,[.bool false,.string ⟨#[]⟩,.string ⟨#[]⟩,.slice none 0 0,.slice none 0 0]):=by kernel_rfl
theorem pu:lS Tryz.prog 26=some (1,false,[.slice none 0 0]):=by kernel_rfl
theorem rV:sinfo Tryz.prog 27=some (64,4,64,[.bool false,.string ⟨#[]⟩,.string ⟨#[]⟩,.slice none 0 0]):=by kernel_rfl
theorem rU:lS Tryz.prog 27=some (1,false,[.slice none 0 0]):=by kernel_rfl
theorem qV:lS Tryz.prog 29=some (2,true,[.slice none 0 0,.slice none 0 0]):=by kernel_rfl
theorem tv:od Tryz.prog 29 0=some 0:=by kernel_rfl
theorem zx:od Tryz.prog 29 1=some 1:=by kernel_rfl
theorem Wh:Tryz.prog.built 29 []=some #[.slice none 0 0,.slice none 0 0]:=by kernel_rfl
theorem ki:lS Tryz.prog 32=some (3,true,[.bool false,.string ⟨#[]⟩,.string ⟨#[]⟩]):=by kernel_rfl
theorem u9:od Tryz.prog 32 0=some 0:=by kernel_rfl
theorem BZ:od Tryz.prog 32 1=some 1:=by kernel_rfl
theorem ry:od Tryz.prog 32 2=some 2:=by kernel_rfl
theorem pI:Tryz.prog.built 32 []=some #[.bool false,.string ⟨#[]⟩,.string ⟨#[]⟩]:=by kernel_rfl
theorem kM:sinfo Tryz.prog 34=some (32,3,40,[.bool false,.string ⟨#[]⟩,.string ⟨#[]⟩]):=by kernel_rfl
theorem lV:lS Tryz.prog 34=some (1,false,[.slice none 0 0]):=by kernel_rfl
theorem lL:sinfo Tryz.prog 35=some (34,1,24,[.slice none 0 0]):=by kernel_rfl
theorem qb:lS Tryz.prog 35=some (1,false,[.slice none 0 0]):=by kernel_rfl
theorem qa:sinfo Tryz.prog 36=some (4,1,1,[.bool false]):=by kernel_rfl
theorem xt:lS Tryz.prog 36=some (1,false,[.slice none 0 0]):=by kernel_rfl
theorem wH:lS Tryz.prog 38=some (8,true,[.slice none 0 0,.slice none 0 0,.slice none 0 0,.slice none 0 0,.slice none 0 0,.slice none 0 0,.slice none 0 0,.slice none 0 0]):=by kernel_rfl
theorem Gc:od Tryz.prog 38 0=some 0:=by kernel_rfl
theorem KQ:od Tryz.prog 38 1=some 1:=by kernel_rfl
theorem Mq:od Tryz.prog 38 2=some 2:=by kernel_rfl
theorem K7:od Tryz.prog 38 3=some 3:=by kernel_rfl
theorem up:od Tryz.prog 38 4=some 4:=by kernel_rfl
theorem LK:od Tryz.prog 38 5=some 5:=by kernel_rfl
theorem Kx:od Tryz.prog 38 6=some 6:=by kernel_rfl
theorem L9:od Tryz.prog 38 7=some 7:=by kernel_rfl
theorem pH:sinfo Tryz.prog 46=some (3,1,8,[.int .i64 0]):=by kernel_rfl
theorem Bh:lS Tryz.prog 46=some (1,false,[.slice none 0 0]):=by kernel_rfl
theorem qv:sinfo Tryz.prog 48=some (53,5,56,[.int .i64 0,.int .i64 0,.bool false,.string ⟨#[]⟩,.string ⟨#[]⟩]):=by kernel_rfl
theorem pS:lS Tryz.prog 48=some (1,false,[.slice none 0 0]):=by kernel_rfl
theorem Ej:sinfo Tryz.prog 49=some (82,1,24,[.slice none 0 0]):=by kernel_rfl
theorem xq:lS Tryz.prog 49=some (1,false,[.slice none 0 0]):=by kernel_rfl
theorem tq:lS Tryz.prog 51=some (5,true,[.bool false,.string ⟨#[]⟩,.string ⟨#[]⟩,.slice none 0 0,.slice none 0 0]):=by kernel_rfl
theorem F5:od Tryz.prog 51 0=some 0:=by kernel_rfl
theorem qk:od Tryz.prog 51 1=some 3:=by kernel_rfl
theorem BR:od Tryz.prog 51 2=some 4:=by kernel_rfl
theorem V8:Tryz.prog.built 51 []=some #[.bool false,.string ⟨#[]⟩,.string ⟨#[]⟩,.slice none 0 0,.slice none 0 0]:=by kernel_rfl
theorem uh:lS Tryz.prog 53=some (5,true,[.int .i64 0,.int .i64 0,.bool false,.string ⟨#[]⟩,.string ⟨#[]⟩]):=by kernel_rfl
theorem sv:od Tryz.prog 53 0=some 0:=by kernel_rfl
theorem FN:od Tryz.prog 53 1=some 1:=by kernel_rfl
theorem Lf:od Tryz.prog 53 2=some 2:=by kernel_rfl
theorem pU:sinfo Tryz.prog 62=some (66,2,16,[.int .i64 0,.int .i64 0]):=by kernel_rfl
theorem qh:lS Tryz.prog 62=some (1,false,[.slice none 0 0]):=by kernel_rfl
theorem rW:lS Tryz.prog 64=some (4,true,[.bool false,.string ⟨#[]⟩,.string ⟨#[]⟩,.slice none 0 0]):=by kernel_rfl
theorem Lu:od Tryz.prog 64 0=some 0:=by kernel_rfl
theorem sx:od Tryz.prog 64 1=some 3:=by kernel_rfl
theorem qq:lS Tryz.prog 66=some (2,true,[.int .i64 0,.int .i64 0]):=by kernel_rfl
theorem vV:od Tryz.prog 66 0=some 0:=by kernel_rfl
theorem uo:od Tryz.prog 66 1=some 1:=by kernel_rfl
theorem zJ:lS Tryz.prog 69=some (4,true,[.int .u16 0,.int .u16 0,.int .u16 0,.int .u16 0]):=by kernel_rfl
theorem yj:lS Tryz.prog 70=some (3,true,[.int .u16 0,.int .u16 0,.int .u16 0]):=by kernel_rfl
theorem yk:sinfo Tryz.prog 80=some (83,1,24,[.slice none 0 0]):=by kernel_rfl
theorem zE:lS Tryz.prog 80=some (1,false,[.slice none 0 0]):=by kernel_rfl
theorem xh:lS Tryz.prog 82=some (1,true,[.slice none 0 0]):=by kernel_rfl
theorem Gu:od Tryz.prog 82 0=some 0:=by kernel_rfl
theorem wo:sinfo Tryz.prog 83=some (85,5,56,[.int .i64 0,.bool false,.bool false,.string ⟨#[]⟩,.string ⟨#[]⟩]):=by kernel_rfl
theorem zQ:lS Tryz.prog 83=some (1,false,[.slice none 0 0]):=by kernel_rfl
theorem wq:lS Tryz.prog 85=some (5,true,[.int .i64 0,.bool false,.bool false,.string ⟨#[]⟩,.string ⟨#[]⟩]):=by kernel_rfl
theorem xE:od Tryz.prog 85 0=some 0:=by kernel_rfl
theorem Fb:od Tryz.prog 85 1=some 1:=by kernel_rfl
theorem BU:od Tryz.prog 85 2=some 2:=by kernel_rfl
theorem Do:sinfo Tryz.prog 104=some (112,6,96,[.int .i64 0,.slice none 0 0,.slice none 0 0,.bool false,.string ⟨#[]⟩,.string ⟨#[]⟩]):=by kernel_rfl
theorem qK:lS Tryz.prog 104=some (1,false,[.slice none 0 0]):=by kernel_rfl
theorem Gy:sinfo Tryz.prog 105=some (36,1,24,[.slice none 0 0]):=by kernel_rfl
theorem uz:lS Tryz.prog 105=some (1,false,[.slice none 0 0]):=by kernel_rfl
theorem HJ:od Tryz.prog 107 0=some 0:=by kernel_rfl
theorem H9:od Tryz.prog 107 1=some 2:=by kernel_rfl
theorem CK:od Tryz.prog 107 2=some 3:=by kernel_rfl
theorem se:sinfo Tryz.prog 109=some (157,4,64,[.slice none 0 0,.bool false,.string ⟨#[]⟩,.string ⟨#[]⟩]):=by kernel_rfl
theorem t6:lS Tryz.prog 109=some (1,false,[.slice none 0 0]):=by kernel_rfl
theorem Ap:sinfo Tryz.prog 110=some (160,2,48,[.slice none 0 0,.slice none 0 0]):=by kernel_rfl
theorem wg:lS Tryz.prog 110=some (1,false,[.slice none 0 0]):=by kernel_rfl
theorem oY:lS Tryz.prog 112=some (6,true,[.int .i64 0,.slice none 0 0,.slice none 0 0,.bool false,.string ⟨#[]⟩,.string ⟨#[]⟩]):=by kernel_rfl
theorem Ik:od Tryz.prog 112 0=some 0:=by kernel_rfl
theorem Ha:od Tryz.prog 112 1=some 1:=by kernel_rfl
theorem G8:od Tryz.prog 112 2=some 2:=by kernel_rfl
theorem Hz:od Tryz.prog 112 3=some 3:=by kernel_rfl
theorem t5:lS Tryz.prog 123=some (2,true,[.slice none 0 0,.slice none 0 0]):=by kernel_rfl
theorem G9:od Tryz.prog 123 0=some 0:=by kernel_rfl
theorem HT:od Tryz.prog 123 1=some 1:=by kernel_rfl
theorem lP:sinfo Tryz.prog 138=some (141,1,4,[.int .u32 0]):=by kernel_rfl
theorem lr:sinfo Tryz.prog 139=some (141,1,4,[.int .u32 0]):=by kernel_rfl
theorem kK:lS Tryz.prog 141=some (1,false,[.int .u32 0]):=by kernel_rfl
theorem Gw:sinfo Tryz.prog 155=some (207,4,48,[.int .i64 0,.bool false,.string ⟨#[]⟩,.string ⟨#[]⟩]):=by kernel_rfl
theorem ux:lS Tryz.prog 155=some (1,false,[.slice none 0 0]):=by kernel_rfl
theorem tj:lS Tryz.prog 157=some (4,true,[.slice none 0 0,.bool false,.string ⟨#[]⟩,.string ⟨#[]⟩]):=by kernel_rfl
theorem HL:od Tryz.prog 157 0=some 0:=by kernel_rfl
theorem CX:od Tryz.prog 157 1=some 1:=by kernel_rfl
theorem qG:lS Tryz.prog 160=some (2,true,[.slice none 0 0,.slice none 0 0]):=by kernel_rfl
theorem HN:od Tryz.prog 160 0=some 0:=by kernel_rfl
theorem CC:od Tryz.prog 160 1=some 1:=by kernel_rfl
theorem Ig:od Tryz.prog 167 0=some 0:=by kernel_rfl
theorem Iq:od Tryz.prog 167 1=some 1:=by kernel_rfl
theorem Dl:sinfo Tryz.prog 189=some (5,1,1,[.int .u8 0]):=by kernel_rfl
theorem uv:lS Tryz.prog 207=some (4,true,[.int .i64 0,.bool false,.string ⟨#[]⟩,.string ⟨#[]⟩]):=by kernel_rfl
theorem H4:od Tryz.prog 207 0=some 0:=by kernel_rfl
theorem Hg:od Tryz.prog 207 1=some 1:=by kernel_rfl
theorem rB:sinfo Tryz.prog 218=some (220,1,24,[.slice none 0 0]):=by kernel_rfl
theorem rK:sinfo Tryz.prog 220=some (223,2,24,[.bool false,.string ⟨#[]⟩]):=by kernel_rfl
theorem rY:lS Tryz.prog 220=some (1,false,[.slice none 0 0]):=by kernel_rfl
theorem oX:lS Tryz.prog 223=some (2,true,[.bool false,.string ⟨#[]⟩]):=by kernel_rfl
theorem y7:od Tryz.prog 223 0=some 0:=by kernel_rfl
theorem wS:od Tryz.prog 223 1=some 1:=by kernel_rfl
theorem TM:Tryz.prog.built 223 []=some #[.bool false,.string ⟨#[]⟩]:=by kernel_rfl
open Go Go.RowKit Go.Sx
theorem jp {P : Program} {N : Nat} {ρ : Nat → Value} {w : World} {ops : Array Oper} {d : Option Tmp} {p : Op} {ty : TypeId} {pos : String} {aft : Array Edge} {Q : Exit → Act → World → Prop} {rest : List Oper} (h : mb P N ρ ⟨d, p, ty, pos, aft, none⟩ fun v => wl P ops Q rest N (sW ρ d v) w) : wl P ops Q (⟨d, p, ty, pos, aft, none⟩ :: rest) N ρ w := kf rfl h
theorem jq {P : Program} {N : Nat} {ρ : Nat → Value} {w : World} {ops : Array Oper} {d : Option Tmp} {p : Op} {ty : TypeId} {pos : String} {aft : Array Edge} {Q : Exit → Act → World → Prop} {rest : List Oper} (h : qU P N ρ w ⟨d, p, ty, pos, aft, none⟩ fun v => wl P ops Q rest N (sW ρ d v) w) : wl P ops Q (⟨d, p, ty, pos, aft, none⟩ :: rest) N ρ w := lD rfl h
theorem jh {P : Program} {N : Nat} {ρ : Nat → Value} {w : World} {ops : Array Oper} {d : Option Tmp} {p : Op} {ty : TypeId} {pos : String} {aft : Array Edge} {Q : Exit → Act → World → Prop} {rest : List Oper} (h : pi P N ρ w ⟨d, p, ty, pos, aft, none⟩ fun v w' => wl P ops Q rest N (sW ρ d v) w') : wl P ops Q (⟨d, p, ty, pos, aft, none⟩ :: rest) N ρ w := oS rfl h
theorem jl {P : Program} {N : Nat} {ρ : Nat → Value} {w : World} {ops : Array Oper} {d : Option Tmp} {p : Op} {ty : TypeId} {pos : String} {aft : Array Edge} {i : Nat} {σ : List (Nat × Md)} {Kend : Act → World → Prop} (ho : ops[i]? = some ⟨d, p, ty, pos, aft, none⟩) (h : mb P N ρ ⟨d, p, ty, pos, aft, none⟩ fun v => Wr P ops Kend σ N (sW ρ d v) w) : Wr P ops Kend ((i, .pure) :: σ) N ρ w := kU ho rfl h
theorem jm {P : Program} {N : Nat} {ρ : Nat → Value} {w : World} {ops : Array Oper} {d : Option Tmp} {p : Op} {ty : TypeId} {pos : String} {aft : Array Edge} {i : Nat} {σ : List (Nat × Md)} {Kend : Act → World → Prop} (ho : ops[i]? = some ⟨d, p, ty, pos, aft, none⟩) (h : qU P N ρ w ⟨d, p, ty, pos, aft, none⟩ fun v => Wr P ops Kend σ N (sW ρ d v) w) : Wr P ops Kend ((i, .read) :: σ) N ρ w := nl ho rfl h
theorem jn {P : Program} {N : Nat} {ρ : Nat → Value} {w : World} {ops : Array Oper} {d : Option Tmp} {p : Op} {ty : TypeId} {pos : String} {aft : Array Edge} {i : Nat} {σ : List (Nat × Md)} {Kend : Act → World → Prop} (ho : ops[i]? = some ⟨d, p, ty, pos, aft, none⟩) (h : pi P N ρ w ⟨d, p, ty, pos, aft, none⟩ fun v w' => Below w.heap.size w w' ∧ Wr P ops Kend σ N (sW ρ d v) w') : Wr P ops Kend ((i, .ko) :: σ) N ρ w := Ac ho rfl h
theorem jx {P : Program} {N : Nat} {ρ : Nat → Value} {w : World} {ops : Array Oper} {d : Option Tmp} {p : Op} {ty : TypeId} {pos : String} {aft : Array Edge} {i : Nat} {σ : List (Nat × Md)} {Kend : Act → World → Prop} (ho : ops[i]? = some ⟨d, p, ty, pos, aft, none⟩) (h : pi P N ρ w ⟨d, p, ty, pos, aft, none⟩ fun v w' => Wr P ops Kend σ N (sW ρ d v) w') : Wr P ops Kend ((i, .free) :: σ) N ρ w := Tz ho rfl h
abbrev jo (i : Nat) : Nat × Md := (i, .pure)
abbrev ju (i : Nat) : Nat × Md := (i, .read)
abbrev jv (i : Nat) : Nat × Md := (i, .ko)
abbrev jw (i : Nat) : Nat × Md := (i, .free)
abbrev pB (b : Nat) : Value := .pointer (some ⟨b, 0, none⟩)
abbrev iB (m : Int) : Value := .int .i64 m
theorem ja {G' G : Prop} (h : G') (e : Jh G' → G := by intro h; (repeat (first | (with_reducible first | refine zp ?_ | refine xB ?_ | refine uE ?_ | refine uC ?_ | refine tz ?_ | refine pz ?_ | refine oU ?_ | refine oT ?_ | refine ot ?_ | refine ol rfl ?_ | refine zT ?_ | refine zL ?_))); exact h.1) : G := e ⟨h⟩
theorem jt {G' G : Prop} (h : G') (e : Jh G' → G := by intro h; (repeat (first | (with_reducible first | refine zp ?_ | refine xB ?_ | refine uE ?_ | refine uC ?_ | refine tz ?_ | refine pz ?_ | refine oU ?_ | refine oT ?_ | refine ot ?_ | refine ol rfl ?_ | refine zT ?_ | refine zL ?_ | refine L3 ?_ | refine Dq ?_))); exact h.1) : G := e ⟨h⟩
theorem jr {G' G : Prop} (h : G') (e : Jh G' → G := by intro h; (repeat (first | (with_reducible first | refine zp ?_ | refine xB ?_ | refine uE ?_ | refine uC ?_ | refine tz ?_ | refine pz ?_ | refine oU ?_ | refine oT ?_ | refine ot ?_ | refine ol rfl ?_ | refine zT ?_ | refine zL ?_) | refine G3 ?_)); exact h.1) : G := e ⟨h⟩
theorem js {G' G : Prop} (h : G') (e : Jh G' → G := by intro h; (repeat (first | (with_reducible first | refine zp ?_ | refine xB ?_ | refine uE ?_ | refine uC ?_ | refine tz ?_ | refine pz ?_ | refine oU ?_ | refine oT ?_ | refine ot ?_ | refine ol rfl ?_ | refine zT ?_ | refine zL ?_ | refine L3 ?_ | refine Dq ?_) | refine G3 ?_)); exact h.1) : G := e ⟨h⟩
theorem jb {G' G : Prop} (h : G') (e : Jh G' → G := by intro h; (repeat (first | (with_reducible first | refine zp ?_ | refine uE ?_ | refine uC ?_ | refine tz ?_ | refine pz ?_ | refine oU ?_ | refine oT ?_ | refine ot ?_ | refine ol rfl ?_ | refine zT ?_ | refine zL ?_))); exact h.1) : G := e ⟨h⟩
theorem jd {G' G : Prop} (h : G') (e : Jh G' → G := by intro h; (repeat (first | (with_reducible first | refine zp ?_ | refine uE ?_ | refine uC ?_ | refine tz ?_ | refine pz ?_ | refine oU ?_ | refine oT ?_ | refine ot ?_ | refine ol rfl ?_ | refine zT ?_ | refine zL ?_ | refine L3 ?_ | refine Dq ?_))); exact h.1) : G := e ⟨h⟩
theorem jc {G' G : Prop} (h : G') (e : Jh G' → G := by intro h; (repeat (first | (with_reducible first | refine zp ?_ | refine uE ?_ | refine uC ?_ | refine tz ?_ | refine pz ?_ | refine oU ?_ | refine oT ?_ | refine ot ?_ | refine ol rfl ?_ | refine zT ?_ | refine zL ?_) | refine G3 ?_)); exact h.1) : G := e ⟨h⟩
theorem je {G' G : Prop} (h : G') (e : Jh G' → G := by intro h; (repeat (first | (with_reducible first | refine zp ?_ | refine uE ?_ | refine uC ?_ | refine tz ?_ | refine pz ?_ | refine oU ?_ | refine oT ?_ | refine ot ?_ | refine ol rfl ?_ | refine zT ?_ | refine zL ?_ | refine L3 ?_ | refine Dq ?_) | refine G3 ?_)); exact h.1) : G := e ⟨h⟩
theorem V0 {H : List kV} {x : Option kV} (h : H[0]? = x) : H[0]? = x := h
theorem Vs {H : List kV} {x : Option kV} (h : H[1]? = x) : H[1]? = x := h
theorem WE {H : List kV} {x : Option kV} (h : H[2]? = x) : H[2]? = x := h
theorem Wv {H : List kV} {x : Option kV} (h : H[3]? = x) : H[3]? = x := h
theorem Wl {H : List kV} {x : Option kV} (h : H[4]? = x) : H[4]? = x := h
theorem VE {H : List kV} {x : Option kV} (h : H[5]? = x) : H[5]? = x := h
theorem Wu {H : List kV} {x : Option kV} (h : H[6]? = x) : H[6]? = x := h
theorem VB {H : List kV} {x : Option kV} (h : H[7]? = x) : H[7]? = x := h
theorem J0 {G' G : Prop} (h : G') (e : Jh G' → G := by intro h; (repeat (first | (with_reducible first | refine zp ?_ | refine xB ?_ | refine uE ?_ | refine uC ?_ | refine tz ?_ | refine pz ?_ | refine oU ?_ | refine oT ?_ | refine ot ?_ | refine ol rfl ?_ | refine zT ?_ | refine zL ?_ | refine Dq ?_) | refine G3 ?_)); (first | ((with_reducible apply jp); first | ((with_reducible apply ks); (first | assumption | exact rfl)) | ((with_reducible apply ou); (first | assumption | exact rfl)) | ((with_reducible apply lI); (first | exact rfl | assumption); (with_reducible first | exact sx | exact tv | exact qk | exact BZ | exact u9 | exact ry | exact vV | exact sv | exact zx | exact wS | exact xE | exact uo | exact y7 | exact up | exact H9 | exact Ig | exact CC | exact BR | exact G8 | exact Gu | exact HJ | exact CX | exact Fb | exact HT | exact BU | exact Lu | exact CK | exact HL | exact G9 | exact Iq | exact K7 | exact Mq | exact Ha | exact FN | exact F5 | exact Lf | exact Gc | exact HN | exact Hz | exact Ik | exact KQ | exact Kx | exact L9 | exact H4 | exact LK | exact Hg)) | ((with_reducible apply wm); (first | exact rfl | assumption); (first | exact rfl | assumption)) | ((with_reducible apply wA); (first | exact rfl | assumption); exact rfl) | ((with_reducible apply pR); (first | exact rfl | assumption); exact ⟨_, by (with_reducible first | exact Tryz.underlying139 | exact Tryz.underlying189 | exact Tryz.underlying218 | exact Tryz.underlying220 | exact Tryz.underlying26 | exact Tryz.underlying27 | exact Tryz.underlying34 | exact Tryz.underlying35 | exact Tryz.underlying36 | exact Tryz.underlying46 | exact Tryz.underlying48 | exact Tryz.underlying49 | exact Tryz.underlying62 | exact Tryz.underlying80 | exact Tryz.underlying83)⟩) | ((with_reducible apply pe); (first | exact rfl | assumption); (first | exact rfl | assumption); (first | exact cx _ (by omega) | exact fh _ (by omega) | exact fi _ (by omega) | exact gU _ (by omega) | exact fQ _ (by omega))) | ((with_reducible apply sG); (first | exact rfl | assumption); (first | exact rfl | assumption); (first | exact cx _ (by omega) | exact fh _ (by omega) | exact fi _ (by omega) | exact gU _ (by omega) | exact fQ _ (by omega))) | ((with_reducible apply qd); (first | exact rfl | assumption); (first | exact rfl | assumption)) | ((with_reducible apply My); (first | exact rfl | assumption); (first | exact rfl | assumption)) | ((with_reducible apply x9); (first | exact rfl | assumption)) | ((with_reducible apply Ts); (first | exact rfl | assumption); (first | exact rfl | assumption)) | ((with_reducible apply uc); (first | exact rfl | assumption); (first | exact rfl | assumption)) | ((with_reducible apply y3); (first | exact rfl | assumption); (first | exact rfl | assumption)) | ((with_reducible apply kJ); (first | exact rfl | assumption); (with_reducible first | exact Tryz.underlying3 | exact Tryz.underlying94 | exact Tryz.underlying99); exact ⟨_, by (with_reducible first | exact Tryz.underlying141 | exact Tryz.underlying25 | exact Tryz.underlying3 | exact Tryz.underlying5)⟩; (first | exact cx _ (by omega) | exact fh _ (by omega) | exact fi _ (by omega) | exact gU _ (by omega) | exact fQ _ (by omega))) | ((with_reducible apply PB); (first | exact rfl | assumption); (with_reducible first | exact Tryz.underlying9))) | ((with_reducible apply jq); ((with_reducible apply kX); (first | exact rfl | assumption); (with_reducible first | exact ni | exact ki | exact qn | exact lV | exact t9 | exact oY | exact rW | exact qh | exact oX | exact qb | exact qq | exact pu | exact qV | exact pG | exact pS | exact tq | exact qG | exact uh | exact wH | exact wq | exact rU | exact xh | exact tj | exact t6 | exact t5 | exact yj | exact qK | exact xq | exact wg | exact zE | exact uv | exact ux | exact uz | exact xt | exact Bh | exact zJ); assumption; (first | exact V0 rfl | exact Vs rfl | exact WE rfl | exact Wv rfl | exact Wl rfl | exact VE rfl | exact Wu rfl | exact VB rfl); exact rfl; exact rfl; (first | exact .inl rfl | exact .inr rfl))) | ((with_reducible apply jh); first | ((with_reducible apply lR); (with_reducible first | exact ni | exact ki | exact qn | exact lV | exact t9 | exact oY | exact rW | exact qh | exact oX | exact qb | exact qq | exact pu | exact qV | exact pG | exact pS | exact tq | exact qG | exact uh | exact wH | exact wq | exact rU | exact xh | exact tj | exact t6 | exact t5 | exact yj | exact qK | exact xq | exact wg | exact zE | exact uv | exact ux | exact uz | exact xt | exact Bh | exact zJ); assumption) | ((with_reducible apply lG); (first | exact rfl | assumption); (first | exact rfl | assumption); (with_reducible first | exact ni | exact ki | exact qn | exact lV | exact t9 | exact oY | exact rW | exact qh | exact oX | exact qb | exact qq | exact pu | exact qV | exact pG | exact pS | exact tq | exact qG | exact uh | exact wH | exact wq | exact rU | exact xh | exact tj | exact t6 | exact t5 | exact yj | exact qK | exact xq | exact wg | exact zE | exact uv | exact ux | exact uz | exact xt | exact Bh | exact zJ); assumption; (first | exact V0 rfl | exact Vs rfl | exact WE rfl | exact Wv rfl | exact Wl rfl | exact VE rfl | exact Wu rfl | exact VB rfl); exact rfl; exact rfl; exact eE rfl; exact rfl)) | ((with_reducible apply jl); exact rfl; first | ((with_reducible apply ks); (first | assumption | exact rfl)) | ((with_reducible apply ou); (first | assumption | exact rfl)) | ((with_reducible apply lI); (first | exact rfl | assumption); (with_reducible first | exact sx | exact tv | exact qk | exact BZ | exact u9 | exact ry | exact vV | exact sv | exact zx | exact wS | exact xE | exact uo | exact y7 | exact up | exact H9 | exact Ig | exact CC | exact BR | exact G8 | exact Gu | exact HJ | exact CX | exact Fb | exact HT | exact BU | exact Lu | exact CK | exact HL | exact G9 | exact Iq | exact K7 | exact Mq | exact Ha | exact FN | exact F5 | exact Lf | exact Gc | exact HN | exact Hz | exact Ik | exact KQ | exact Kx | exact L9 | exact H4 | exact LK | exact Hg)) | ((with_reducible apply wm); (first | exact rfl | assumption); (first | exact rfl | assumption)) | ((with_reducible apply wA); (first | exact rfl | assumption); exact rfl) | ((with_reducible apply pR); (first | exact rfl | assumption); exact ⟨_, by (with_reducible first | exact Tryz.underlying139 | exact Tryz.underlying189 | exact Tryz.underlying218 | exact Tryz.underlying220 | exact Tryz.underlying26 | exact Tryz.underlying27 | exact Tryz.underlying34 | exact Tryz.underlying35 | exact Tryz.underlying36 | exact Tryz.underlying46 | exact Tryz.underlying48 | exact Tryz.underlying49 | exact Tryz.underlying62 | exact Tryz.underlying80 | exact Tryz.underlying83)⟩) | ((with_reducible apply pe); (first | exact rfl | assumption); (first | exact rfl | assumption); (first | exact cx _ (by omega) | exact fh _ (by omega) | exact fi _ (by omega) | exact gU _ (by omega) | exact fQ _ (by omega))) | ((with_reducible apply sG); (first | exact rfl | assumption); (first | exact rfl | assumption); (first | exact cx _ (by omega) | exact fh _ (by omega) | exact fi _ (by omega) | exact gU _ (by omega) | exact fQ _ (by omega))) | ((with_reducible apply qd); (first | exact rfl | assumption); (first | exact rfl | assumption)) | ((with_reducible apply My); (first | exact rfl | assumption); (first | exact rfl | assumption)) | ((with_reducible apply x9); (first | exact rfl | assumption)) | ((with_reducible apply Ts); (first | exact rfl | assumption); (first | exact rfl | assumption)) | ((with_reducible apply uc); (first | exact rfl | assumption); (first | exact rfl | assumption)) | ((with_reducible apply y3); (first | exact rfl | assumption); (first | exact rfl | assumption)) | ((with_reducible apply kJ); (first | exact rfl | assumption); (with_reducible first | exact Tryz.underlying3 | exact Tryz.underlying94 | exact Tryz.underlying99); exact ⟨_, by (with_reducible first | exact Tryz.underlying141 | exact Tryz.underlying25 | exact Tryz.underlying3 | exact Tryz.underlying5)⟩; (first | exact cx _ (by omega) | exact fh _ (by omega) | exact fi _ (by omega) | exact gU _ (by omega) | exact fQ _ (by omega))) | ((with_reducible apply PB); (first | exact rfl | assumption); (with_reducible first | exact Tryz.underlying9))) | ((with_reducible apply jm); exact rfl; ((with_reducible apply kX); (first | exact rfl | assumption); (with_reducible first | exact ni | exact ki | exact qn | exact lV | exact t9 | exact oY | exact rW | exact qh | exact oX | exact qb | exact qq | exact pu | exact qV | exact pG | exact pS | exact tq | exact qG | exact uh | exact wH | exact wq | exact rU | exact xh | exact tj | exact t6 | exact t5 | exact yj | exact qK | exact xq | exact wg | exact zE | exact uv | exact ux | exact uz | exact xt | exact Bh | exact zJ); assumption; (first | exact V0 rfl | exact Vs rfl | exact WE rfl | exact Wv rfl | exact Wl rfl | exact VE rfl | exact Wu rfl | exact VB rfl); exact rfl; exact rfl; (first | exact .inl rfl | exact .inr rfl))) | ((with_reducible apply jn); exact rfl; first | ((with_reducible apply lR); (with_reducible first | exact ni | exact ki | exact qn | exact lV | exact t9 | exact oY | exact rW | exact qh | exact oX | exact qb | exact qq | exact pu | exact qV | exact pG | exact pS | exact tq | exact qG | exact uh | exact wH | exact wq | exact rU | exact xh | exact tj | exact t6 | exact t5 | exact yj | exact qK | exact xq | exact wg | exact zE | exact uv | exact ux | exact uz | exact xt | exact Bh | exact zJ); assumption) | ((with_reducible apply lG); (first | exact rfl | assumption); (first | exact rfl | assumption); (with_reducible first | exact ni | exact ki | exact qn | exact lV | exact t9 | exact oY | exact rW | exact qh | exact oX | exact qb | exact qq | exact pu | exact qV | exact pG | exact pS | exact tq | exact qG | exact uh | exact wH | exact wq | exact rU | exact xh | exact tj | exact t6 | exact t5 | exact yj | exact qK | exact xq | exact wg | exact zE | exact uv | exact ux | exact uz | exact xt | exact Bh | exact zJ); assumption; (first | exact V0 rfl | exact Vs rfl | exact WE rfl | exact Wv rfl | exact Wl rfl | exact VE rfl | exact Wu rfl | exact VB rfl); exact rfl; exact rfl; exact eE rfl; exact rfl)) | ((with_reducible apply jx); exact rfl; first | ((with_reducible apply lR); (with_reducible first | exact ni | exact ki | exact qn | exact lV | exact t9 | exact oY | exact rW | exact qh | exact oX | exact qb | exact qq | exact pu | exact qV | exact pG | exact pS | exact tq | exact qG | exact uh | exact wH | exact wq | exact rU | exact xh | exact tj | exact t6 | exact t5 | exact yj | exact qK | exact xq | exact wg | exact zE | exact uv | exact ux | exact uz | exact xt | exact Bh | exact zJ); assumption) | ((with_reducible apply lG); (first | exact rfl | assumption); (first | exact rfl | assumption); (with_reducible first | exact ni | exact ki | exact qn | exact lV | exact t9 | exact oY | exact rW | exact qh | exact oX | exact qb | exact qq | exact pu | exact qV | exact pG | exact pS | exact tq | exact qG | exact uh | exact wH | exact wq | exact rU | exact xh | exact tj | exact t6 | exact t5 | exact yj | exact qK | exact xq | exact wg | exact zE | exact uv | exact ux | exact uz | exact xt | exact Bh | exact zJ); assumption; (first | exact V0 rfl | exact Vs rfl | exact WE rfl | exact Wv rfl | exact Wl rfl | exact VE rfl | exact Wu rfl | exact VB rfl); exact rfl; exact rfl; exact eE rfl; exact rfl)) | ((with_reducible apply k9); exact rfl; exact ak (by omega)) | ((with_reducible apply lx); exact rfl; exact ae (by omega))); exact h.1) : G := e ⟨h⟩
theorem J1 {G' G : Prop} (h : G') (e : Jh G' → G := by intro h; (iterate 1 refine J0 ?_); exact h.1) : G := e ⟨h⟩
theorem J2 {G' G : Prop} (h : G') (e : Jh G' → G := by intro h; (iterate 2 refine J0 ?_); exact h.1) : G := e ⟨h⟩
theorem J3 {G' G : Prop} (h : G') (e : Jh G' → G := by intro h; (iterate 3 refine J0 ?_); exact h.1) : G := e ⟨h⟩
theorem J4 {G' G : Prop} (h : G') (e : Jh G' → G := by intro h; (iterate 4 refine J0 ?_); exact h.1) : G := e ⟨h⟩
theorem J5 {G' G : Prop} (h : G') (e : Jh G' → G := by intro h; (iterate 5 refine J0 ?_); exact h.1) : G := e ⟨h⟩
theorem J6 {G' G : Prop} (h : G') (e : Jh G' → G := by intro h; (iterate 6 refine J0 ?_); exact h.1) : G := e ⟨h⟩
theorem J7 {G' G : Prop} (h : G') (e : Jh G' → G := by intro h; (iterate 7 refine J0 ?_); exact h.1) : G := e ⟨h⟩
theorem J8 {G' G : Prop} (h : G') (e : Jh G' → G := by intro h; (iterate 8 refine J0 ?_); exact h.1) : G := e ⟨h⟩
theorem J9 {G' G : Prop} (h : G') (e : Jh G' → G := by intro h; (iterate 9 refine J0 ?_); exact h.1) : G := e ⟨h⟩
theorem Xy {G' G : Prop} (h : G') (e : Jh G' → G := by intro h; (iterate 10 refine J0 ?_); exact h.1) : G := e ⟨h⟩
theorem Xg {G' G : Prop} (h : G') (e : Jh G' → G := by intro h; (iterate 11 refine J0 ?_); exact h.1) : G := e ⟨h⟩
theorem V1 {G' G : Prop} (h : G') (e : Jh G' → G := by intro h; (iterate 1 refine J0 ?_); refine ja ?_; exact h.1) : G := e ⟨h⟩
theorem V2 {G' G : Prop} (h : G') (e : Jh G' → G := by intro h; (iterate 2 refine J0 ?_); refine ja ?_; exact h.1) : G := e ⟨h⟩
theorem V3 {G' G : Prop} (h : G') (e : Jh G' → G := by intro h; (iterate 3 refine J0 ?_); refine ja ?_; exact h.1) : G := e ⟨h⟩
theorem V4 {G' G : Prop} (h : G') (e : Jh G' → G := by intro h; (iterate 4 refine J0 ?_); refine ja ?_; exact h.1) : G := e ⟨h⟩
theorem V5 {G' G : Prop} (h : G') (e : Jh G' → G := by intro h; (iterate 5 refine J0 ?_); refine ja ?_; exact h.1) : G := e ⟨h⟩
theorem V6 {G' G : Prop} (h : G') (e : Jh G' → G := by intro h; (iterate 6 refine J0 ?_); refine ja ?_; exact h.1) : G := e ⟨h⟩
theorem V7 {G' G : Prop} (h : G') (e : Jh G' → G := by intro h; (iterate 7 refine J0 ?_); refine ja ?_; exact h.1) : G := e ⟨h⟩
theorem V9 {G' G : Prop} (h : G') (e : Jh G' → G := by intro h; (iterate 9 refine J0 ?_); refine ja ?_; exact h.1) : G := e ⟨h⟩
theorem XB {G' G : Prop} (h : G') (e : Jh G' → G := by intro h; (iterate 10 refine J0 ?_); refine ja ?_; exact h.1) : G := e ⟨h⟩
theorem Y1 {G' G : Prop} (h : G') (e : Jh G' → G := by intro h; (iterate 1 refine J0 ?_); refine jr ?_; exact h.1) : G := e ⟨h⟩
theorem Y4 {G' G : Prop} (h : G') (e : Jh G' → G := by intro h; (iterate 4 refine J0 ?_); refine jr ?_; exact h.1) : G := e ⟨h⟩
theorem Y5 {G' G : Prop} (h : G') (e : Jh G' → G := by intro h; (iterate 5 refine J0 ?_); refine jr ?_; exact h.1) : G := e ⟨h⟩
theorem drop_one (s:ByteArray) (k:Nat) (hk:k<s.size):(s.extract k s.size).extract 1 (s.extract k s.size).size=s.extract (k+1) s.size:=by
 have hsz:(s.extract k s.size).size=s.size-k:=by simp
 rw[hsz];apply ByteArray.ext;simp only[ByteArray.data_extract,Array.extract_extract];congr 1;omega
theorem HX (s:ByteArray) (k:Nat):oD (s.extract k s.size)=(oD s).drop k:=by
 unfold oD;rw[ByteArray.data_extract,Array.toList_extract,List.extract,List.map_take,List.map_drop,aU];have h:(s.data.toList.map UInt8.toNat).length=s.size:=pM s;rw[eN,h];omega
theorem Dw (s:ByteArray) (i:Nat) (h:i<s.size):(oD s)[i]'(by rw[pM];exact h)=(s[i]).toNat:=by
 unfold oD;rw[en];rfl
theorem xG (s:ByteArray) (k:Nat) (hk:k<=s.size) (hz:∀i (_:i<k) (h:i<s.size),s[i]=0) (hn:k=s.size\/∃h:k<s.size,s[k]≠0):s.extract k s.size=kG (val s):=by
 have hl:(oD s).length=s.size:=pM s;have h1:=HX s k;have h2:((oD s).drop k).reverse=t7 256 (val s):=by
  have h3:(oD s).reverse=((oD s).drop k).reverse++List.replicate k 0:=by
   have h5:(oD s).take k=List.replicate k 0:=by
    apply fa
    ·rw[cG,eI,hl];omega
    ·intro i g1 g2;rw[iu,List.getElem_replicate];have hi:i<k:=by rw[eI]at g2;exact g2
     rw[Dw s i oO,hz i hi oO];rfl
   conv=>lhs;rw[<-da k (oD s),ji,h5,List.reverse_replicate]
  have h4:val s=lB 256 ((oD s).drop k).reverse:=by
   unfold val;rw[h3,sy,zZ,eP,d9]
  rw[h4,xg dD _ (λd hd=>Af s d (List.mem_of_mem_drop (dV.1 hd)))];unfold trimmed;rw[List.getLast?_reverse,List.head?_drop];rcases hn with rfl|⟨h,hne⟩
  ·rw[dg oO];simp
  ·rw[aG oO,Dw s k h];intro h0;apply hne;have:(s[k]).toNat=0:=bN h0;exact jX.1 (by rw[this];rfl)
 rw[<-IJ (s.extract k s.size),h1,kG,<-h2,gO]
theorem Bs (s:ByteArray) (w:World) (hs:s.size<=9223372036854775807):
  lW Tryz.prog 149 #[.string s,.int .u8 0] w λv w'=>v= .string (kG (val s))/\w'=w:=by
 refine enter Tryz.func149 rfl Tryz.ntmps149 rfl ?_;refine V1 ?_;refine kx (σ:=Nat) (λk ρ w'=>k<=s.size/\(∀i (_:i<k) (h:i<s.size),s[i]=0)/\ρ 0= .string (s.extract k s.size)/\ρ 1= .int .u8 0/\w'=w) (λk=>s.size-k) 0
  ⟨oO,λi h=>oO,bI Value.string (by rw[ByteArray.extract_zero_size]),rfl,rfl⟩ ?_
 rintro k ρ w' ⟨hk,hz,h0,h1,rfl⟩;have hsz:(s.extract k s.size).size=s.size-k:=by simp
 by_cases hlt:k<s.size
 ·have hpos:0<(s.extract k s.size).size:=oO;have hget:(s.extract k s.size)[0]=s[k]:=by rw[ByteArray.getElem_extract];rfl
  refine J4 ?_;refine kf (j8 8 kR rfl dT) (ks h0 (kf (j8 8 kR rfl dT) (wU (i:=0) rfl rfl oO oO Tryz.underlying9 (kf (j8 8 kR rfl dT) (ks h1 (kf (j8 8 kR rfl dT) (qd rfl rfl (jp (kC (vb rfl dT) rfl ?_)))))))));refine ja ?_;refine W2 _ rfl (λh=> ?_) (λh=> ?_)
  ·refine uE (uC (xB ?_));refine J1 ?_;refine jp (FT (lo:=1) rfl rfl rfl oO Tryz.underlying9 ?_);refine V1 ?_;refine⟨k+1,_,rfl,⟨oO,λi hi hi'=> ?_,bI Value.string (drop_one s k hlt),h1,rfl⟩,oO⟩;rcases bH i k with h2|h2
   ·exact hz i h2 hi'
   ·obtain rfl:i=k:=oO;rw[<-hget];exact jX.1 (by have h:=h;simp at h;exact h)
  ·refine J2 ?_;refine jt ?_;refine kD rfl rfl ⟨bI Value.string (xG s k hk hz (.inr ⟨hlt,λh2=>h ?_⟩)),rfl⟩;rw[hget,h2];rfl
 ·refine J4 ?_;refine kN (kb 8 kR rfl dF) (kN (kb 8 kR rfl dF) (kN (kb 8 kR rfl dF) (kN (kb 8 kR rfl dF) (jp (kC (vb rfl dF) rfl ?_)))));refine ja ?_;refine lx rfl (rfl) ?_;refine J2 ?_;refine jt ?_;exact kD rfl rfl ⟨bI Value.string (xG s k hk hz (.inl oO)),rfl⟩
theorem G1 (s:ByteArray) (w:World) (hs:s.size<=9223372036854775807):
  lW Tryz.prog 110 #[.string s,.string ⟨#[0]⟩] w λv w'=>v= .string (kG (val s))/\w'=w:=by
 refine enter Tryz.func110 rfl Tryz.ntmps110 rfl ?_;refine V1 ?_;by_cases he:s=⟨#[]⟩
 ·refine J1 ?_;refine jp (tr rfl rfl ?_);refine J1 ?_;refine kN (kb 9 kR rfl (ak he)) (kN (kb 9 kR rfl (ak he)) (jp (kC (vb rfl (ak he)) rfl ?_)));refine ja ?_;refine k9 rfl (rfl) ?_;refine J2 ?_;refine jt ?_;refine kD rfl rfl ?_;refine⟨bI Value.string ?_,rfl⟩;rw[he];exact D6.symm
 ·have h0:¬((⟨#[0]⟩:ByteArray)=⟨#[]⟩):=by intro h;cases h
  refine J1 ?_;refine jp (tr rfl rfl ?_);refine J1 ?_;refine kf (j8 9 kR rfl (ae he)) (ks rfl (kf (j8 9 kR rfl (ae he)) (tr rfl rfl (jp (kC (vb rfl (ae he)) rfl ?_)))));refine ja ?_;refine lx rfl (ae h0) ?_;refine J4 ?_;refine kf (j8 17 kR rfl rfl) (ks rfl (kf (j8 17 kR rfl rfl) (wU (i:=0) rfl rfl rfl dD Tryz.underlying9 (kf (j8 17 kR rfl rfl) (wm rfl rfl (jp (kC (vb rfl rfl) rfl ?_)))))));refine ja ?_;refine k9 rfl (by decide+kernel) ?_;refine J2 ?_;refine jp (wU (i:=0) rfl rfl rfl dD Tryz.underlying9 (jh (j7 Tryz.call149 rfl (Bs s w hs) ?_)));rintro v w' ⟨rfl,rfl⟩;refine J1 ?_;refine jt ?_;refine kD rfl rfl ?_;exact⟨rfl,rfl⟩
theorem nk (s:ByteArray) (w:World) (hs:s.size<=9223372036854775807):
  lW Tryz.prog 66 #[.string s] w λv w'=>v= .string (kG (val s))/\w'=w:=by
 refine enter Tryz.func66 rfl Tryz.ntmps66 rfl ?_;refine J2 ?_;refine jh (j7 Tryz.call110 rfl (G1 s w hs) ?_);rintro v w' ⟨rfl,rfl⟩;refine J1 ?_;refine jt ?_;refine kD rfl rfl ?_;exact⟨rfl,rfl⟩
theorem pP {m:Int} (r:Int) (h:m=r∧-9223372036854775808<=r/\r<=9223372036854775807):IntKind.i64.wrap m=r:=by
 obtain⟨rfl,h1⟩:=h;exact cx _ h1
theorem kZ {m:Int} (r:Int) (h:m=r/\0<=r/\r<=18446744073709551615):IntKind.u64.wrap m=r:=by
 obtain⟨rfl,h1⟩:=h;exact fh _ h1
theorem pC {m:Int} (r:Int) (h:m=r/\0<=r/\r<=4294967295):IntKind.u32.wrap m=r:=by
 obtain⟨rfl,h1⟩:=h;exact fi _ h1
theorem ss (n:Nat):IntKind.u32.wrap (n:Int)=((n%4294967296:Nat):Int):=by rw[tJ];omega
theorem uA (n:Nat):IntKind.u8.wrap (n:Int)=((n%256:Nat):Int):=by rw[Oo];omega
theorem uW {k:IntKind} (m c:Nat) (r:Int) (hc:c<=k.bits) (hr:k.wrap ((m*2^c:Nat):Int)=r):k.wrap ((m:Int)*2^(min ((c:Int)).toNat k.bits))=r:=by
 rw[ix,gS hc,<-hr];push_cast;rfl
theorem qp {k:IntKind} (m c:Nat) (hc:c<=k.bits):(m:Int).fdiv (2^(min ((c:Int)).toNat k.bits))=((m/2^c:Nat):Int):=by
 rw[Th (k:=k) (m:Int) c hc];push_cast;rfl
theorem St.Xz {w0 w:World} {H:List kV} {b k:Nat} {t:TypeId} {kk:IntKind} {L:List Nat} (h:St w0 w H) (hk:H[k]?=some (b,t,Kr kk L)):At w ⟨b,0,none⟩ (Kr kk L):=by
 have:=h.at hk 0 (Kr kk L).length;rwa[List.drop_zero,bK]at this
theorem EX (L:List Nat):(zq L).size=L.length:=by
 show((L.map UInt8.ofNat).toArray).size=_;simp
def kS (b v j:Nat):Nat:=v/b^j%b
theorem qO {b:Nat} (hb:0<b) (v j:Nat):kS b v j<b:=bG _ hb
def pad (b v n:Nat):List Nat:=(List.range n).map (kS b v)
@[simp] theorem pad_length (b v n:Nat):(pad b v n).length=n:=by simp[pad]
theorem nY (b v:Nat) {n j:Nat} (h:j<n):(pad b v n).getD j 0=kS b v j:=by simp[pad,List.getD,h]
theorem ti {b:Nat} (hb:0<b) (v n:Nat):∀d∈pad b v n,d<b:=by
 intro d hd;obtain⟨j,_,rfl⟩:=bT.1 hd;exact qO hb v j
theorem xm (b v n:Nat):pad b v (n+1)=(v%b)::pad b (v/b) n:=by
 unfold pad;rw[List.range_succ_eq_map,df,iP];congr 1
 ·simp[kS]
 ·apply fS;intro j _;simp[kS,cQ,bA,bF]
theorem Df {b:Nat} (n:Nat):∀v,lB b (pad b v n)=v%b^n:=by
 induction n with
 |zero=>intro v;simp[pad,lB,dX]
 |succ n ih=>
  intro v;rw[xm];show v%b+b*lB b (pad b (v/b) n)=_;rw[ih,bA,bF (b^n) b,Nat.mod_mul]
theorem mR {b v n:Nat} (h:v<b^n):lB b (pad b v n)=v:=by rw[Df,aZ h]
theorem vu {b:Nat} (hb:0<b):∀(L:List Nat) (_:∀d∈L,d<b) (j:Nat),kS b (lB b L) j=L.getD j 0
 | [],_,j=>by simp[kS,lB,Nat.zero_div,Nat.zero_mod]
 |d::L,h,0=>by
  show(d+b*lB b L)/b^0%b=d;rw[cO,fu,eD,aZ (h d (by simp))]
 |d::L,h,j+1=>by
  have ih:=vu hb L (λd hd=>h d (by simp[hd])) j;show(d+b*lB b L)/b^(j+1)%b=_;rw[bA,bF (b^j) b,<-cQ,cU _ _ hb,bS (h d (by simp)),bZ];simpa[kS]using ih
theorem Nm {b:Nat} (hb:2<=b) (v j:Nat):(t7 b v).getD j 0=kS b v j:=by
 rw[<-vu oO (t7 b v) (zW hb v),sA hb]
theorem OB {b v:Nat} {L:List Nat} (h:∀j,j<L.length->L.getD j 0=kS b v j):L=pad b v L.length:=by
 apply fa
 ·simp
 ·intro j h1 h2;have:=h j h1;rw[ai,aG h1]at this;simp only[pad,en,jA];exact this
theorem me (v j:Nat):(kL v).getD j 0=kS kd v j:=Nm dD v j
theorem xR (v:Nat):∀d∈kL v,d<kd:=zW dD v
theorem qS (v:Nat):lB kd (kL v)=v:=sA dD v
theorem Hs {v n:Nat} (h:v<kd^n):kL (lB kd (pad kd v n))=kL v:=by rw[mR h]
theorem Be (s:ByteArray) (i:Nat) (h:i<s.size):(s[s.size-1-i]).toNat=kS 256 (val s) i:=by
 unfold val;rw[vu dD _ (λd hd=>Af s d (dV.1 hd))];have hl:=pM s;rw[ai,gB (by rw[hl];exact h),hl];rw[aG (by rw[hl];omega)];unfold oD;rw[en];rfl
theorem mod_pow_succ (b v i:Nat):v%b^(i+1)=v%b^i+b^i*kS b v i:=by
 rw[Nat.mod_pow_succ];rfl
theorem uu (a d r:Nat) (h:a<2^r):a|||d*2^r=a+d*2^r:=by
 have:=Nat.two_pow_add_eq_or_of_lt h d;rw[gh,bF,<-this,dK]
theorem yp {b:Nat} (hb:0<b) (v x:Nat) {j k:Nat} (h:j<k):kS b (v+b^k*x) j=kS b v j:=by
 unfold kS;obtain⟨m,rfl⟩:∃m,k=j+(m+1):=⟨k-j-1,oO⟩;rw[dy,bf,cU _ _ (cy hb),bA,bF (b^m) b,bf,eD]
theorem Jc {b:Nat} (hb:0<b) (v x k:Nat):kS b (v+b^k*x) k=(v/b^k+x)%b:=by
 unfold kS;rw[cU _ _ (cy hb)]
theorem ub {b v j:Nat} (h:v<b^j):kS b v j=0:=by
 unfold kS;rw[bS h,Nat.zero_mod]
theorem rC {b v k:Nat} (hb:0<b) (h:v<b^(k+1)):kS b v k=v/b^k:=by
 unfold kS;exact aZ ((iV (cy hb)).2 (by rwa[bA,bF]at h))
theorem zg {b v n k x:Nat} (hb:2<=b) (hv:v<b^(k+1)) (hx:v+b^k*x<b^(k+1)):(pad b v n).set k (kS b v k+x)=pad b (v+b^k*x) n:=by
 have hb':0<b:=oO;rw[OB (b:=b) (v:=v+b^k*x) (L:=(pad b v n).set k (kS b v k+x)) ?_]
 ·simp
 ·intro j hj;have hj':j<n:=by simpa using hj
  rw[ai,fv];split
  ·rename_i h;subst h;rw[aj (by simpa using hj'),eZ,rC hb' hv,rC hb' hx,cU _ _ (cy hb')]
  ·rename_i h;rw[<-ai,nY b v hj'];rcases bH j k with h1|h1
   ·rw[yp hb' v x h1]
   ·have h2:b^(k+1)<=b^j:=bM hb' oO;rw[ub oO,ub oO]
theorem FR (i:Nat):256^i=kd^(i/4)*2^(8*(i%4)):=by
 have h1:(256:Nat)=2^8:=rfl;have h2:kd=2^32:=rfl;rw[h1,h2,<-fC,<-fC,<-dy];congr 1;omega
theorem Im (v i n:Nat):(pad kd (v%256^i) n).set (i/4) (kS kd (v%256^i) (i/4)|||kS 256 v i*2^(8*(i%4)))=pad kd (v%256^(i+1)) n:=by
 have h0:v%256^i<kd^(i/4)*2^(8*(i%4)):=by rw[<-FR];exact bG _ (cy dD)
 have h1:256^(i+1)<=kd^(i/4+1):=by
  rw[show(256:Nat)=2^8 from rfl,show kd=2^32 from rfl,<-fC,<-fC];exact bM dD oO
 have h2:v%256^(i+1)<256^(i+1):=bG _ (cy dD);have h5:v%256^i<=v%256^(i+1):=by rw[mod_pow_succ];omega
 have h3:v%256^(i+1)=v%256^i+kd^(i/4)*(kS 256 v i*2^(8*(i%4))):=by
  rw[mod_pow_succ];conv=>lhs;rw[show(256:Nat)^i*kS 256 v i=kd^(i/4)*2^(8*(i%4))*kS 256 v i by rw[<-FR]]
  rw[bf,bF (2^(8*(i%4)))]
 have h4:kS kd (v%256^i) (i/4)<2^(8*(i%4)):=by
  rw[rC dD oO];exact dc h0
 rw[uu _ _ _ h4,h3];exact zg dD oO oO
theorem oV (b n:Nat):pad b 0 n=List.replicate n 0:=by
 apply fa
 ·simp
 ·intro j h1 h2;simp[pad,kS]
theorem si {b:Nat} (hb:0<b) (v i:Nat):v%b^i<b^i:=bG _ (cy hb)
theorem B5 {b:Nat} (hb:2<=b) (v i n:Nat):(pad b (v%b^i) n).set i (kS b v i)=pad b (v%b^(i+1)) n:=by
 have h1:=si (b:=b) oO v i;have h2:=si (b:=b) oO v (i+1);have h3:b^(i+1)=b^i*b:=bA ..;have h4:b^i<=b^(i+1):=bM oO oO;have h:=zg (b:=b) (v:=v%b^i) (n:=n) (k:=i) (x:=kS b v i) hb oO (by rw[<-mod_pow_succ];exact h2);rw[ub h1,bZ,<-mod_pow_succ]at h;exact h
theorem HB {α:Type} (L:List α) (i:Nat) (x:α) (h:i<L.length):L.reverse.set (L.length-1-i) x=(L.set i x).reverse:=by
 apply jP;intro j;rcases bH j L.length with hj|hj
 ·rw[gB (by simpa using hj),fv,fv,gB hj,cj];by_cases h1:L.length-1-i=j
  ·have h2:i=L.length-1-j:=oO;rw[aj h1,aj h2,aj (by simp;omega),aj h]
  ·have h2:¬i=L.length-1-j:=oO;rw[ah h1,ah h2]
 ·rw[dg (by simp;omega),dg (by simp;omega)]
theorem Gv (v i:Nat):kS kd v (i/4)/2^(8*(i%4))%256=kS 256 v i:=by
 unfold kS;rw[FR,<-cQ];generalize v/kd^(i/4)=x;have h4:i%4=0\/i%4=1\/i%4=2\/i%4=3:=oO;rcases h4 with h|h|h|h<;>rw[h]<;>simp only[kd]<;>omega
theorem II (v n:Nat):val (zq (pad 256 v n).reverse)=v%256^n:=by
 rw[Qk _ (λd hd=>ti dD _ _ d (dV.1 hd)),gO,Df]
theorem xM (v:Value) (L:List Nat) (w:World) (hv:Sl (uk .u32) 1 w v L) (hL:∀d∈L,d<kd):
  lW Tryz.prog 112 #[v] w λr w'=>Sl (uk .u32) 1 w r (kL (lB kd L))/\w'=w:=by
 have hmax:=hv.maxLen;refine enter Tryz.func112 rfl Tryz.ntmps112 rfl ?_;refine J2 ?_;refine jp (kj rfl hv ⟨_,Tryz.underlying139⟩ ?_);refine V1 ?_;refine kx (σ:=Nat) (λn ρ w'=>n<=L.length/\(∀i,n<=i->i<L.length->L.getD i 0=0)/\ρ 0=v/\ρ 3=iB n/\w'=w) (λn=>n) L.length
  ⟨aB _,λi h1 h2=>oO,rfl,rfl,rfl⟩ ?_
 rintro n ρ w' ⟨hn,hz,h0,h3,rfl⟩;have hdone:(n=0\/L.getD (n-1) 0≠0)->L.take n=kL (lB kd L):=λh=>vZ (b:=kd) dD L n hL hn hz h;by_cases hpos:0<n
 ·by_cases hl:L.getD (n-1) 0=0
  ·refine J3 ?_;refine kf (j8 8 kR rfl dT) (ks h0 (kf (j8 8 kR rfl dT) (ks h3 (kf (j8 8 kR rfl dT) (sG rfl rfl (cx _ oO) (kf (j8 8 kR rfl dT) (kp (i:=n-1) rfl rfl hv oO dO lr (lD (j8 8 kR rfl dT) (ky (i:=n-1) 0 rfl kK hv dO rfl rfl (.inr rfl) (kf (j8 8 kR rfl dT) (qd rfl rfl (jp (kC (vb rfl dT) rfl ?_)))))))))))));refine V4 ?_;refine⟨n-1,_,rfl,⟨oO,λi h1 h2=> ?_,h0,vi rfl oO,rfl⟩,oO⟩;rcases bH i n with h4|h4
   ·rw[show i=n-1 by omega];exact hl
   ·exact hz i h4 h2
  ·refine J3 ?_;refine kf (j8 8 kR rfl dT) (ks h0 (kf (j8 8 kR rfl dT) (ks h3 (kf (j8 8 kR rfl dT) (sG rfl rfl (cx _ oO) (kf (j8 8 kR rfl dT) (kp (i:=n-1) rfl rfl hv oO dO lr (lD (j8 8 kR rfl dT) (ky (i:=n-1) 0 rfl kK hv dO rfl rfl (.inr rfl) (kf (j8 8 kR rfl dT) (qd rfl rfl (jp (kC (vb rfl dT) rfl ?_)))))))))))));refine J3 ?_;refine jp (zI (hi:=n) rfl rfl hv rfl hn lr ?_);refine J1 ?_;refine jt ?_;refine kD rfl rfl ?_;refine⟨?_,rfl⟩;rw[<-hdone (.inr hl)];exact hv.sub (Ao _) dD (ax n) hn
 ·refine J3 ?_;refine kN (kb 8 kR rfl dF) (kN (kb 8 kR rfl dF) (kN (kb 8 kR rfl dF) (kN (kb 8 kR rfl dF) (kN (kb 8 kR rfl dF) (kN (kb 8 kR rfl dF) (jp (kC (vb rfl dF) rfl ?_)))))));refine ja ?_;refine lx rfl (rfl) ?_;refine J2 ?_;refine jp (zI (hi:=n) rfl rfl hv rfl hn lr ?_);refine J1 ?_;refine jt ?_;refine kD rfl rfl ?_;refine⟨?_,rfl⟩;rw[<-hdone (.inl oO)];exact hv.sub (Ao _) dD (ax n) hn
theorem qB (s:ByteArray) (w:World) (hs:s.size<=70368744177664):
  lW Tryz.prog 69 #[.string s] w λr w'=>Sl (uk .u32) 1 w' r (kL (val s))/\Below w.heap.size w w':=by
 have hS:=St.init w;refine enter Tryz.func69 rfl Tryz.ntmps69 rfl ?_;refine J5 ?_;refine jp (sF rfl rfl oO (gk _ _ oO) (jh (pV (n:=(s.size+3)/4) rfl rfl lr oO oO oO oO hS ?_)));intro b1 wz2 hS hBz2;refine V4 ?_;obtain⟨n,hn⟩:=jz ((s.size+3)/4);rw[<-hn,<-oV kd n,show 0=val s%256^0 by rw[cO,dX]]at hS;refine kx (σ:=Nat) (λi ρ w'=>i<=s.size/\ρ 0= .string s/\ρ 3= .slice (some ⟨b1,0,none⟩) n n/\ρ 12=iB s.size/\ρ 13=iB i/\St w w' [(b1,141,Kr .u32 (pad kd (val s%256^i) n))]) (λi=>s.size-i) 0
  ⟨ax _,rfl,by rw[hn];rfl,rfl,rfl,hS⟩ ?_
 clear hS;rintro i ρ w2 ⟨hi,h0,h3,h12,h13,hS⟩;refine V1 ?_;by_cases hlt:i<s.size
 ·refine V3 ?_;have hb:=Be s i hlt;have hl:=qO (b:=kd) dD (val s%256^i) (i/4);have hd:=qO (b:=256) dD (val s) i;have hg:(pad kd (val s%256^i) n).getD (i/4) 0=kS kd (val s%256^i) (i/4):=nY _ _ oO;have hp:2^(8*(i%4))<=2^24:=bM dD oO;have hq:kS 256 (val s) i*2^(8*(i%4))<4294967296:=bY (fb (Nat.le_of_lt_succ hd) hp) dD;refine ja ?_;refine kE [jo 0,jo 1,jo 2,jo 3,ju 4,jo 5,jo 6,jo 7,jo 8,jo 9,jo 10,jo 11,jo 12,jo 13,jo 14,jo 15,jo 16,jo 17,jo 18,jw 19] kR kR hS ?_;intro wz3 hS hBz3;refine J2 ?_;refine jl rfl (sF rfl rfl oO (r:=((i/4:Nat):Int)) (by exact gk _ _ oO) (jl rfl (kF (i:=i/4) rfl rfl oO dO lr (jm rfl (nS (k:=0) (i:=i/4) rfl kK hS rfl oO dO ?_)))));refine J6 ?_;refine jl rfl (wU (i:=s.size-1-i) rfl rfl oO oO Tryz.underlying9 (jl rfl (kJ rfl Tryz.underlying141 ⟨_,Tryz.underlying5⟩ (r:=((kS 256 (val s) i:Nat):Int)) (by rw[hb];exact fi _ oO) ?_)));refine J1 ?_;refine jl rfl (pY rfl rfl oO (r:=((i%4:Nat):Int)) (by rfl) (jl rfl (ws rfl rfl (r:=((8*(i%4):Nat):Int)) (by exact pP _ oO) (jl rfl (uV rfl rfl oO (uW _ _ _ (show _<=32 by omega) (pC _ ⟨rfl,oO,oO⟩)) (jl rfl (zc rfl rfl (rM rfl _ _ (by rw[hg];exact hl) hq) (jl rfl (kF (i:=i/4) rfl rfl oO dO lr (jx rfl (pj (k:=0) (i:=i/4) (a:=_) rfl rfl rfl kK hS rfl oO dO ?_)))))))))));intro wz4 hS;refine ja ?_;rw[hg,Im]at hS;refine V2 ?_;exact⟨i+1,_,rfl,⟨hlt,h0,h3,h12,vi rfl oO,hS⟩,oO⟩
 ·refine J1 ?_;refine jt ?_;obtain rfl:i=s.size:=oO;have hval:val s<256^s.size:=F3 s;have h256:256^s.size<=kd^n:=by
   rw[show(256:Nat)=2^8 from rfl,show kd=2^32 from rfl,<-fC,<-fC];exact bM dD oO
  rw[aZ hval]at hS;have hsl:=hS.IS (k:=0) rfl (n:=n) (cap:=n) (by simp) (aB _) oO;rw[aU (by simp)]at hsl;refine J1 ?_;refine jh (j7 Tryz.call112 rfl (xM _ _ _ hsl (ti dD _ _)) ?_);rintro r w3 ⟨hr,rfl⟩;refine J1 ?_;refine jt ?_;refine kD rfl rfl ?_;rw[Hs oO]at hr;exact⟨hr,hS.j5⟩
theorem vJ (v:Value) (L:List Nat) (w:World) (hv:Sl (uk .u32) 1 w v L) (hL:∀d∈L,d<kd) (hs:L.length<=17592186044416):
  lW Tryz.prog 70 #[v] w λr w'=>r= .string (kG (lB kd L))/\Below w.heap.size w w':=by
 have hS:=St.init w;refine enter Tryz.func70 rfl Tryz.ntmps70 rfl ?_;refine J2 ?_;refine jp (kj rfl hv ⟨_,Tryz.underlying139⟩ (jp (ws rfl rfl (cx _ oO) (jh (pV (n:=4*L.length) rfl rfl Dl oO oO oO oO hS ?_)))));intro b1 wz2 hS hBz2;refine V4 ?_;obtain⟨V,hV⟩:=jz (lB kd L);obtain⟨n,hn⟩:=jz (4*L.length);have h00:List.replicate (4*L.length) 0=(pad 256 (V%256^0) n).reverse:=by rw[cO,dX,oV,List.reverse_replicate,hn]
 rw[h00]at hS;refine kx (σ:=Nat) (λi ρ w'=>i<=n/\ρ 0=v/\ρ 3= .slice (some ⟨b1,0,none⟩) n n/\ρ 10=iB n/\ρ 11=iB i/\St w w' [(b1,5,Kr .u8 (pad 256 (V%256^i) n).reverse)]) (λi=>n-i) 0
  ⟨ax _,rfl,by rw[hn];rfl,vi rfl (by rw[hn]),rfl,hS⟩ ?_
 clear hS;rintro i ρ w3 ⟨hi,h0,h3,h10,h11,hS⟩;have hv2:=hv.j5 hS.j5;refine V1 ?_;by_cases hlt:i<n
 ·refine V3 ?_;have hg:L.getD (i/4) 0=kS kd V (i/4):=by rw[hV,vu dD _ hL]
  have hl:=qO (b:=kd) dD V (i/4);have hlen:(pad 256 (V%256^i) n).length=n:=pad_length _ _ _;refine J8 ?_;refine jp (sF rfl rfl oO (r:=((i/4:Nat):Int)) (by exact gk _ _ oO) (jp (kp (i:=i/4) rfl rfl hv2 oO dO lr (jq (ky (i:=i/4) 0 rfl kK hv2 dO rfl rfl (.inr rfl) ?_)))));refine J1 ?_;refine jp (pY rfl rfl oO (r:=((i%4:Nat):Int)) (by rfl) (jp (ws rfl rfl (r:=((8*(i%4):Nat):Int)) (by exact pP _ oO) (jp (pX rfl rfl oO (qp _ _ (show _<=32 by omega)) (jp (kJ rfl Tryz.underlying5 ⟨_,Tryz.underlying141⟩ (uA _) (jp (kF (i:=n-1-i) rfl rfl oO dO Dl (jh (pj (k:=0) (i:=n-1-i) (a:=_) rfl rfl rfl WV hS rfl oO dO ?_)))))))))));intro wz3 hS;refine ja ?_;have hset:=HB (pad 256 (V%256^i) n) i (kS 256 V i) oO;rw[hg,Gv,show n-1-i=(pad 256 (V%256^i) n).length-1-i by omega,hset,B5 dD]at hS;refine V2 ?_;exact⟨i+1,_,rfl,⟨hlt,h0,h3,h10,vi rfl oO,hS⟩,oO⟩
 ·refine J1 ?_;refine jt ?_;obtain rfl:i=n:=oO;have hVlt:V<256^i:=by
   have:=tK L hL;rwa[<-hV,show kd=256^4 from rfl,<-fC,<-hn]at this
  have hat:=St.Xz hS (k:=0) rfl;have hsz:(zq (pad 256 (V%256^i) i).reverse).size<=9223372036854775807:=by rw[EX];simp;omega
  refine J1 ?_;refine jq (SN rfl ⟨Tryz.underlying189,Tryz.underlying5,Tryz.underlying9⟩ (by simp) hat (jh (j7 Tryz.call66 rfl (nk _ _ hsz) ?_)));rintro r w4 ⟨rfl,rfl⟩;refine J1 ?_;refine jt ?_;refine kD rfl rfl ?_;rw[II,Nat.mod_mod,aZ hVlt,hV];exact⟨rfl,hS.j5⟩
def sI (m n:Nat):Int:=if m<n then-1 else if n<m then 1 else 0
theorem xF (n:Nat):sI n n=0:=by simp[sI]
theorem ug {m n:Nat} (h:m<n):sI m n= -1:=by simp[sI,h]
theorem ul {m n:Nat} (h:n<m):sI m n=1:=by simp[sI,h,show¬m<n by omega]
theorem ph (b m i:Nat):m/b^i=b*(m/b^(i+1))+kS b m i:=by
 unfold kS;rw[bA,<-cQ];exact(cH _ _).symm
theorem su {b m n i:Nat} (h:m/b^i<n/b^i):m<n:=by
 rcases bH m n with h1|h1
 ·exact h1
 ·have:=Nat.div_le_div_right (c:=b^i) h1;omega
theorem ue {m n:Nat} (h:(kL m).length<(kL n).length):m<n:=by
 rcases bH m n with h1|h1
 ·exact h1
 ·have:=nH (b:=kd) dD h1;unfold kL at h;omega
theorem K9 (n:Int) (w:World):
  lW Tryz.prog 133 #[.int .i64 n] w λr w'=>r= .int .i64 (if n<0 then-1 else if 0<n then 1 else 0)/\w'=w:=by
 refine enter Tryz.func133 rfl Tryz.ntmps133 rfl ?_;refine V4 ?_;by_cases h1:n<0
 ·refine k9 rfl (ak h1) ?_;refine J1 ?_;refine jt ?_;refine kD rfl rfl ?_;exact⟨vi rfl (by rw[aj h1]),rfl⟩
 ·refine lx rfl (ae h1) ?_;refine V3 ?_;by_cases h2:0<n
  ·refine k9 rfl (ak h2) ?_;refine J1 ?_;refine jt ?_;refine kD rfl rfl ?_;exact⟨vi rfl (by rw[ah h1,aj h2]),rfl⟩
  ·refine lx rfl (ae h2) ?_;refine J1 ?_;refine jt ?_;refine kD rfl rfl ?_;exact⟨vi rfl (by rw[ah h1,ah h2]),rfl⟩
theorem PH {m n:Nat} (h:(kL m).length≠(kL n).length):(if((kL m).length:Int)-((kL n).length:Int)<0 then-1 else if 0<((kL m).length:Int)-((kL n).length:Int)then 1 else 0)=sI m n:=by
 rcases bH (kL m).length (kL n).length with h1|h1
 ·rw[aj oO,ug (ue h1)]
 ·rw[ah oO,aj oO,ul (ue oO)]
theorem CL (u v:Value) (m n:Nat) (w:World) (hu:Sl (uk .u32) 1 w u (kL m)) (hv:Sl (uk .u32) 1 w v (kL n)):
  lW Tryz.prog 118 #[u,v] w λr w'=>r= .int .i64 (sI m n)/\Below w.heap.size w w':=by
 have hlu:=hu.maxLen;have hlv:=hv.maxLen;have hS:=St.init w;refine enter Tryz.func118 rfl Tryz.ntmps118 rfl ?_;refine J2 ?_;refine jp (kj rfl (hu.j5 hS.j5) ⟨_,Tryz.underlying139⟩ ?_);refine J1 ?_;refine jp (kj rfl (hv.j5 hS.j5) ⟨_,Tryz.underlying139⟩ ?_);refine V1 ?_;by_cases hl:(kL m).length=(kL n).length
 ·refine lx rfl (ae (by simp[hl])) ?_;refine J1 ?_;refine jp (kj rfl (hu.j5 hS.j5) ⟨_,Tryz.underlying139⟩ ?_);refine V2 ?_;refine kx (σ:=Nat) (λi ρ w'=>i<=(kL m).length/\m/kd^i=n/kd^i/\ρ 0=u/\ρ 1=v/\ρ 5=iB ((i:Int)-1)/\St w w' []) (λi=>i) (kL m).length
   ⟨aB _,?_,rfl,rfl,rfl,hS⟩ ?_
  ·have h1:m<kd^(kL m).length:=mV dD m;have h2:n<kd^(kL n).length:=mV dD n;rw[bS h1,hl,bS h2]
  clear hS;rintro i ρ w' ⟨hi,hq,h0,h1,h5,hS⟩;refine V2 ?_;by_cases hpos:0<i
  ·refine V1 ?_;have hlen:i-1<(kL m).length:=oO;refine ja ?_;refine kE [jo 0,jo 1,jo 2,ju 3,jo 4,jo 5,jo 6,ju 7,jo 8] kR kR hS ?_;intro wz1 hS hBz1;refine J2 ?_;refine jl rfl (kp (i:=i-1) rfl rfl (hu.j5 hS.j5) oO dO lr (jm rfl (ky (i:=i-1) 0 rfl kK (hu.j5 hS.j5) dO rfl rfl (.inr rfl) ?_)));refine J2 ?_;refine jl rfl (kp (i:=i-1) rfl rfl (hv.j5 hS.j5) oO dO lr (jm rfl (ky (i:=i-1) 0 rfl kK (hv.j5 hS.j5) dO rfl rfl (.inr rfl) ?_)));refine V1 ?_;rw[me,me];have hs1:=ph kd m (i-1);have hs2:=ph kd n (i-1);rw[show i-1+1=i by omega]at hs1 hs2;by_cases hne:kS kd m (i-1)=kS kd n (i-1)
   ·refine V4 ?_;exact⟨i-1,_,rfl,⟨oO,by rw[hs1,hs2,hq,hne],h0,h1,vi rfl oO,hS⟩,oO⟩
   ·refine V1 ?_;refine kE [jo 0,jo 1,jo 2,ju 3,jo 4,jo 5,jo 6,ju 7,jo 8] kR kR hS ?_;intro wz2 hS hBz2;refine J2 ?_;refine jl rfl (kp (i:=i-1) rfl rfl (hu.j5 hS.j5) oO dO lr (jm rfl (ky (i:=i-1) 0 rfl kK (hu.j5 hS.j5) dO rfl rfl (.inr rfl) ?_)));refine J2 ?_;refine jl rfl (kp (i:=i-1) rfl rfl (hv.j5 hS.j5) oO dO lr (jm rfl (ky (i:=i-1) 0 rfl kK (hv.j5 hS.j5) dO rfl rfl (.inr rfl) ?_)));refine V1 ?_;rw[me,me];by_cases hlt:kS kd m (i-1)<kS kd n (i-1)
    ·refine J2 ?_;refine jt ?_;refine kD rfl rfl ?_;refine⟨vi rfl (ug (su (b:=kd) (i:=i-1) ?_)).symm,hS.j5⟩;rw[hs1,hs2,hq];omega
    ·refine J2 ?_;refine jt ?_;refine kD rfl rfl ?_;refine⟨vi rfl (ul (su (b:=kd) (i:=i-1) ?_)).symm,hS.j5⟩;rw[hs1,hs2,hq];omega
  ·refine J2 ?_;refine jt ?_;refine kD rfl rfl ?_;obtain rfl:i=0:=oO;rw[cO,fu,fu]at hq;rw[hq];exact⟨vi rfl (by rw[xF]),hS.j5⟩
 ·refine J2 ?_;refine jp (kj rfl (hu.j5 hS.j5) ⟨_,Tryz.underlying139⟩ ?_);refine J1 ?_;refine jp (kj rfl (hv.j5 hS.j5) ⟨_,Tryz.underlying139⟩ ?_);refine J1 ?_;refine jh (j7 Tryz.call133 rfl (K9 _ _) ?_);rintro r w' ⟨rfl,rfl⟩;refine J1 ?_;refine jt ?_;refine kD rfl rfl ?_;exact⟨vi rfl (PH hl),hS.j5⟩
theorem uY:∀(a b:List UInt8),a.length=b.length->Lib.compareBytes a b=sI (lB 256 (a.map UInt8.toNat).reverse) (lB 256 (b.map UInt8.toNat).reverse)
 | [],[],_=>by simp[Lib.compareBytes,sI]
 |x::a,y::b,h=>by
  have hl:a.length=b.length:=by simpa using h
  have ih:=uY a b hl;rw[df,df,jM,jM,sy,sy];have h1:=tK (b:=256) (a.map UInt8.toNat).reverse (λd hd=>by obtain⟨u,_,rfl⟩:=bT.1 (dV.1 hd);exact u.toNat_lt);have h2:=tK (b:=256) (b.map UInt8.toNat).reverse (λd hd=>by obtain⟨u,_,rfl⟩:=bT.1 (dV.1 hd);exact u.toNat_lt);rw[fz,aO]at h1 h2;rw[fz,fz,aO,aO];rw[hl]at h1⊢;generalize lB 256 (a.map UInt8.toNat).reverse=m at h1 ih;generalize lB 256 (b.map UInt8.toNat).reverse=n at h2 ih;generalize 256^b.length=k at h1 h2;rw[Lib.compareBytes,ih];simp only[lB,eP,d9,UInt8.lt_iff_toNat_lt];generalize x.toNat=p;generalize y.toNat=q;split
  ·rename_i hpq;have:k*(p+1)<=k*q:=bn _ hpq;rw[aW]at this;rw[ug oO]
  ·split
   ·rename_i hpq;have:k*(q+1)<=k*p:=bn _ hpq;rw[aW]at this;rw[ul oO]
   ·obtain rfl:p=q:=oO;unfold sI;simp
theorem zk {m n:Nat} (h:(kG m).size=(kG n).size):Lib.compareBytes (kG m).data.toList (kG n).data.toList=sI m n:=by
 have h':(kG m).data.toList.length=(kG n).data.toList.length:=h;rw[uY _ _ h'];have h1:=li m;have h2:=li n;unfold val oD at h1 h2;rw[h1,h2]
theorem zA {m n:Nat} (h:(kG m).size<(kG n).size):m<n:=by
 rcases bH m n with h1|h1
 ·exact h1
 ·have:=nH (b:=256) dD h1;rw[r7,r7]at h;omega
theorem Cp {m n:Nat} (h:(kG m).size≠(kG n).size):(if((kG m).size:Int)-((kG n).size:Int)<0 then-1 else if 0<((kG m).size:Int)-((kG n).size:Int)then 1 else 0)=sI m n:=by
 rcases bH (kG m).size (kG n).size with h1|h1
 ·rw[aj oO,ug (zA h1)]
 ·rw[ah oO,aj oO,ul (zA oO)]
theorem PJ {N:Nat} {ρ:Nat->Value} {w:World} {K2:Value->World->Prop} {x y:Operand} {a b:ByteArray} {ats:Array TypeId} {d:Option Tmp} {ty:TypeId} {pos:String} {aft:Array Edge} {g:Option (Nat×Bool)}
  (hx:ev N ρ x= .string a) (hy:ev N ρ y= .string b) (h:K2 (.int .i64 (Lib.compareBytes a.data.toList b.data.toList)) w):
  pi Tryz.prog N ρ w ⟨d,.call ⟨.value (.func 195),#[x,y],ats⟩,ty,pos,aft,g⟩ K2:=by
 refine n7 (v:= .int .i64 (Lib.compareBytes a.data.toList b.data.toList)) (w':=w) ?_ h;have he:ev N ρ (.func 195)= .func (.func 195) #[] #[]:=rfl;simp only[execOp,resolve,he,Deferred.ofValue,invoke,iK,df,jO,hx,hy,dN,ik,di,Array.empty_append,Array.append_empty];rw[run_callFunc_extern Tryz.func195 kR kR kR (e:=Extern.BytealgCompare.compare) kR,Lib.run_compareString];rfl
theorem AT (a b:ByteArray) (w:World):
  lW Tryz.prog 169 #[.string a,.string b] w λr w'=>r= .int .i64 (Lib.compareBytes a.data.toList b.data.toList)/\w'=w:=by
 refine enter Tryz.func169 rfl Tryz.ntmps169 rfl ?_;refine J3 ?_;refine jh (PJ rfl rfl ?_);refine J1 ?_;refine jt ?_;refine kD rfl rfl ?_;exact⟨rfl,rfl⟩
theorem DO (a b:ByteArray) (w:World):
  lW Tryz.prog 134 #[.string a,.string b] w λr w'=>r= .int .i64 (Lib.compareBytes a.data.toList b.data.toList)/\w'=w:=by
 refine enter Tryz.func134 rfl Tryz.ntmps134 rfl ?_;refine J3 ?_;refine jh (j7 Tryz.call169 rfl (AT _ _ _) ?_);rintro v w' ⟨rfl,rfl⟩;refine J1 ?_;refine jt ?_;refine kD rfl rfl ?_;exact⟨rfl,rfl⟩
theorem Kd (a b:ByteArray) (w:World) (ha:a.size<=9223372036854775807) (hb:b.size<=9223372036854775807):
  lW Tryz.prog 90 #[.string a,.string b] w λr w'=>r= .int .i64 (sI (val a) (val b))/\w'=w:=by
 refine enter Tryz.func90 rfl Tryz.ntmps90 rfl ?_;refine J2 ?_;refine jh (j7 Tryz.call66 rfl (nk _ _ ha) ?_);rintro v w' ⟨rfl,rfl⟩;refine J1 ?_;refine jh (j7 Tryz.call66 rfl (nk _ _ hb) ?_);rintro v w' ⟨rfl,rfl⟩;refine V2 ?_;have h1:=ql a;have h2:=ql b;refine V5 ?_;by_cases hl:(kG (val a)).size=(kG (val b)).size
 ·refine lx rfl (ae (by simp[hl])) ?_;refine J2 ?_;refine jh (j7 Tryz.call134 rfl (DO _ _ _) ?_);rintro v w' ⟨rfl,rfl⟩;refine J1 ?_;refine jt ?_;refine kD rfl rfl ?_;exact⟨vi rfl (zk hl),rfl⟩
 ·refine J6 ?_;refine jh (j7 Tryz.call133 rfl (K9 _ _) ?_);rintro r w' ⟨rfl,rfl⟩;refine J1 ?_;refine jt ?_;refine kD rfl rfl ?_;exact⟨vi rfl (Cp hl),rfl⟩
def xc:ByteArray:=⟨((List.range 256).map λi=>UInt8.ofNat (Lib.bitLen i)).toArray⟩
theorem vv:xc.size=256:=by decide+kernel
theorem Nt:∀i:Fin 256,(xc[i.val]'(by rw[vv];exact i.isLt)).toNat=Lib.bitLen i.val:=by decide+kernel
theorem uJ (i:Nat) (h:i<xc.size):(xc[i]).toNat=Lib.bitLen i:=Nt ⟨i,by rw[<-vv];exact h⟩
theorem P8 (x:Nat) (w:World) (h1:x<kd):
  lW Tryz.prog 181 #[.int .u32 x] w λr w'=>r= .int .i64 (Lib.bitLen x)/\w'=w:=by
 have hB:kd=4294967296:=rfl;have hT:256=xc.size:=vv.symm;refine enter Tryz.func181 rfl Tryz.ntmps181 rfl ?_;refine V3 ?_;by_cases g1:65536<=x
 ·refine J2 ?_;refine jp (pX rfl rfl oO (r:=((x/65536:Nat):Int)) (by exact qp (k:= .u32) x 16 dD) ?_);refine V4 ?_;by_cases g2:256<=(x/65536)
  ·refine J2 ?_;refine jp (pX rfl rfl oO (r:=(((x/65536)/256:Nat):Int)) (by exact qp (k:= .u32) _ 8 dD) ?_);refine V4 ?_;have h8:Lib.bitLen (((x/65536)/256)%256)<=8:=iw ⟨((x/65536)/256)%256,oO⟩;refine J2 ?_;refine jp (kJ rfl Tryz.underlying5 ⟨_,Tryz.underlying141⟩ (r:=((((x/65536)/256)%256:Nat):Int)) (by exact uA _) (jp (wU (s:=xc) (i:=((x/65536)/256)%256) (bI Value.string (by decide+kernel)) rfl rfl oO Tryz.underlying9 (jp (kJ rfl Tryz.underlying3 ⟨_,Tryz.underlying5⟩ (r:=((Lib.bitLen (((x/65536)/256)%256):Nat):Int)) (by rw[uJ];exact pP _ ⟨rfl,oO,oO⟩) ?_)))));refine J2 ?_;refine jt ?_;refine kD rfl rfl ?_;have e:Lib.bitLen x=24+Lib.bitLen (((x/65536)/256)%256):=by rw[Lib.bitLen_shift24 x oO oO,show x/16777216=x/65536/256%256 by omega]
   exact⟨vi rfl oO,rfl⟩
  ·refine V1 ?_;have h8:Lib.bitLen ((x/65536)%256)<=8:=iw ⟨(x/65536)%256,oO⟩;refine J2 ?_;refine jp (kJ rfl Tryz.underlying5 ⟨_,Tryz.underlying141⟩ (r:=(((x/65536)%256:Nat):Int)) (by exact uA _) (jp (wU (s:=xc) (i:=(x/65536)%256) (bI Value.string (by decide+kernel)) rfl rfl oO Tryz.underlying9 (jp (kJ rfl Tryz.underlying3 ⟨_,Tryz.underlying5⟩ (r:=((Lib.bitLen ((x/65536)%256):Nat):Int)) (by rw[uJ];exact pP _ ⟨rfl,oO,oO⟩) ?_)))));refine J2 ?_;refine jt ?_;refine kD rfl rfl ?_;have e:Lib.bitLen x=16+Lib.bitLen ((x/65536)%256):=by rw[Lib.bitLen_shift16 x oO oO,show x/65536%256=x/65536 by omega]
   exact⟨vi rfl oO,rfl⟩
 ·refine V3 ?_;by_cases g2:256<=x
  ·refine J2 ?_;refine jp (pX rfl rfl oO (r:=((x/256:Nat):Int)) (by exact qp (k:= .u32) _ 8 dD) ?_);refine V4 ?_;have h8:Lib.bitLen ((x/256)%256)<=8:=iw ⟨(x/256)%256,oO⟩;refine J2 ?_;refine jp (kJ rfl Tryz.underlying5 ⟨_,Tryz.underlying141⟩ (r:=(((x/256)%256:Nat):Int)) (by exact uA _) (jp (wU (s:=xc) (i:=(x/256)%256) (bI Value.string (by decide+kernel)) rfl rfl oO Tryz.underlying9 (jp (kJ rfl Tryz.underlying3 ⟨_,Tryz.underlying5⟩ (r:=((Lib.bitLen ((x/256)%256):Nat):Int)) (by rw[uJ];exact pP _ ⟨rfl,oO,oO⟩) ?_)))));refine J2 ?_;refine jt ?_;refine kD rfl rfl ?_;have e:Lib.bitLen x=8+Lib.bitLen ((x/256)%256):=by rw[Lib.bitLen_shift8 x oO oO,show x/256%256=x/256 by omega]
   exact⟨vi rfl oO,rfl⟩
  ·refine V1 ?_;have h8:Lib.bitLen (x%256)<=8:=iw ⟨x%256,oO⟩;refine J2 ?_;refine jp (kJ rfl Tryz.underlying5 ⟨_,Tryz.underlying141⟩ (r:=((x%256:Nat):Int)) (by exact uA _) (jp (wU (s:=xc) (i:=x%256) (bI Value.string (by decide+kernel)) rfl rfl oO Tryz.underlying9 (jp (kJ rfl Tryz.underlying3 ⟨_,Tryz.underlying5⟩ (r:=((Lib.bitLen (x%256):Nat):Int)) (by rw[uJ];exact pP _ ⟨rfl,oO,oO⟩) ?_)))));refine J2 ?_;refine jt ?_;refine kD rfl rfl ?_;have e:Lib.bitLen x=0+Lib.bitLen (x%256):=by rw[bZ,aZ oO]
   exact⟨vi rfl oO,rfl⟩
theorem yc:∀(k x:Nat),x<2^k->k<=64->Lib.bitLen x<=k/\x<2^Lib.bitLen x/\(x≠0->0<Lib.bitLen x/\2^(Lib.bitLen x-1)<=x)
 |0,x,h,_=>by
  have:x=0:=by simpa using h
  subst this;exact⟨by decide+kernel,by decide+kernel,λh=>absurd rfl h⟩
 |k+1,x,h,hk=>by
  by_cases hx:x=0
  ·subst hx;have h0:Lib.bitLen 0=0:=by decide+kernel
   rw[h0];exact⟨oO,dD,λh=>absurd rfl h⟩
  ·have hlt:x<2^64:=dq h (bM dD hk);obtain⟨h1,h2,h3⟩:=yc k (x/2) (by rw[bA]at h;omega) oO;rw[Lib.bitLen_half x hx hlt];refine⟨oO,?_,λ_=>⟨oO,?_⟩⟩
   ·rw[dK,bA];omega
   ·rw[cW];by_cases h4:x/2=0
    ·rw[h4,show Lib.bitLen 0=0 by decide+kernel];omega
    ·obtain⟨h5,h6⟩:=h3 h4;have:2^Lib.bitLen (x/2)=2^(Lib.bitLen (x/2)-1)*2:=by rw[<-bA];congr 1;omega
     omega
theorem zM (x:Nat) (w:World) (h0:0<x) (h1:x<kd):
  lW Tryz.prog 154 #[.int .u32 x] w λr w'=>(∃c:Nat,c<32/\x*2^c<kd/\kd<=2*(x*2^c)/\r= .int .i64 c)/\w'=w:=by
 have hB:kd=4294967296:=rfl;obtain⟨g1,g2,g3⟩:=yc 32 x oO dD;obtain⟨g4,g5⟩:=g3 oO;have hl:=P8 x w h1;refine enter Tryz.func154 rfl Tryz.ntmps154 rfl ?_;refine J2 ?_;refine jh (j7 Tryz.call181 rfl (hl) ?_);rintro r w' ⟨rfl,rfl⟩;refine J2 ?_;refine jt ?_;refine kD rfl rfl ?_;refine⟨⟨32-Lib.bitLen x,oO,?_,?_,vi rfl oO⟩,rfl⟩
 ·have:x*2^(32-Lib.bitLen x)<2^Lib.bitLen x*2^(32-Lib.bitLen x):=db g2 (cy dD);rw[<-dy,show Lib.bitLen x+(32-Lib.bitLen x)=32 by omega]at this;exact this
 ·have:2^(Lib.bitLen x-1)*2^(32-Lib.bitLen x)<=x*2^(32-Lib.bitLen x):=aH _ g5;rw[<-dy,show Lib.bitLen x-1+(32-Lib.bitLen x)=31 by omega]at this;omega
theorem H5 (x y c:Nat) (w:World) (hx:x<kd) (hy:y<kd) (hc:c<kd):
  lW Tryz.prog 117 #[.int .u32 x,.int .u32 y,.int .u32 c] w λr w'=>
   r= .tuple #[.int .u32 ((x+y+c)%kd:Nat),.int .u32 ((x+y+c)/kd:Nat)]/\w'=w:=by
 have hB:kd=4294967296:=rfl;refine enter Tryz.func117 rfl Tryz.ntmps117 rfl ?_;refine J9 ?_;refine jp (pe rfl rfl (r:=((x+y+c:Nat):Int)) (by exact kZ _ oO) ?_);refine J2 ?_;refine jp (kJ rfl Tryz.underlying141 ⟨_,Tryz.underlying99⟩ (ss _) ?_);refine J2 ?_;refine jp (pX rfl rfl dD (Th _ 32 dD) (jp (kJ rfl Tryz.underlying141 ⟨_,Tryz.underlying99⟩ (r:=(((x+y+c)/kd:Nat):Int)) (by exact pC _ (by unfold kd at*;omega)) ?_)));refine J1 ?_;refine jt ?_;refine rH rfl rfl rfl ?_;exact⟨rfl,rfl⟩
theorem Fh {k:IntKind} (hk:k.signed=false) (m n:Nat) (hm:m<2^k.bits) (hn:n<2^k.bits):pO .xor k m n=((m^^^n:Nat):Int):=by
 have hlt:m^^^n<2^k.bits:=g9 hm hn;have h:((m^^^n:Nat):Int)%2^k.bits=((m^^^n:Nat):Int):=jQ oO (by exact_mod_cast hlt);simp only[pO,fN,BitVec.toNat_xor,gf,aZ hm,aZ hn,IntKind.wrap,hk,i7,h];simp
theorem BS (z:Nat) (hz:z<kd):z/2^31=(z.testBit 31).toNat:=by
 have hB:kd=4294967296:=rfl;rw[Nat.testBit_eq_decide_div_mod_eq];by_cases h:z/2^31%2=1
 ·rw[ak h];show _=1;omega
 ·rw[ae h];show _=0;omega
theorem JN (x y b:Nat) (hx:x<kd) (hy:y<kd) (hb:b<=1):
  (((4294967295^^^x)&&&y)|||((4294967295^^^(x^^^y))&&&((x+2*kd-y-b)%kd)))/2^31=if x<y+b then 1 else 0:=by
 have hB:kd=4294967296:=rfl;obtain⟨D,hD⟩:=jz (x+2*kd-y-b);rw[<-hD];have hD2:D+y+b=x+2*kd:=oO;clear hD;have hd:D%kd<kd:=bG _ oO;have h2:kd=2^32:=rfl;have hz:(((4294967295^^^x)&&&y)|||((4294967295^^^(x^^^y))&&&(D%kd)))<kd:=by
  rw[h2]at*;exact Nat.or_lt_two_pow (ib _ hy) (ib _ hd)
 rw[BS _ hz];simp only[Nat.testBit_or,Nat.testBit_and,Nat.testBit_xor];rw[show Nat.testBit 4294967295 31=true by decide];have tx:=BS x hx;have ty:=BS y hy;have td:=BS _ hd;revert tx ty td
 generalize x.testBit 31=p;generalize y.testBit 31=q;generalize (D%kd).testBit 31=r;intro tx ty td;rcases bH x (y+b)with h|h
 ·rw[aj h];cases p<;>cases q<;>cases r<;>simp only[Bool.toNat,cond]at tx ty td<;>first|rfl|(exfalso;unfold kd at*;omega)
 ·rw[ah oO];cases p<;>cases q<;>cases r<;>simp only[Bool.toNat,cond]at tx ty td<;>first|rfl|(exfalso;unfold kd at*;omega)
theorem CU (x y b:Nat) (w:World) (hx:x<kd) (hy:y<kd) (hb:b<=1):
  lW Tryz.prog 161 #[.int .u32 x,.int .u32 y,.int .u32 b] w λr w'=>
   r= .tuple #[.int .u32 ((x+2*kd-y-b)%kd:Nat),.int .u32 (if x<y+b then 1 else 0:Nat)]/\w'=w:=by
 have hB:kd=4294967296:=rfl;have hd:(x+2*kd-y-b)%kd<kd:=bG _ oO;have h2:kd=2^IntKind.u32.bits:=rfl;have hxy:x^^^y<2^32:=g9 oO oO;have hnx:4294967295^^^x<2^32:=g9 dD oO;have hnxy:4294967295^^^(x^^^y)<2^32:=g9 dD hxy;have ha1:(4294967295^^^x)&&&y<2^32:=ib _ oO;have ha2:(4294967295^^^(x^^^y))&&&((x+2*kd-y-b)%kd)<2^32:=ib _ oO;refine enter Tryz.func161 rfl Tryz.ntmps161 rfl ?_;refine J4 ?_;refine jp (sG rfl rfl (tJ _) ?_);refine J1 ?_;refine jp (sG rfl rfl (r:=(((x+2*kd-y-b)%kd:Nat):Int)) (by rw[tJ];unfold kd at*;omega) ?_);refine J2 ?_;refine jp (S1 rfl (Fh rfl 4294967295 x dD hx) ?_);refine J1 ?_;refine jp (Eo rfl rfl (Fo rfl _ _ hnx hy) ?_);refine J2 ?_;refine jp (Wf rfl rfl (Fh rfl x y hx hy) (jp (S1 rfl (Fh rfl 4294967295 _ dD hxy) ?_)));refine J1 ?_;refine jp (Eo rfl rfl (Fo rfl _ _ hnxy hd) (jp (zc rfl rfl (rM rfl _ _ ha1 ha2) (jp (pX rfl rfl dD (qp _ 31 dD) ?_)))));refine J1 ?_;refine jt ?_;refine rH rfl rfl rfl ?_;rw[JN x y b hx hy hb];exact⟨rfl,rfl⟩
end Go.Proofs.YtoeiejliehgopaaGreatDoor
