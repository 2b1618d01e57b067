import Derived.Below
import Derived.OwnWalk
import Derived.Orders
import Derived.KernelRfl
import Derived.Laws.StructEq
import Derived.Laws.Shifts
import Derived.Laws.Strings
import Derived.Laws.Small
import Derived.Great.BuildSlice
import Derived.Laws.BytesString
import Derived.Laws.AppendOwnNone
import Derived.Maps.AppendAt
import Derived.Great.FillDense
import Derived.IntWalk
import Derived.Laws.ResultCell
import Derived.Laws.Rows
import Derived.Test.YtoeiejliehgopaaGreatDoorProg
import Derived.Lib.Bytealg
import Derived.Lib.Strings
import Derived.Lib.Slices
import Derived.Lib.Small
import Derived.Lib.Walk
import Derived.Lib.BitFns
set_option linter.defProp false
namespace Go
def ab:=@List.sublist_cons_self
def ae:=@decide_eq_false
def ah:=@if_neg
def ai:=@List.sublist_append_right
def aj:=@if_pos
def ak:=@List.sublist_append_left
def ao:=@decide_eq_true
def ap:=@List.getD_eq_getElem?_getD
def aB:=@Nat.zero_le
def aF:=@List.perm_append_comm
def aG:=@List.length_append
def aH:=@Nat.le_refl
def aI:=@List.append_assoc
def aJ:=@List.getElem?_eq_getElem
def aK:=@List.mem_cons_of_mem
def aO:=@Nat.mul_le_mul_right
def aQ:=@List.mem_cons_self
def aS:=@List.length_map
def aU:=@List.append_nil
def aV:=@List.take_of_length_le
def aW:=@Nat.not_lt_zero
def aZ:=@List.mem_singleton
def ba:=@Nat.mul_add
def bh:=@Nat.mod_eq_of_lt
def bj:=@List.length_cons
def bk:=@Nat.mul_assoc
def bl:=@Bool.and_eq_true
def bn:=@List.Sublist.append
def bA:=@Nat.add_mul
def bB:=@Nat.mul_le_mul_left
def bC:=@Nat.pow_succ
def bF:=@Nat.mul_comm
def bG:=@Nat.mod_lt
def bH:=@List.map_append
def bI:=@Nat.lt_or_ge
def bJ:=@List.mem_cons
def bK:=@List.Sublist.refl
def bM:=@Nat.pow_le_pow_right
def bN:=@Option.some.inj
def bO:=@List.mem_append
def bP:=@List.Perm.append_left
def bQ:=@congrArg
def bR:=@List.take_length
def bS:=@Rat.le_refl
def bT:=@Rat.div_def
def bU:=@List.Perm.append_right
def bV:=@Nat.div_eq_of_lt
def bW:=@List.cons_append
def bX:=@List.mem_map
def bY:=@Rat.mul_inv_cancel
def bZ:=@Nat.zero_add
def ca:=@List.nil_append
def ce:=@List.length_set
def cj:=@not_not_intro
def ct:=@Nat.lt_of_le_of_lt
def cB:=@List.flatMap_cons
def cF:=@Go.IntWalk.i64_in
def cG:=@Nat.pow_pos
def cH:=@List.eq_nil_of_length_eq_zero
def cI:=@Nat.eq_of_beq_eq_true
def cJ:=@Nat.div_add_mod
def cK:=@List.flatMap_singleton
def cO:=@Rat.intCast_natCast
def cQ:=@List.all_eq_true
def cS:=@Go.run_underlying
def cU:=@Nat.pow_zero
def cV:=@Nat.div_div_eq_div_mul
def cW:=@List.mem_range
def cZ:=@List.getElem?_append_right
def da:=@Nat.add_mul_div_left
def db:=@List.map_cons
def dc:=@List.take_append_drop
def de:=@Nat.mul_lt_mul_of_pos_right
def df:=@List.not_mem_nil
def dg:=@List.length_take
def dh:=@Rat.zero_mul
def di:=@Nat.div_lt_of_lt_mul
def dj:=@Rat.le_of_lt
def dk:=@List.getElem?_eq_none
def dm:=@Nat.eq_zero_or_pos
def dp:=@Go.Result.andThen_ok
def dq:=@List.getElem?_append_left
def dt:=@List.nodup_append
def du:=@Bool.or_eq_true
def dw:=@Nat.lt_of_lt_of_le
def dx:=@Nat.le_trans
def dy:=@List.flatMap_append
def dz:=@Rat.lt_irrefl
def dA:=@Array.all_eq_true'
def dB:=@Nat.pow_add
def dE:=@Nat.div_le_self
def dG:=@List.any_eq_true
def dH:=@Nat.lt_irrefl
def dI:=@List.length_range
def dJ:=@Nat.one_mul
def dK:=@Nat.mul_pos
def dN:=@List.getElem?_eq_some_iff
def dP:=@Go.Sem.run_bind
def dQ:=@List.mem_flatMap
def dR:=@Rat.mul_zero
def dS:=@List.Perm.refl
def dU:=@Nat.add_assoc
def dV:=@List.mem_filter
def dW:=@List.mem_reverse
def dX:=@List.drop_eq_getElem_cons
def dY:=@Rat.one_mul
def dZ:=@Nat.mod_one
def d9:=@Nat.le_div_iff_mul_le
def ec:=@Nat.sub_self
def ef:=@Nat.add_zero
def eg:=@List.set_cons_zero
def eh:=@Int.natCast_nonneg
def en:=@decide_eq_decide
def eo:=@Nat.lt_succ_self
def eu:=@List.mem_flatten
def ew:=@List.getElem_map
def ey:=@Nat.dvd_trans
def eC:=@Rat.mkRat_self
def eD:=@List.perm_append_singleton
def eE:=@List.foldl_append
def eG:=@Rat.intCast_mul
def eI:=@Nat.mul_one
def eJ:=@Nat.add_mul_mod_self_left
def eN:=@Nat.le_of_ble_eq_true
def eO:=@List.length_singleton
def eP:=@List.length_replicate
def eQ:=@Nat.sub_add_cancel
def eR:=@Rat.le_trans
def eV:=@Nat.mul_zero
def eW:=@Rat.mul_eq_zero
def eY:=@List.map_congr_left
def eZ:=@List.flatten_append
def fa:=@Nat.add_comm
def fb:=@List.drop_of_length_le
def fc:=@Option.getD_some
def fe:=@List.length_drop
def ff:=@List.ext_getElem
def fg:=@Nat.mul_le_mul
def fh:=@List.take_zero
def fi:=@Int.tmod_eq_emod_of_nonneg
def fk:=@Go.IntWalk.u64_in
def fm:=@Go.IntWalk.u32_in
def fo:=@Nat.mod_add_div
def fp:=@Nat.zero_mul
def fq:=@Nat.gcd_dvd_right
def ft:=@Nat.div_one
def fu:=@List.getElem?_set
def fv:=@Decidable.not_not
def fw:=@List.length_reverse
def fy:=@List.getElem_of_mem
def fz:=@Int.toNat_of_nonneg
def fA:=@decide_eq_false_iff_not
def fB:=@Rat.mkRat_eq_div
def fC:=@Nat.add_sub_cancel_left
def fD:=@List.nodup_nil
def fE:=@List.filter_cons
def fF:=@Nat.pow_mul
def fG:=@List.take_append_of_le_length
def fH:=@List.drop_append_of_le_length
def fI:=@decide_eq_true_iff
def fJ:=@Rat.div_mul_cancel
def fK:=@List.map_map
def fL:=@Int.natAbs_natCast
def fM:=@or_false
def fN:=@Rat.num_eq_zero
def fO:=@List.all_append
def fP:=@decide_eq_true_eq
def fQ:=@Bool.not_eq_true'
def fR:=@BitVec.ofInt_natCast
def fS:=@Nat.le_of_lt
def fT:=@Go.IntWalk.u16_in
def fU:=@List.replicate_succ
def fV:=@List.length_pos_iff
def fW:=@Array.length_toList
def fX:=@List.all_cons
def fY:=@Rat.natCast_mul
def fZ:=@Nat.mul_ne_zero
def f9:=@List.length_nil
def ga:=@List.foldl_cons
def gf:=@List.cons.injEq
def gg:=@Bool.eq_iff_iff
def gh:=@Nat.not_lt
def gi:=@BitVec.toNat_ofNat
def gj:=@dite_true
def gk:=@Nat.or_comm
def gl:=@List.length_eq_zero_iff
def gm:=@List.getElem?_replicate
def gn:=@Go.IntWalk.i64_quo
def gq:=@of_decide_eq_true
def gu:=@Rat.mul_comm
def gw:=@Option.some.injEq
def gy:=@List.flatten_singleton
def gz:=@List.any_eq_false
def gA:=@Array.getElem?_eq_none
def gB:=@Go.bodyPost_ret
def gC:=@List.getElem?_reverse
def gD:=@Classical.choose_spec
def gE:=@Array.mem_of_getElem?
def gF:=@Rat.not_lt
def gG:=@Nat.blt_eq
def gH:=@Nat.and_two_pow_sub_one_eq_mod
def gI:=@List.prefix_refl
def gJ:=@List.nil_sublist
def gK:=@List.flatMap_nil
def gL:=@List.eq_nil_iff_forall_not_mem
def gN:=@Rat.mul_assoc
def gO:=@Nat.le_sub_one_of_lt
def gP:=@List.reverse_reverse
def gQ:=@List.mem_of_mem_take
def gR:=@List.mem_append_left
def gS:=@Rat.natCast_add
def gT:=@Rat.intCast_inj
def gU:=@Nat.min_eq_left
def gV:=@List.nodup_cons
def gW:=@Go.IntWalk.u8_in
def gX:=@Int.natCast_mul
def gY:=@Nat.div_mul_le_self
def gZ:=@if_true
def g8:=@Rat.add_zero
def g9:=@List.map_set
def hJ:=@Rat.sub_eq_add_neg
def ia:=@Nat.xor_lt_two_pow
def ib:=@Nat.mul_lt_mul_of_lt_of_le
def ic:=@Nat.mul_add_mod_self_right
def ie:=@Nat.and_lt_two_pow
def ig:=@Nat.add_sub_cancel
def ij:=@List.filter_append
def ik:=@Array.getElem?_eq_some_iff
def im:=@Array.any_eq_true'
def io:=@Go.Sem.run_pure
def iq:=@Go.mem_ready
def iu:=@Rat.add_mul
def iw:=@Nat.mul_left_comm
def ix:=@Nat.div_pos
def iy:=@List.getElem_take
def iz:=@List.getElem?_map
def iA:=@Go.Lib.bitLen_le8
def iC:=@Int.toNat_natCast
def iD:=@Bool.not_eq_false
def iE:=@Nat.gcd_pos_of_pos_right
def iF:=@List.sum_cons
def iG:=@Bool.not_true
def iH:=@Bool.false_or
def iI:=@Go.getD_set_ne
def iJ:=@Nat.le_of_not_lt
def iK:=@Nat.gcd_dvd_left
def iL:=@List.take_append
def iM:=@List.map_toArray
def iN:=@Rat.zero_add
def iO:=@Rat.intCast_le_intCast
def iP:=@Nat.succ_pos
def iQ:=@Nat.lt_trans
def iR:=@Nat.mul_add_div
def iS:=@List.sum_append
def iT:=@List.range_succ
def iU:=@Nat.mul_mod_mul_right
def iV:=@Nat.div_lt_iff_lt_mul
def iW:=@Nat.add_mul_div_right
def iX:=@List.set_append_right
def iY:=@List.length_filter_le
def iZ:=@List.getElem?_toArray
def i2:=@Rat.mul_one
def i3:=@Rat.mul_nonneg
def i4:=@Go.Oper.upon_value
def i5:=@Nat.pow_one
def i6:=@List.mem_of_getElem?
def i7:=@Go.IntWalk.u64_quo
def i9:=@Int.natAbs_mul
def jf:=@Bool.false_and
def jg:=@Rat.mkRat_mul_right
def ji:=@Rat.le_iff_lt_or_eq
def jj:=@Nat.mul_div_cancel'
def jk:=@List.reverse_append
def jy:=@List.replicate_zero
def jA:=@List.prefix_append
def jB:=@List.map_singleton
def jC:=@List.getElem_range
def jD:=@List.getElem?_take
def jE:=@Int.natAbs_eq_zero
def jF:=@Bool.false_eq_true
def jG:=@List.set_eq_take_append_cons_drop
def jH:=@if_false
def jI:=@Go.getD_set_true
def jJ:=@Ne.symm
def jK:=@Nat.gcd_one_right
def jL:=@Nat.gcd_comm
def jM:=@List.take_succ_eq_append_getElem
def jN:=@List.reverse_cons
def jO:=@List.map_nil
def jP:=@List.ext_getElem?
def jQ:=@Int.emod_eq_of_lt
def jR:=@Nat.le_max_right
def jS:=@List.nodup_range
def jT:=@List.getElem_mem
def jU:=@List.getElem_inj
def jV:=@Int.neg_mul
def jW:=@UInt8.toNat_inj
def jX:=@Rat.natCast_pos
def jZ:=@Rat.intCast_sub
def j0:=@Nat.div_lt_self
def j1:=@List.zip_append
def j2:=@List.prefix_append_right_inj
def j3:=@List.length_zip
end Go
set_option maxRecDepth 20000
set_option maxHeartbeats 8000000
namespace Go
theorem jY {p : Prop} (h : p := by assumption) : p := h
theorem oO {p : Prop} (h : p := by omega) : p := h
theorem dD {p : Prop} (h : p := by decide) : p := h
theorem kR {p : Prop} (h : p := by kernel_rfl) : p := h
theorem jz {α : Type _} (a : α) : ∃ x, x = a := ⟨_, rfl⟩
structure Jh (p : Prop) : Prop where x : p
theorem dT {p : Prop} [Decidable p] (h : p := by omega) : decide p = true := ao h
theorem dF {p : Prop} [Decidable p] (h : ¬ p := by omega) : decide p = false := ae h
theorem dO {p : Prop} (h : p := by first | omega | (simp; done) | (simp; omega)) : p := h
theorem dL {p : Prop} (h : p := by first | omega | (simp only [bj, f9]; omega)) : p := h
theorem dM {m n : Nat} (h : Nat.ble m n = true := by exact rfl) : m ≤ n := eN h
end Go
namespace Go.Sx
open Go Go.RowKit
def lU (P:Program) (f:FuncId) (args:Array Value) (w:World) (R:Value->World->Prop):Prop:=
 Calls P f args w λe w'=>∃v,e= .returned v/\R v w'
theorem lU.mono {P:Program} {f:FuncId} {args:Array Value} {w:World} {R R':Value->World->Prop} (h:lU P f args w R) (hr:∀v w',R v w'->R' v w'):lU P f args w R':=
 Calls.mono h λ_ _ ⟨v,he,hR⟩=>⟨v,he,hr _ _ hR⟩
def SZ:List Value->Nat->Value
 | [],_=>undef
 |v::_,0=>v
 |_::l,n+1=>SZ l n
def WS (ρ:Nat->Value) (d:Nat) (v:Value):Nat->Value:=λt=>bif Nat.beq t d then v else ρ t
def sM (ρ:Nat->Value):Option Nat->Value->(Nat->Value)
 |some d,v=>WS ρ d v
 |none,_=>ρ
def act (N:Nat) (ρ:Nat->Value):Act:=⟨Array.ofFn (n:=N) λi=>ρ i.val,[]⟩
def ev (N:Nat) (ρ:Nat->Value):Operand->Value
 | .tmp t=>bif Nat.blt t N then ρ t else undef
 | .const v=>v
 | .global g=> .pointer (some ⟨g,0,none⟩)
 | .func f=> .func (.func f) #[] #[]
theorem nU (N:Nat) (ρ:Nat->Value) (t:Nat):(act N ρ).tmps.getD t undef=ev N ρ (.tmp t):=by
 simp only[act,ev];by_cases h:t<N
 ·have hb:Nat.blt t N=true:=by rw[gG];exact h
  simp[hb,Array.getD,h]
 ·have hb:Nat.blt t N=false:=by
   cases h':Nat.blt t N with
   |false=>rfl
   |true=>rw[gG]at h';exact absurd h' h
  simp[hb,Array.getD,h]
theorem ot (N:Nat) (ρ:Nat->Value):(act N ρ).eval=ev N ρ:=by
 funext x;cases x with
 |tmp t=>exact nU N ρ t
 |_=>rfl
theorem oX (N:Nat) (ρ:Nat->Value) (d:Option Tmp) (v:Value):(act N ρ).put d v=act N (sM ρ d v):=by
 cases d with
 |none=>rfl
 |some d=>
  simp only[Act.put,act,sM];congr 1;apply Array.ext
  ·simp
  ·intro i h1 h2;rw[Array.getElem_setIfInBounds (by simpa using h2)];simp only[Array.getElem_ofFn,WS];by_cases h:d=i
   ·subst h;simp
   ·have:Nat.beq i d=false:=by cases h':Nat.beq i d with|false=>rfl|true=>exact absurd (cI h').symm h
    simp[h,this]
theorem M2 (args:List Value) (N:Nat) (h:args.length<=N):
  (args.toArray++Array.replicate (N-args.toArray.size) undef)=Array.ofFn (n:=N) λi=>SZ args i.val:=by
 apply Array.ext
 ·simp;omega
 ·intro i h1 h2;have key:∀(l:List Value) (i:Nat) (_:i<l.length),SZ l i=l[i]:=by
   intro l;induction l with
   |nil=>intro i hi;simp at hi
   |cons a l ih=>intro i hi;cases i with
    |zero=>rfl
    |succ i=>simpa[SZ]using ih i (by simpa using hi)
  have key2:∀(l:List Value) (i:Nat) (_:l.length<=i),SZ l i=undef:=by
   intro l;induction l with
   |nil=>intro i hi;rfl
   |cons a l ih=>intro i hi;cases i with
    |zero=>simp at hi
    |succ i=>simpa[SZ]using ih i (by simpa using hi)
  by_cases hi:i<args.length
  ·rw[Array.getElem_append_left (by simpa using hi)];simp[key args i hi]
  ·rw[Array.getElem_append_right (by simpa using hi)];simp[key2 args i oO]
theorem enter {P:Program} {f:FuncId} {fn:Func} {c:Code} {N:Nat} {l:List Value} {w:World} {R:Value->World->Prop}
  (hf:P.funcs[f]?=some fn) (hb:fn.body=some c) (hN:fn.ntmps=N) (hl:Nat.ble l.length N=true)
  (h:c.wp P (bodyPost P fn λe w'=>∃v,e= .returned v/\R v w') (act N (SZ l)) w):lU P f l.toArray w R:=by
 subst hN;refine calls_of_wp hf hb ?_;rw[M2 l fn.ntmps (eN hl)];exact h
section
variable {P : Program} {N : Nat} {ρ : Nat → Value} {w : World} {Q : Exit → Act → World → Prop}
structure wl (P:Program) (ops:Array Oper) (Q:Exit->Act->World->Prop) (l:List Oper) (N:Nat) (ρ:Nat->Value) (w:World):Prop where
 out:wpList P ops Q l (act N ρ) w
theorem Ht {id:Nat} {l:List Oper} (h:wl P l.toArray Q l N ρ w):(Code.region id l.toArray false).wp P Q (act N ρ) w:=wp_region_lit h.out
theorem yY {x y:Code} {a:Act} (h:x.wp P (Exit.then (y.wp P Q) Q) a w):(Code.seq x y).wp P Q a w:=wp_seq h
theorem xw {id:Nat} {c:Code} {a:Act} (h:c.wp P (Exit.inBlock id Q) a w):(Code.block id c).wp P Q a w:=wp_block h
theorem ul {a:Act} (h:Q .normal a w):Code.skip.wp P Q a w:=wp_skip h
theorem K8 {a:Act} (h:Q .ret a w):Code.ret.wp P Q a w:=wp_ret h
theorem BT {id:Nat} {a:Act} (h:Q (.exit id) a w):(Code.exit id).wp P Q a w:=wp_exit h
theorem WH {c:Operand} {x y:Code} (p:Prop) [Decidable p] (hc:ev N ρ c= .bool (decide p)) (ht:p->x.wp P Q (act N ρ) w) (hf:¬p->y.wp P Q (act N ρ) w):
  (Code.cond c x y).wp P Q (act N ρ) w:=by
 refine wp_cond_split (t:=decide p) (by rw[ot];exact hc) (λh=>ht (gq h)) (λh=>hf (of_decide_eq_false h))
theorem k9 {c:Operand} {x y:Code} {b:Bool} (hc:ev N ρ c= .bool b) (hb:b=true) (h:x.wp P Q (act N ρ) w):
 (Code.cond c x y).wp P Q (act N ρ) w:=wp_cond_true (by rw[ot,hc,hb]) h
theorem lx {c:Operand} {x y:Code} {b:Bool} (hc:ev N ρ c= .bool b) (hb:b=false) (h:y.wp P Q (act N ρ) w):
 (Code.cond c x y).wp P Q (act N ρ) w:=wp_cond_false (by rw[ot,hc,hb]) h
theorem ku {σ:Type} {c:Code} (I:σ->(Nat->Value)->World->Prop) (μ:σ->Nat) (s₀:σ) (h₀:I s₀ ρ w)
  (round:∀s ρ w,I s ρ w->c.wp P (Exit.then (λa' w'=>∃s' ρ',a'=act N ρ'/\I s' ρ' w'/\μ s'<μ s) Q) (act N ρ) w):
  (Code.loop c).wp P Q (act N ρ) w:=by
 have key:∀n,∀s ρ w,μ s<=n->I s ρ w->∀(b:Frame) (k:List Item) (cs:List Frame),
   ∃e a' w',Q e a' w'/\Arrives P (lone (b.at (act N ρ) (.code c:: .inLoop c::k)) cs w) b k cs e a' w':=by
  intro n;induction n with
  |zero=>
   intro s ρ w hn hI b k cs;obtain⟨e,a₁,w₁,hq,harr⟩:=round s ρ w hI b (.inLoop c::k) cs;cases e with
   |normal=>obtain⟨s',ρ',_,_,hlt⟩:=hq;omega
   |exit id=>exact⟨_,a₁,w₁,hq,.pass (x:= .inLoop c) rfl (λ_ _=> .inl (by simp)) harr⟩
   |goto l=>exact⟨_,a₁,w₁,hq,.pass (x:= .inLoop c) rfl (λ_ _=> .inl (by simp)) harr⟩
   |ret=>exact⟨_,a₁,w₁,hq,.pass (x:= .inLoop c) rfl (λ_ _=> .inl (by simp)) harr⟩
   |panic ch=>exact⟨_,a₁,w₁,hq,.pass (x:= .inLoop c) rfl (λ_ _=> .inl (by simp)) harr⟩
   |outgrown=>exact⟨_,a₁,w₁,hq,.pass (x:= .inLoop c) rfl (λ_ _=> .inl (by simp)) harr⟩
  |succ n ih=>
   intro s ρ w hn hI b k cs;obtain⟨e,a₁,w₁,hq,harr⟩:=round s ρ w hI b (.inLoop c::k) cs;cases e with
   |normal=>
    obtain⟨s',ρ',rfl,hI',hlt⟩:=hq;obtain⟨e₂,a₂,w₂,hq₂,harr₂⟩:=ih s' ρ' w₁ oO hI' b k cs;exact⟨e₂,a₂,w₂,hq₂,.of_steps (Steps.trans harr (.one step_inLoop)) harr₂⟩
   |exit id=>exact⟨_,a₁,w₁,hq,.pass (x:= .inLoop c) rfl (λ_ _=> .inl (by simp)) harr⟩
   |goto l=>exact⟨_,a₁,w₁,hq,.pass (x:= .inLoop c) rfl (λ_ _=> .inl (by simp)) harr⟩
   |ret=>exact⟨_,a₁,w₁,hq,.pass (x:= .inLoop c) rfl (λ_ _=> .inl (by simp)) harr⟩
   |panic ch=>exact⟨_,a₁,w₁,hq,.pass (x:= .inLoop c) rfl (λ_ _=> .inl (by simp)) harr⟩
   |outgrown=>exact⟨_,a₁,w₁,hq,.pass (x:= .inLoop c) rfl (λ_ _=> .inl (by simp)) harr⟩
 intro b k cs;obtain⟨e,a',w',hq,harr⟩:=key _ s₀ ρ w (aH _) h₀ b k cs;exact⟨e,a',w',hq,.of_steps (.one step_loop) harr⟩
theorem kx {x:Code} (M:(Nat->Value)->World->Prop) (hx:x.wp P (Exit.then (λa' w'=>∃ρ',a'=act N ρ'/\M ρ' w') Q) (act N ρ) w)
  (hy:∀ρ w,M ρ w->Q .normal (act N ρ) w):x.wp P Q (act N ρ) w:=by
 refine Code.wp_mono (λe a w h=> ?_) hx;cases e<;>first|exact h|(obtain⟨ρ',rfl,hM⟩:=h;exact hy _ _ hM)
theorem uw {a:Act} {K:Act->World->Prop} (h:K a w):Exit.then K Q .normal a w:=h
theorem pw {a:Act} {K:Act->World->Prop} (h:Q .ret a w):Exit.then K Q .ret a w:=h
theorem oI {a:Act} {K:Act->World->Prop} {i:Nat} (h:Q (.exit i) a w):Exit.then K Q (.exit i) a w:=h
theorem tj {id:Nat} {a:Act} (h:Q .normal a w):Exit.inBlock id Q .normal a w:=h
theorem oG {id:Nat} {a:Act} (h:Q .ret a w):Exit.inBlock id Q .ret a w:=h
theorem n9 {id:Nat} {a:Act} (h:Q .normal a w):Exit.inBlock id Q (.exit id) a w:=by simp only[Exit.inBlock,gZ];exact h
theorem n8 {id i:Nat} {a:Act} (hi:Nat.beq i id=false) (h:Q (.exit i) a w):Exit.inBlock id Q (.exit i) a w:=by
 have:¬i=id:=λe=>by subst e;simp at hi
 simp only[Exit.inBlock,this,jH];exact h
theorem kB {fn:Func} {t:Nat} {R:Value->World->Prop} {v:Value} (hr:fn.results= #[.tmp t]) (hv:ev N ρ (.tmp t)=v) (h:R v w):
  bodyPost P fn (λe w'=>∃v,e= .returned v/\R v w') .ret (act N ρ) w:=
 gB (results_tmp hr _ _ _) rfl ⟨_,rfl,by rw[nU,hv];exact h⟩
theorem rD {fn:Func} {t u:Nat} {R:Value->World->Prop} {x y:Value} (hr:fn.results= #[.tmp t,.tmp u]) (hx:ev N ρ (.tmp t)=x) (hy:ev N ρ (.tmp u)=y) (h:R (.tuple #[x,y]) w):
  bodyPost P fn (λe w'=>∃v,e= .returned v/\R v w') .ret (act N ρ) w:=
 gB (results_tmp2 hr _ _ _) rfl ⟨_,rfl,by rw[nU,nU,hx,hy];exact h⟩
theorem pU {fn:Func} {R:Value->World->Prop} (hr:fn.results= #[]) (h:R (.tuple #[]) w):
  bodyPost P fn (λe w'=>∃v,e= .returned v/\R v w') .normal (act N ρ) w:=
 bodyPost_end (results_none hr _ _ _) rfl ⟨_,rfl,h⟩
end
def gd (ops:Array Oper) (N:Nat) (ρ:Nat->Value):Option (Nat×Bool)->Bool
 |none=>true
 |some (j,b)=>match(ops[j]?).bind (·.dst)with
  |some d=>match ev N ρ (.tmp d)with
   | .bool c=>c==b
   |_=>false
  |none=>false
theorem oD (ops:Array Oper) (N:Nat) (ρ:Nat->Value) (o:Oper) (h:gd ops N ρ o.guard=true):Region.wanted o (yielded ops (act N ρ).tmps)=true:=by
 unfold Region.wanted;cases hg:o.guard with
 |none=>rfl
 |some p=>
  obtain⟨j,b⟩:=p;rw[hg]at h;simp only[gd]at h;simp only;split at h
  ·rename_i d hd;have ht:=nU N ρ d;split at h
   ·rename_i c hc;rw[hc]at ht;have hq:(act N ρ).tmps[d]?=some (.bool c):=by
     rw[Array.getD_eq_getD_getElem?]at ht;cases hx:(act N ρ).tmps[d]?with
     |none=>rw[hx]at ht;exact absurd ht (by simp[undef])
     |some x=>rw[hx]at ht;simpa using ht
    unfold yielded;rw[hd];simp only[Option.bind_some,hq];simpa using h
   ·cases h
  ·cases h
def SE (ops:Array Oper) (N:Nat) (ρ:Nat->Value):Option (Nat×Bool)->Bool
 |none=>false
 |some (j,b)=>match(ops[j]?).bind (·.dst)with
  |some d=>match ev N ρ (.tmp d)with
   | .bool c=>c !=b
   |_=>true
  |none=>false
theorem C6 (ops:Array Oper) (N:Nat) (ρ:Nat->Value) (o:Oper) (h:SE ops N ρ o.guard=true):Region.wanted o (yielded ops (act N ρ).tmps)=false:=by
 unfold Region.wanted;cases hg:o.guard with
 |none=>rw[hg]at h;cases h
 |some p=>
  obtain⟨j,b⟩:=p;rw[hg]at h;simp only[SE]at h;simp only;split at h
  ·rename_i d hd;have ht:=nU N ρ d;unfold yielded;rw[hd];simp only[Option.bind_some];cases hx:(act N ρ).tmps[d]?with
   |none=>rfl
   |some x=>
    rw[Array.getD_eq_getD_getElem?,hx]at ht;simp only[fc]at ht;rw[<-ht]at h;cases x with
    |bool c=>
     simp only at h;cases c<;>cases b<;>simp_all
    |_=>rfl
  ·cases h
theorem j7 {ops:Array Oper} {N:Nat} {ρ:Nat->Value} {j:Nat} {b c:Bool} (d:Nat) (hd:(ops[j]?).bind (·.dst)=some d) (hv:ev N ρ (.tmp d)= .bool c) (hc:c=b):gd ops N ρ (some (j,b))=true:=by
 simp only[gd,hd,hv,hc,beq_self_eq_true]
theorem ka {ops:Array Oper} {N:Nat} {ρ:Nat->Value} {j:Nat} {b c:Bool} (d:Nat) (hd:(ops[j]?).bind (·.dst)=some d) (hv:ev N ρ (.tmp d)= .bool c) (hc:c= !b):SE ops N ρ (some (j,b))=true:=by
 simp only[SE,hd,hv,hc];cases b<;>rfl
theorem qy {ops:Array Oper} {N:Nat} {ρ:Nat->Value} {j:Nat} {b:Bool} (d:Nat) (hd:(ops[j]?).bind (·.dst)=some d) (hv:ev N ρ (.tmp d)=undef):SE ops N ρ (some (j,b))=true:=by
 simp only[SE,hd,hv,undef]
theorem vb {v:Value} {c b:Bool} (h:v= .bool c) (hc:c=b):v= .bool b:=by rw[h,hc]
theorem vi {v:Value} {k:IntKind} {m n:Int} (h:v= .int k m) (hc:m=n):v= .int k n:=by rw[h,hc]
theorem vs {v:Value} {s s':ByteArray} (h:v= .string s) (hc:s=s'):v= .string s':=by rw[h,hc]
section
variable {P : Program} {N : Nat} {ρ : Nat → Value} {w w' : World} {Q : Exit → Act → World → Prop} {ops : Array Oper} {rest : List Oper}
  {d : Option Tmp} {ty : TypeId} {pos : String} {aft : Array Edge} {g : Option (Nat × Bool)} {x y z : Operand}
theorem y6 (h:Q .normal (act N ρ) w):wl P ops Q [] N ρ w:=⟨wpList_nil h⟩
def lX (P:Program) (N:Nat) (ρ:Nat->Value) (o:Oper) (K:Value->Prop):Prop:=∃v,(∀w,(execOp (ev N ρ) o).run P w= .ok (.value v) w)/\K v
def qN (P:Program) (N:Nat) (ρ:Nat->Value) (w:World) (o:Oper) (K:Value->Prop):Prop:=
 ∃v,(∀w',Below w.heap.size w w'->(execOp (ev N ρ) o).run P w'= .ok (.value v) w')/\K v
def HP (P:Program) (K:Value->World->Prop):Result Next->Prop
 | .ok (.value v) w'=>K v w'
 | .ok .skip w'=>K undef w'
 | .ok (.enter f args) w'=>lU P f args w' K
 |_=>False
structure pd (P:Program) (N:Nat) (ρ:Nat->Value) (w:World) (o:Oper) (K:Value->World->Prop):Prop where
 out:HP P K ((execOp (ev N ρ) o).run P w)
theorem oq {K K':Value->World->Prop} (hk:∀v w,K v w->K' v w) {r:Result Next} (h:HP P K r):HP P K' r:=by
 cases r with
 |ok n w'=>cases n<;>first|exact hk _ _ h|exact lU.mono h hk|exact h.elim
 |halt x w'=>exact h.elim
theorem pj {p:Op} (hg:gd ops N ρ g=true) (h:pd P N ρ w ⟨d,p,ty,pos,aft,g⟩ λv w'=>wl P ops Q rest N (sM ρ d v) w'):wl P ops Q (⟨d,p,ty,pos,aft,g⟩::rest) N ρ w:=by
 constructor;unfold wpList;rw[aj (oD ops N ρ ⟨d,p,ty,pos,aft,g⟩ hg)];refine .inl ?_;unfold Oper.wp;rw[ot];have h:=h.out;generalize (execOp (ev N ρ) ⟨d,p,ty,pos,aft,g⟩).run P w=r at*;cases r with
 |halt x w'=>exact h.elim
 |ok n w'=>
  cases n with
  |value v=>rw[i4,oX];exact wl.out h
  |skip=>rw[Oper.upon_skip,oX];exact wl.out h
  |enter f args=>
   rw[Oper.upon_enter];refine Calls.mono h ?_;rintro e w1 ⟨v,rfl,hR⟩;simp only[oX];exact wl.out hR
  |_=>exact h.elim
theorem lj {p:Op} (hg:gd ops N ρ g=true) (h:qN P N ρ w ⟨d,p,ty,pos,aft,g⟩ λv=>wl P ops Q rest N (sM ρ d v) w):wl P ops Q (⟨d,p,ty,pos,aft,g⟩::rest) N ρ w:=by
 obtain⟨v,hv,hK⟩:=h;refine pj hg ⟨?_⟩;rw[hv w (Below.refl _ _)];exact hK
theorem ke {p:Op} (hg:gd ops N ρ g=true) (h:lX P N ρ ⟨d,p,ty,pos,aft,g⟩ λv=>wl P ops Q rest N (sM ρ d v) w):wl P ops Q (⟨d,p,ty,pos,aft,g⟩::rest) N ρ w:=by
 obtain⟨v,hv,hK⟩:=h;exact lj hg ⟨v,λw' _=>hv w',hK⟩
theorem kL {p:Op} (hg:SE ops N ρ g=true) (h:wl P ops Q rest N (sM ρ d undef) w):wl P ops Q (⟨d,p,ty,pos,aft,g⟩::rest) N ρ w:=by
 constructor;unfold wpList;rw[ah (by rw[C6 ops N ρ ⟨d,p,ty,pos,aft,g⟩ hg];decide),oX];exact h.out
variable {K : Value → Prop} {K2 : Value → World → Prop}
theorem nX {o:Oper} {v:Value} (hr:(execOp (ev N ρ) o).run P w= .ok (.value v) w') (h:K2 v w'):pd P N ρ w o K2:=⟨by rw[hr];exact h⟩
theorem AJ {o:Oper} (hr:(execOp (ev N ρ) o).run P w= .ok .skip w') (h:K2 undef w'):pd P N ρ w o K2:=⟨by rw[hr];exact h⟩
theorem j6 {f:FuncId} {xs:List Operand} {ats:Array TypeId} {args:List Value} {R:Value->World->Prop}
  (hcall:∀args w,(callFunc f args).run P w= .ok (.enter f args) w) (hargs:xs.map (ev N ρ)=args)
  (hc:lU P f args.toArray w R) (h:∀v w',R v w'->K2 v w'):
  pd P N ρ w ⟨d,.call ⟨.value (.func f),xs.toArray,ats⟩,ty,pos,aft,g⟩ K2:=by
 have hr:(execOp (ev N ρ) ⟨d,.call ⟨.value (.func f),xs.toArray,ats⟩,ty,pos,aft,g⟩).run P w= .ok (.enter f args.toArray) w:=by
  have:=hcall args.toArray w;simp only[execOp,resolve,ev,Deferred.ofValue,invoke,iM,hargs,dP,io,dp,Array.empty_append,Array.append_empty];exact this
 constructor;rw[hr];exact hc.mono h
theorem zF {f:FuncId} {t:Nat} {cap:List Value} {xs:List Operand} {ats:Array TypeId} {args:List Value} {R:Value->World->Prop}
  (hcall:∀args w,(callFunc f args).run P w= .ok (.enter f args) w) (hf:ev N ρ (.tmp t)= .func (.func f) #[] cap.toArray) (hargs:xs.map (ev N ρ)++cap=args)
  (hc:lU P f args.toArray w R) (h:∀v w',R v w'->K2 v w'):
  pd P N ρ w ⟨d,.call ⟨.value (.tmp t),xs.toArray,ats⟩,ty,pos,aft,g⟩ K2:=by
 have hr:(execOp (ev N ρ) ⟨d,.call ⟨.value (.tmp t),xs.toArray,ats⟩,ty,pos,aft,g⟩).run P w= .ok (.enter f args.toArray) w:=by
  have:=hcall args.toArray w;simp only[execOp,resolve,hf,Deferred.ofValue,invoke,iM,dP,io,dp,List.append_toArray,ca,hargs];exact this
 constructor;rw[hr];exact hc.mono h
theorem ko {v:Value} (hx:ev N ρ x=v) (h:K v):lX P N ρ ⟨d,.move x,ty,pos,aft,g⟩ K:=
 ⟨_,λw=>(by simp[execOp,hx]),h⟩
theorem oe {v:Value} (hx:ev N ρ x=v) (h:K v):lX P N ρ ⟨d,.assign x,ty,pos,aft,g⟩ K:=
 ⟨_,λw=>(by simp[execOp,hx]),h⟩
theorem kA {v:Value} {b:Bool} (hx:ev N ρ x= .bool b) (hv:(bif b then ev N ρ y else ev N ρ z)=v) (h:K v):
  lX P N ρ ⟨d,.pick x y z,ty,pos,aft,g⟩ K:=
 ⟨_,λw=>(by subst hv;cases b<;>simp[execOp,hx,asBool]),h⟩
theorem wn {i:Nat} {vs:Array Value} {v:Value} (hx:ev N ρ x= .tuple vs) (hv:vs[i]?=some v) (h:K v):
  lX P N ρ ⟨d,.extract x i,ty,pos,aft,g⟩ K:=
 ⟨_,λw=>(by simp[execOp,hx,Instr.extract,hv]),h⟩
theorem U9 {fn:Fn} {fs cs:List Operand} {vf vc:List Value} (hf:fs.map (ev N ρ)=vf) (hc:cs.map (ev N ρ)=vc) (h:K (.func fn vf.toArray vc.toArray)):
  lX P N ρ ⟨d,.makeFunc fn fs.toArray cs.toArray,ty,pos,aft,g⟩ K:=
 ⟨_,λw=>(by simp[execOp,hf,hc,Instr.makeFunc]),h⟩
variable {k k' : IntKind} {m n r : Int} {t t' : TypeId}
theorem oU (hx:ev N ρ x= .int k m) (hy:ev N ρ y= .int k n) (hr:k.wrap (m+n)=r) (h:K (.int k r)):
  lX P N ρ ⟨d,.binOp .add t x y t',ty,pos,aft,g⟩ K:=
 ⟨_,λw=>(by simp[execOp,hx,hy,eqGuard,binOp,Op.intArith,hr]),h⟩
theorem sk (hx:ev N ρ x= .int k m) (hy:ev N ρ y= .int k n) (hr:k.wrap (m-n)=r) (h:K (.int k r)):
  lX P N ρ ⟨d,.binOp .sub t x y t',ty,pos,aft,g⟩ K:=
 ⟨_,λw=>(by simp[execOp,hx,hy,eqGuard,binOp,Op.intArith,hr]),h⟩
theorem wk (hx:ev N ρ x= .int k m) (hy:ev N ρ y= .int k n) (hr:k.wrap (m*n)=r) (h:K (.int k r)):
  lX P N ρ ⟨d,.binOp .mul t x y t',ty,pos,aft,g⟩ K:=
 ⟨_,λw=>(by simp[execOp,hx,hy,eqGuard,binOp,Op.intArith,hr]),h⟩
theorem rL (hx:ev N ρ x= .int k m) (hy:ev N ρ y= .int k n) (hn:n≠0) (hr:k.wrap (m.tdiv n)=r) (h:K (.int k r)):
  lX P N ρ ⟨d,.binOp .quo t x y t',ty,pos,aft,g⟩ K:=
 ⟨_,λw=>(by simp[execOp,hx,hy,eqGuard,binOp,Op.intDiv,hn,hr]),h⟩
theorem pC (hx:ev N ρ x= .int k m) (hy:ev N ρ y= .int k n) (hn:n≠0) (hr:m.tmod n=r) (h:K (.int k r)):
  lX P N ρ ⟨d,.binOp .rem t x y t',ty,pos,aft,g⟩ K:=
 ⟨_,λw=>(by simp[execOp,hx,hy,eqGuard,binOp,Op.intDiv,hn,hr]),h⟩
theorem uS (hx:ev N ρ x= .int k m) (hy:ev N ρ y= .int k' n) (hn:0<=n) (hr:k.wrap (m*2^(min n.toNat k.bits))=r) (h:K (.int k r)):
  lX P N ρ ⟨d,.binOp .shl t x y t',ty,pos,aft,g⟩ K:=
 ⟨_,λw=>(by simp[execOp,hx,hy,eqGuard,binOp,Op.shift,Int.not_lt.2 hn,hr]),h⟩
theorem pW (hx:ev N ρ x= .int k m) (hy:ev N ρ y= .int k' n) (hn:0<=n) (hr:m.fdiv (2^(min n.toNat k.bits))=r) (h:K (.int k r)):
  lX P N ρ ⟨d,.binOp .shr t x y t',ty,pos,aft,g⟩ K:=
 ⟨_,λw=>(by simp[execOp,hx,hy,eqGuard,binOp,Op.shift,Int.not_lt.2 hn,hr]),h⟩
def pM (op:BinOp) (k:IntKind) (x y:Int):Int:=
 let a:=BitVec.ofInt k.bits x
 let b:=BitVec.ofInt k.bits y
 k.wrap (match op with
 | .and=>(a&&&b).toNat
 | .or=>(a|||b).toNat
 | .xor=>(a^^^b).toNat
 |_=>(a&&& ~~~b).toNat)
theorem DI (hx:ev N ρ x= .int k m) (hy:ev N ρ y= .int k n) (hr:pM .and k m n=r) (h:K (.int k r)):
  lX P N ρ ⟨d,.binOp .and t x y t',ty,pos,aft,g⟩ K:=
 ⟨_,λw=>(by subst hr;simp[execOp,hx,hy,eqGuard,binOp,Op.intBits,pM]),h⟩
theorem zt (hx:ev N ρ x= .int k m) (hy:ev N ρ y= .int k n) (hr:pM .or k m n=r) (h:K (.int k r)):
  lX P N ρ ⟨d,.binOp .or t x y t',ty,pos,aft,g⟩ K:=
 ⟨_,λw=>(by subst hr;simp[execOp,hx,hy,eqGuard,binOp,Op.intBits,pM]),h⟩
theorem VT (hx:ev N ρ x= .int k m) (hy:ev N ρ y= .int k n) (hr:pM .xor k m n=r) (h:K (.int k r)):
  lX P N ρ ⟨d,.binOp .xor t x y t',ty,pos,aft,g⟩ K:=
 ⟨_,λw=>(by subst hr;simp[execOp,hx,hy,eqGuard,binOp,Op.intBits,pM]),h⟩
theorem wm (hx:ev N ρ x= .int k m) (hy:ev N ρ y= .int k n) (h:K (.bool (decide (m<n)))):
  lX P N ρ ⟨d,.binOp .lss t x y t',ty,pos,aft,g⟩ K:=
 ⟨_,λw=>(by simp[execOp,hx,hy,eqGuard,binOp,Op.intCmp]),h⟩
theorem Sf (hx:ev N ρ x= .int k m) (hy:ev N ρ y= .int k n) (h:K (.bool (decide (m<=n)))):
  lX P N ρ ⟨d,.binOp .leq t x y t',ty,pos,aft,g⟩ K:=
 ⟨_,λw=>(by simp[execOp,hx,hy,eqGuard,binOp,Op.intCmp]),h⟩
theorem t5 (hx:ev N ρ x= .int k m) (hy:ev N ρ y= .int k n) (h:K (.bool (decide (n<m)))):
  lX P N ρ ⟨d,.binOp .gtr t x y t',ty,pos,aft,g⟩ K:=
 ⟨_,λw=>(by simp[execOp,hx,hy,eqGuard,binOp,Op.intCmp]),h⟩
theorem yX (hx:ev N ρ x= .int k m) (hy:ev N ρ y= .int k n) (h:K (.bool (decide (n<=m)))):
  lX P N ρ ⟨d,.binOp .geq t x y t',ty,pos,aft,g⟩ K:=
 ⟨_,λw=>(by simp[execOp,hx,hy,eqGuard,binOp,Op.intCmp]),h⟩
theorem qV (hx:ev N ρ x= .int k m) (hy:ev N ρ y= .int k n) (h:K (.bool (decide (m=n)))):
  lX P N ρ ⟨d,.binOp .eql t x y t',ty,pos,aft,g⟩ K:=
 ⟨.bool (decide (m=n)),λw=>(by
  have:(m==n)=decide (m=n):=rfl;simp[execOp,hx,hy,eqGuard,binOp,Op.intCmp,this]),h⟩
theorem yI (hx:ev N ρ x= .int k m) (hy:ev N ρ y= .int k n) (h:K (.bool (decide (m≠n)))):
  lX P N ρ ⟨d,.binOp .neq t x y t',ty,pos,aft,g⟩ K:=
 ⟨.bool (decide (m≠n)),λw=>(by
  have:(m !=n)=decide (m≠n):=by rw[gg];simp
  simp[execOp,hx,hy,eqGuard,binOp,Op.intCmp,this]),h⟩
theorem kH (hx:ev N ρ x= .int k m) (hk:P.underlying t'=some (.int k')) (hs:∃e,P.underlying t=some e) (hr:k'.wrap m=r) (h:K (.int k' r)):
  lX P N ρ ⟨d,.convert t t' x,ty,pos,aft,g⟩ K:=by
 obtain⟨e,he⟩:=hs;refine⟨_,λw=> ?_,h⟩;subst hr;simp[execOp,hx,convert,underlying,he,hk,Conv.intToInt]
theorem xU {b:Bool} (hx:ev N ρ x= .bool b) (h:K (.bool !b)):
  lX P N ρ ⟨d,.unOp .not t x,ty,pos,aft,g⟩ K:=
 ⟨_,λw=>(by simp[execOp,hx,Op.unary]),h⟩
theorem NB (hx:ev N ρ x= .int k m) (hr:k.wrap (0-m)=r) (h:K (.int k r)):
  lX P N ρ ⟨d,.unOp .neg t x,ty,pos,aft,g⟩ K:=
 ⟨_,λw=>(by subst hr;simp[execOp,hx,Op.unary,Op.intArith]),h⟩
theorem Sm (hx:ev N ρ x= .int k m) (hr:pM .xor k (if k.signed then-1 else k.max) m=r) (h:K (.int k r)):
  lX P N ρ ⟨d,.unOp .xor t x,ty,pos,aft,g⟩ K:=
 ⟨_,λw=>(by subst hr;simp[execOp,hx,Op.unary,Op.intBits,pM]),h⟩
theorem US {b c:Bool} (hx:ev N ρ x= .bool b) (hy:ev N ρ y= .bool c) (ht:P.underlying t=some .bool) (h:K (.bool (b==c))):
  lX P N ρ ⟨d,.binOp .eql t x y t',ty,pos,aft,g⟩ K:=
 ⟨_,λw=>(by simp[execOp,hx,hy,eqGuard,run_eql_bool w t b c ht]),h⟩
theorem Cd {b c:Bool} (hx:ev N ρ x= .bool b) (hy:ev N ρ y= .bool c) (ht:P.underlying t=some .bool) (h:K (.bool (b !=c))):
  lX P N ρ ⟨d,.binOp .neq t x y t',ty,pos,aft,g⟩ K:=
 ⟨.bool (!(b==c)),λw=>(by simp[execOp,hx,hy,eqGuard,run_neq_bool w t b c ht,-bne_iff_ne,-Bool.not_eq_eq_eq_not]),h⟩
variable {s s' : ByteArray}
theorem Oe (s s':ByteArray):(s.toList==s'.toList)=decide (s=s'):=by
 rw[gg];simp only[beq_iff_eq,fP];constructor
 ·intro h;cases s;cases s'
  rename_i a b;rw[ByteArray.toList_eq,ByteArray.toList_eq]at h;congr 1;exact Array.ext' h
 ·rintro rfl;rfl
theorem sW (hx:ev N ρ x= .string s) (hy:ev N ρ y= .string s') (h:K (.bool (decide (s=s')))):
  lX P N ρ ⟨d,.binOp .eql t x y t',ty,pos,aft,g⟩ K:=
 ⟨_,λw=>(by simp only[execOp,hx,hy,eqGuard,binOp,Op.stringOp,Oe];simp),h⟩
theorem wh (hx:ev N ρ x= .string s) (hy:ev N ρ y= .string s') (h:K (.bool (decide (s≠s')))):
  lX P N ρ ⟨d,.binOp .neq t x y t',ty,pos,aft,g⟩ K:=
 ⟨.bool (decide (s≠s')),λw=>(by simp only[execOp,hx,hy,eqGuard,binOp,Op.stringOp,Oe];simp),h⟩
theorem Px (hx:ev N ρ x= .string s) (ht:P.underlying t=some .string) (h:K (.int .i64 s.size)):
  lX P N ρ ⟨d,.call ⟨.builtin .len,#[x],#[t]⟩,ty,pos,aft,g⟩ K:=
 ⟨_,λw=>(by simp[execOp,resolve,invoke,builtin,hx,Builtin.len_,underlying,ht,goInt]),h⟩
theorem wA {i:Nat} (hx:ev N ρ x= .string s) (hy:ev N ρ y= .int k m) (hm:m=(i:Int)) (hi:i<s.size) (ht:P.underlying t=some .string)
  (h:K (.int .u8 (s[i]'hi).toNat)):
  lX P N ρ ⟨d,.index t x y,ty,pos,aft,g⟩ K:=by
 subst hm;refine⟨_,λw=> ?_,h⟩;have h1:s[i]?=some (s[i]'hi):=by simp[hi]
 simp[execOp,hx,hy,Instr.index,asIntOf,underlying,ht,h1]
theorem EY {lo:Nat} {kl:IntKind} {ml:Int} (hx:ev N ρ x= .string s) (hl:ev N ρ y= .int kl ml) (hml:ml=(lo:Int))
  (h1:lo<=s.size) (ht:P.underlying t=some .string) (h:K (.string (s.extract lo s.size))):
  lX P N ρ ⟨d,.slice t x (some y) none none,ty,pos,aft,g⟩ K:=by
 subst hml;refine⟨_,λw=> ?_,h⟩;simp[execOp,hx,hl,Instr.sliceAt,Instr.slice,Instr.sliceBounds,Instr.sliceBound,asIntOf,underlying,ht,h1]
end
theorem add_lit (b o n:Nat):(⟨b,o,none⟩:Addr).add n=⟨b,o+n,none⟩:=by unfold Addr.add;split<;>simp_all
theorem add_zero (a:Addr):a.add 0=a:=by simp[Addr.add]
def At (w:World) (a:Addr) (cs:List Value):Prop:=∀j u,cs[j]?=some u->w.cell? (a.add j)=some u
theorem At.j4 {w w':World} {a:Addr} {cs:List Value} (h:At w a cs) (hb:Below w.heap.size w w'):At w' a cs:=λj u hu=>by
 have h1:=h j u hu;rw[hb.cell (by have:=World.block_lt_of_cell? w _ h1;exact this)];exact h1
theorem At.one {w:World} {a:Addr} {u:Value} (h:w.cell? a=some u):At w a [u]:=λj v hv=>by
 cases j with
 |zero=>simp at hv;subst hv;rw[add_zero];exact h
 |succ j=>simp at hv
theorem At.head {w:World} {a:Addr} {u:Value} {cs:List Value} (h:At w a (u::cs)):w.cell? a=some u:=by
 have:=h 0 u rfl;rwa[add_zero]at this
theorem At.seg {w:World} {b o:Nat} {cs:List Value} (h:At w ⟨b,o,none⟩ cs) (k n:Nat):At w ⟨b,o+k,none⟩ ((cs.drop k).take n):=λj u hu=>by
 rw[add_lit];have h2:cs[k+j]?=some u:=by
  rw[jD]at hu;split at hu
  ·rw[List.getElem?_drop]at hu;exact hu
  ·cases hu
 have:=h (k+j) u h2;rw[add_lit]at this;rw[dU];exact this
theorem At.of_heap {w:World} {b:Nat} {cs:List Value} {t:TypeId} {fr:Nat×Nat} (h:w.heap[b]?=some (.cells cs.toArray t fr)) (k n:Nat):At w ⟨b,k,none⟩ ((cs.drop k).take n):=by
 have:At w ⟨b,0,none⟩ cs:=λj u hu=>by
  rw[add_lit,cell_of_row w b _ cs.toArray t fr h];simpa using hu
 have h2:=this.seg k n;simpa using h2
def tB:Value->Addr
 | .slice (some a) _ _=>a
 |_=>⟨0,0,none⟩
structure Sl {α:Type} (enc:α->List Value) (size:Nat) (w:World) (v:Value) (L:List α):Prop where
 form:∃a cap,v= .slice a L.length cap/\L.length<=cap/\cap<=maxLen/\(a=none->cap=0)
 elt:∀i (h:i<L.length),At w ((tB v).add (i*size)) (enc L[i])
section
variable {α : Type} {enc : α → List Value} {size : Nat} {w w' : World} {v : Value} {L : List α}
theorem Sl.j4 (h:Sl enc size w v L) (hb:Below w.heap.size w w'):Sl enc size w' v L:=⟨h.form,λi hi=>(h.elt i hi).j4 hb⟩
theorem Sl.maxLen (h:Sl enc size w v L):L.length<=9223372036854775807:=by
 obtain⟨a,cap,_,h1,h2,_⟩:=h.form;unfold Go.maxLen at h2;omega
theorem Sl.at (h:Sl enc size w v L) {i:Nat} (hi:i<L.length) (d:α):At w ((tB v).add (i*size)) (enc (L.getD i d)):=by
 have:=h.elt i hi;simpa[List.getD,hi]using this
theorem Sl.nil (enc:α->List Value) (size:Nat) (w:World):Sl enc size w (.slice none 0 0) []:=⟨⟨none,0,rfl,aH _,aB _,λ_=>rfl⟩,λi hi=>by simp at hi⟩
theorem flat_get (hu:∀x,(enc x).length=size) (L:List α) (i j:Nat) (hi:i<L.length) (hj:j<size):(L.flatMap enc)[i*size+j]?=(enc L[i])[j]?:=by
 induction L generalizing i with
 |nil=>simp at hi
 |cons x L ih=>
  cases i with
  |zero=>
   rw[cB,fp,bZ,dq (by rw[hu];exact hj)];rfl
  |succ i=>
   rw[cB,cZ (by rw[hu,bA];omega),hu,bA];rw[show i*size+1*size+j-size=i*size+j by omega,ih i (by simpa using hi)];rfl
theorem lS (hu:∀x,(enc x).length=size) (L:List α):(L.flatMap enc).length=L.length*size:=by
 induction L with
 |nil=>simp
 |cons x L ih=>rw[cB,aG,hu,ih,bj,bA];omega
theorem Sl.of_heap {b:Nat} {t:TypeId} {fr:Nat×Nat} {spare:List Value} {cap:Nat} (hu:∀x,(enc x).length=size)
  (h:w.heap[b]?=some (.cells (L.flatMap enc++spare).toArray t fr)) (h1:L.length<=cap) (h2:cap<=Go.maxLen):Sl enc size w (.slice (some ⟨b,0,none⟩) L.length cap) L:=by
 refine⟨⟨some ⟨b,0,none⟩,cap,rfl,h1,h2,λh=>by cases h⟩,λi hi j u hj=> ?_⟩;have hj':j<size:=by
  have:=(dN.1 hj).1;rwa[hu]at this
 rw[show tB (.slice (some ⟨b,0,none⟩) L.length cap)=⟨b,0,none⟩from rfl,add_lit,add_lit,cell_of_row w b _ _ t fr h];have hlt:i*size+j<(L.flatMap enc).length:=by
  rw[lS hu];have:(i+1)*size<=L.length*size:=aO _ hi;rw[bA]at this;omega
 simp only[iZ,bZ];rw[dq hlt,flat_get hu L i j hi hj'];exact hj
end
abbrev kU:=Nat×TypeId×List Value
structure St (w0 w:World) (H:List kU):Prop where
 j4:Below w0.heap.size w0 w
 own:∀e∈H,w0.heap.size<=e.1/\w.heap[e.1]?=some (.cells e.2.2.toArray e.2.1 (0,0))
 nd:(H.map (·.1)).Nodup
section
variable {w0 w w' : World} {H H' : List kU} {b k : Nat} {t : TypeId} {cs : List Value}
theorem St.init (w:World):St w w []:=⟨Below.refl _ _,λe he=>(by cases he),List.Pairwise.nil⟩
theorem St.lt (h:St w0 w H) {e:kU} (he:e∈H):e.1<w.heap.size:=(ik.1 (h.own e he).2).1
theorem St.get (h:St w0 w H) (hk:H[k]?=some (b,t,cs)):w.heap[b]?=some (.cells cs.toArray t (0,0)):=(h.own _ (i6 hk)).2
theorem St.ge (h:St w0 w H) (hk:H[k]?=some (b,t,cs)):w0.heap.size<=b:=(h.own _ (i6 hk)).1
theorem St.at (h:St w0 w H) (hk:H[k]?=some (b,t,cs)) (o n:Nat):At w ⟨b,o,none⟩ ((cs.drop o).take n):=At.of_heap (h.get hk) o n
theorem St.km (h:St w0 w H) (hb:Below w.heap.size w w'):St w0 w' H:=
 ⟨h.j4.trans (hb.mono h.j4.size),λe he=>⟨(h.own e he).1,by rw[hb.block _ (h.lt he)];exact(h.own e he).2⟩,h.nd⟩
theorem St.push (h:St w0 w H) (hb:Below w.heap.size w w') (hge:w.heap.size<=b) (hc:w'.heap[b]?=some (.cells cs.toArray t (0,0))):St w0 w' ((b,t,cs)::H):=by
 have h':=h.km hb;refine⟨h'.j4,λe he=> ?_,?_⟩
 ·rcases bJ.1 he with rfl|he
  ·exact⟨dx h.j4.size hge,hc⟩
  ·exact h'.own e he
 ·rw[db,gV];refine⟨λhm=> ?_,h.nd⟩;obtain⟨e,he,hee⟩:=bX.1 hm;have:=h.lt he;have hee':e.1=b:=hee;omega
theorem St.drop (h:St w0 w H) (hs:H'.Sublist H):St w0 w H':=⟨h.j4,λe he=>h.own e (hs.subset he),List.Nodup.sublist (hs.map _) h.nd⟩
theorem St.perm (h:St w0 w H) (hp:H.Perm H'):St w0 w H':=⟨h.j4,λe he=>h.own e (hp.mem_iff.2 he),(hp.map _).nodup_iff.1 h.nd⟩
theorem St.mod (h:St w0 w H) (hk:H[k]?=some (b,t,cs)) {cs':List Value} (hs:w.heap.size<=w'.heap.size) (hos:w'.os=w.os) (ht:w'.tape=w.tape) (ho:w'.output=w.output)
  (hoth:∀i,i<w.heap.size->i≠b->w'.heap[i]?=w.heap[i]?) (hc:w'.heap[b]?=some (.cells cs'.toArray t (0,0))):St w0 w' (H.set k (b,t,cs')):=by
 have hbge:=h.ge hk;have hw0:=h.j4.size;have hkl:k<H.length:=(dN.1 hk).1;have hkv:H[k]=(b,t,cs):=(dN.1 hk).2;have hmap:(H.set k (b,t,cs')).map (·.1)=H.map (·.1):=by
  rw[g9];apply jP;intro i;rw[fu];split
  ·rename_i hi;subst hi;simp[hkl,hkv]
  ·rfl
 refine⟨h.j4.trans ⟨hos,ht,ho,hs,λi hi=>hoth i oO oO⟩,λe he=> ?_,by rw[hmap];exact h.nd⟩;obtain⟨i,hi⟩:=List.mem_iff_getElem?.1 he;rw[fu]at hi;split at hi
 ·rename_i hki;subst hki;obtain rfl:=bN hi;exact⟨hbge,hc⟩
 ·rename_i hne;have hm:e∈H:=i6 hi;refine⟨(h.own e hm).1,?_⟩;rw[hoth _ (h.lt hm) ?_]
  ·exact(h.own e hm).2
  ·intro heq;have hnd:=h.nd;have hil:i<H.length:=(dN.1 hi).1;have hiv:H[i]=e:=(dN.1 hi).2;have h1:(H.map (·.1))[i]'(by simpa using hil)=(H.map (·.1))[k]'(by simpa using hkl):=by
    simp[hiv,hkv,heq]
   exact hne ((jU hnd).1 h1).symm
theorem St.setRow (h:St w0 w H) (hk:H[k]?=some (b,t,cs)) (cs':List Value):St w0 (w.setRow b cs'.toArray) (H.set k (b,t,cs')):=
 h.mod hk (by simp) rfl rfl rfl (λi _ hne=>setRow_other w b i _ hne) (setRow_heap w b _ _ t _ (h.get hk))
theorem pX (w:World) (o:Obj):Below w.heap.size w (w.alloc o):=(Below.refl _ _).alloc (aH _) o
theorem St.alloc (h:St w0 w H) (cs:List Value) (t:TypeId):St w0 (w.alloc (.cells cs.toArray t)) ((w.heap.size,t,cs)::H):=
 h.push (pX w _) (aH _) (heap_alloc_new w _)
theorem St.sl {α:Type} {enc:α->List Value} {size:Nat} {L:List α} {spare:List Value} {cap:Nat} (h:St w0 w H) (hk:H[k]?=some (b,t,cs)) (hcs:cs=L.flatMap enc++spare) (hu:∀x,(enc x).length=size)
  (h1:L.length<=cap) (h2:cap<=Go.maxLen):Sl enc size w (.slice (some ⟨b,0,none⟩) L.length cap) L:=
 Sl.of_heap hu (by rw[h.get hk,hcs]) h1 h2
end
def sinfo (P:Program) (t:TypeId):Option (TypeId×Nat×Nat×List Value):=
 match P.underlying t with
 |some (.slice e)=>match P.info? e with
  |some i=>match i.zero with
   |some z=>if z.cells.size=i.size then some (e,i.size,i.bytes,z.cells.toList)else none
   |none=>none
  |none=>none
 |_=>none
theorem mE {P:Program} {t e:TypeId} {size bytes:Nat} {z:List Value} (h:sinfo P t=some (e,size,bytes,z)):
  P.underlying t=some (.slice e)/\∃i zv,P.info? e=some i/\i.zero=some zv/\i.size=size/\i.bytes=bytes/\zv.cells=z.toArray/\z.length=size:=by
 unfold sinfo at h;split at h
 ·rename_i e' hu;split at h
  ·rename_i i hi;split at h
   ·rename_i zv hz;split at h
    ·rename_i hs;simp only[gw,Prod.mk.injEq]at h;obtain⟨rfl,rfl,rfl,rfl⟩:=h;exact⟨hu,i,zv,hi,hz,rfl,rfl,by simp,by simpa using hs⟩
    ·cases h
   ·cases h
  ·cases h
 ·cases h
def lO (P:Program) (t:TypeId):Option (Nat×Bool×List Value):=
 match P.info? t,P.underlying t with
 |some i,some d=>match i.zero with
  |some z=>if z.cells.size=i.size then some (i.size,(match d with| .struct _| .array _ _=>true|_=>false),z.cells.toList)else none
  |none=>none
 |_,_=>none
theorem qI {P:Program} {t:TypeId} {n:Nat} {agg:Bool} {z:List Value} (h:lO P t=some (n,agg,z)):
  ∃i d zv,P.info? t=some i/\P.underlying t=some d/\i.zero=some zv/\i.size=n/\(match d with| .struct _| .array _ _=>true|_=>false)=agg/\zv.cells=z.toArray:=by
 unfold lO at h;split at h
 ·rename_i i d hi hu;split at h
  ·rename_i zv hz;split at h
   ·simp only[gw,Prod.mk.injEq]at h;obtain⟨rfl,rfl,rfl⟩:=h;exact⟨i,d,zv,hi,hu,hz,rfl,rfl,by simp⟩
   ·cases h
  ·cases h
 ·cases h
def nZ (P:Program) (t:TypeId) (f:Nat):Option Nat:=
 match P.underlying t with
 |some (.struct fs)=>match fs[f]?with
  |some fd=>match P.info? fd.type with
   |some i=>if i.size=0 then none else some fd.offset
   |none=>none
  |none=>none
 |_=>none
theorem IH {P:Program} {t:TypeId} {f o:Nat} (h:nZ P t f=some o):∃fs fd i,P.underlying t=some (.struct fs)/\fs[f]?=some fd/\P.info? fd.type=some i/\¬i.size=0/\fd.offset=o:=by
 unfold nZ at h;split at h
 ·rename_i fs hu;split at h
  ·rename_i fd hf;split at h
   ·rename_i i hi;split at h
    ·cases h
    ·rename_i hs;exact⟨fs,fd,i,hu,hf,hi,hs,bN h⟩
   ·cases h
  ·cases h
 ·cases h
def RY:Bool->List Value->Value
 |true,cs=> .agg cs.toArray
 |false,u::_=>u
 |false,[]=>undef
def rep (n:Nat) (z:List Value):List Value:=(List.replicate n z).flatten
theorem wV (n:Nat) (z:List Value):rep (n+1) z=z++rep n z:=by simp[rep,fU]
theorem Cx (n:Nat) (z:List Value):(rep n z).length=n*z.length:=by
 induction n with
 |zero=>simp[rep]
 |succ n ih=>rw[wV,aG,ih,bA];omega
theorem Qx (n:Nat) (z:List Value):∀i,i<n*z.length->(rep n z)[i]?=z[i%z.length]?:=by
 induction n with
 |zero=>intro i hi;simp at hi
 |succ n ih=>
  intro i hi;rw[wV];by_cases h:i<z.length
  ·rw[dq h,bh h]
  ·rw[cZ oO,ih _ (by rw[bA]at hi;omega)];congr 1;exact(Nat.mod_eq_sub_mod oO).symm
theorem HF (z : List Value) (n : Nat) : madeCells z.toArray (n * z.length) = (rep n z).toArray := by
  apply Array.ext'
  apply jP
  intro i
  rcases bI i (n * z.length) with h | h
  · have hz : 0 < z.length := by rcases dm z.length with h0 | h0; · rw [h0] at h; simp at h
                                 · exact h0
    have hm : i % z.length < z.length := bG _ hz
    have h2 : (madeCells z.toArray (n * z.length)).toList[i]? = z[i % z.length]? := by simp [madeCells, h, hm]
    have h3 : (rep n z).toArray.toList[i]? = z[i % z.length]? := by rw [← Qx n z i h]
    rw [h2, h3]
  · rw [dk (by simpa [madeCells] using h), dk (by simpa [Cx] using h)]
section
variable {P : Program} {N : Nat} {ρ : Nat → Value} {w0 w w' : World} {Q : Exit → Act → World → Prop} {ops : Array Oper} {rest : List Oper}
  {d : Option Tmp} {ty : TypeId} {pos : String} {aft : Array Edge} {g : Option (Nat × Bool)} {x y z : Operand} {t e : TypeId} {H : List kU} {k b o : Nat} {cs : List Value} {v : Value} {K : Value → Prop} {K2 : Value → World → Prop}
theorem lC {f off:Nat} (hx:ev N ρ x= .pointer (some ⟨b,o,none⟩)) (hf:nZ P t f=some off) (h:K (.pointer (some ⟨b,o+off,none⟩))):
  lX P N ρ ⟨d,.fieldAddr t x f,ty,pos,aft,g⟩ K:=by
 obtain⟨fs,fd,i,hu,hfd,hi,hs,rfl⟩:=IH hf;refine⟨_,λw=> ?_,h⟩;simp[execOp,hx,Instr.fieldAt,cS hu,hfd,Instr.sureAddr,fieldPlace,sizeOf,typeInfo,hi,hs,add_lit]
theorem kD {i n c sz by_:Nat} {zz:List Value} {kk:IntKind} {m:Int} (hx:ev N ρ x= .slice (some ⟨b,o,none⟩) n c) (hy:ev N ρ y= .int kk m) (hm:m=(i:Int)) (hi:i<n)
  (ht:sinfo P t=some (e,sz,by_,zz)) (h:K (.pointer (some ⟨b,o+i*sz,none⟩))):
  lX P N ρ ⟨d,.indexAddr t x y,ty,pos,aft,g⟩ K:=by
 obtain⟨hu,ii,zv,hi1,_,hsz,_⟩:=mE ht;subst hm hsz;refine⟨_,λw=> ?_,h⟩;simp[execOp,hx,hy,Instr.indexAt,asIntOf,cS hu,hi,sizeOf,typeInfo,hi1,add_lit]
theorem kj {α:Type} {enc:α->List Value} {L:List α} {i sz by_:Nat} {zz:List Value} {kk:IntKind} {m:Int} (hx:ev N ρ x=v) (hy:ev N ρ y= .int kk m) (hS:Sl enc sz w v L) (hm:m=(i:Int)) (hi:i<L.length)
  (ht:sinfo P t=some (e,sz,by_,zz)) (h:K (.pointer (some ((tB v).add (i*sz))))):
  lX P N ρ ⟨d,.indexAddr t x y,ty,pos,aft,g⟩ K:=by
 obtain⟨hu,ii,zv,hi1,_,hsz,_⟩:=mE ht;obtain⟨a,cap,hv,hlc,_,hnone⟩:=hS.form;subst hm hsz;refine⟨_,λw=> ?_,h⟩;cases a with
 |none=>have:=hnone rfl;omega
 |some a=>
  subst hv;simp[execOp,hx,hy,Instr.indexAt,asIntOf,cS hu,hi,sizeOf,typeInfo,hi1,tB]
theorem oc {n c:Nat} {a:Option Addr} (hx:ev N ρ x= .slice a n c) (ht:∃e,P.underlying t=some (.slice e)) (h:K (.int .i64 n)):
  lX P N ρ ⟨d,.call ⟨.builtin .len,#[x],#[t]⟩,ty,pos,aft,g⟩ K:=by
 obtain⟨e,ht⟩:=ht;exact⟨_,λw=>(by simp[execOp,resolve,invoke,builtin,hx,Builtin.len_,cS ht,goInt]),h⟩
theorem ki {α:Type} {enc:α->List Value} {size:Nat} {L:List α} (hx:ev N ρ x=v) (hS:Sl enc size w v L) (ht:∃e,P.underlying t=some (.slice e)) (h:K (.int .i64 L.length)):
  lX P N ρ ⟨d,.call ⟨.builtin .len,#[x],#[t]⟩,ty,pos,aft,g⟩ K:=by
 obtain⟨a,cap,hv,_⟩:=hS.form;exact oc (hx.trans hv) ht h
theorem oB {n:Nat} {agg:Bool} {zz:List Value} {a:Addr} (hx:ev N ρ x= .pointer (some a)) (ht:lO P t=some (n,agg,zz)) (ha:At w a cs) (hn:cs.length=n) (hv:RY agg cs=v) (hagg:agg=true\/n=1)
  (h:K v):qN P N ρ w ⟨d,.load t x,ty,pos,aft,g⟩ K:=by
 obtain⟨i,dd,zv,hi,hu,_,hs,hag,_⟩:=qI ht;subst hv hs;refine⟨_,λw' hb=> ?_,h⟩;have ha':=ha.j4 hb;have hisagg:(isAgg t).run P w'= .ok agg w':=by
  unfold isAgg;rw[dP,cS hu w'];subst hag;cases dd<;>simp
 cases agg with
 |true=>
  have hl:=run_loadCells_list (P:=P) w' a cs ha';rw[hn]at hl;simp[execOp,hx,Instr.loadAt,Instr.sureAddr,loadVar,hisagg,sizeOf,typeInfo,hi,hl,RY]
 |false=>
  rcases hagg with h0|h0
  ·cases h0
  ·match cs,hn.trans h0,ha' with
   | [u],_,ha'=>
    have hc:=ha'.head;simp[execOp,hx,Instr.loadAt,Instr.sureAddr,loadVar,hisagg,hc,RY]
theorem kO {n:Nat} {agg:Bool} {zz:List Value} {t':TypeId} (hx:ev N ρ x= .pointer (some ⟨b,o,none⟩)) (ht:lO P t=some (n,agg,zz)) (hS:St w0 w H) (hk:H[k]?=some (b,t',cs))
  (hn:((cs.drop o).take n).length=n) (hv:RY agg ((cs.drop o).take n)=v) (hagg:agg=true\/n=1)
  (h:K v):qN P N ρ w ⟨d,.load t x,ty,pos,aft,g⟩ K:=
 oB hx ht (hS.at hk o n) hn hv hagg h
theorem Kc {zz:List Value} {t':TypeId} (hx:ev N ρ x= .pointer (some ⟨b,o,none⟩)) (ht:lO P t=some (1,false,zz)) (hS:St w0 w H) (hk:H[k]?=some (b,t',cs))
  (hv:cs[o]?=some v) (h:K v):qN P N ρ w ⟨d,.load t x,ty,pos,aft,g⟩ K:=
 oB hx ht (At.one (u:=v) (by rw[cell_of_row w b o _ t' _ (hS.get hk)];simpa using hv)) rfl rfl (.inr rfl) h
theorem kt {α:Type} {enc:α->List Value} {L:List α} {i n:Nat} {agg:Bool} {zz:List Value} {vs:Value} (dd:α) (hx:ev N ρ x= .pointer (some ((tB vs).add (i*n)))) (ht:lO P t=some (n,agg,zz))
  (hS:Sl enc n w vs L) (hi:i<L.length) (hn:(enc (L.getD i dd)).length=n) (hv:RY agg (enc (L.getD i dd))=v) (hagg:agg=true\/n=1)
  (h:K v):qN P N ρ w ⟨d,.load t x,ty,pos,aft,g⟩ K:=
 oB hx ht (hS.at hi dd) hn hv hagg h
def splice (cs:List Value) (o:Nat) (new:List Value):List Value:=cs.take o++new++cs.drop (o+new.length)
theorem lI {n:Nat} {agg:Bool} {zz:List Value} {t':TypeId} {new:List Value} (hx:ev N ρ x= .pointer (some ⟨b,o,none⟩)) (hy:ev N ρ y=v) (ht:lO P t=some (n,agg,zz)) (hS:St w0 w H) (hk:H[k]?=some (b,t',cs))
  (hv:v.cells.toList=new) (hn:new.length=n) (hfit:o+n<=cs.length) (h1:new.all (·.oneCell')=true)
  (h:∀w',St w0 w' (H.set k (b,t',splice cs o new))->K2 undef w'):pd P N ρ w ⟨d,.store t x y,ty,pos,aft,g⟩ K2:=by
 obtain⟨i,dd,zv,hi,hu,_,hs,_,_⟩:=qI ht;subst hs hv;have hst:=run_storeCells_at P b o t' v.cells.toList 0 cs.toArray w (hS.get hk) (by have:=hn;simp only[fW]at this;simp only[fW,List.size_toArray];omega) (λu hu=>(cQ.1 h1) u hu);refine AJ (w':=w.setRow b (splice cs o v.cells.toList).toArray) ?_ (h _ (hS.setRow hk _));have hsz:v.cells.size=i.size:=by simpa using hn
 simp only[ef]at hst;simp[execOp,hx,hy,Instr.storeAt,Instr.sureAddr,storeVar,sizeOf,typeInfo,hi,hsz,hst,splice]
theorem IG (cs:List Value) (o:Nat) (u:Value) (h:o<cs.length):splice cs o [u]=cs.set o u:=by
 unfold splice;rw[jG,aj h];simp
theorem nM {zz:List Value} {t':TypeId} (hx:ev N ρ x= .pointer (some ⟨b,o,none⟩)) (hy:ev N ρ y=v) (ht:lO P t=some (1,false,zz)) (hS:St w0 w H) (hk:H[k]?=some (b,t',cs))
  (hfit:o<cs.length) (h1:v.oneCell'=true)
  (h:∀w',St w0 w' (H.set k (b,t',cs.set o v))->K2 undef w'):pd P N ρ w ⟨d,.store t x y,ty,pos,aft,g⟩ K2:=by
 have hv:v.cells.toList=[v]:=by cases v<;>first|rfl|cases h1
 refine lI hx hy ht hS hk hv rfl oO (by simp[h1]) (λw' hS'=> ?_);rw[IG cs o v hfit]at hS';exact h w' hS'
theorem lT {n:Nat} {agg:Bool} {zz:List Value} (ht:lO P t=some (n,agg,zz)) (hS:St w0 w H)
  (h:∀b w',St w0 w' ((b,t,zz)::H)->Below w.heap.size w w'->K2 (.pointer (some ⟨b,0,none⟩)) w'):pd P N ρ w ⟨d,.alloc t,ty,pos,aft,g⟩ K2:=by
 obtain⟨i,dd,zv,hi,hu,hz,hs,_,hc⟩:=qI ht;refine nX ?_ (h w.heap.size _ (hS.alloc zz t) (pX w _));simp[execOp,Instr.alloc,zeroValue,typeInfo,hi,hz,newVar,newRow,hc]
theorem kZ {new:List Value} (hx:ev N ρ x=v) (hv:v.cells.toList=new) (hS:St w0 w H)
  (h:∀b w',St w0 w' ((b,t,new)::H)->Below w.heap.size w w'->K2 (.pointer (some ⟨b,0,none⟩)) w'):pd P N ρ w ⟨d,.box t x,ty,pos,aft,g⟩ K2:=by
 subst hv;refine nX ?_ (h w.heap.size _ (hS.alloc v.cells.toList t) (pX w _));simp[execOp,hx,Instr.box,newVar,newRow]
theorem Av {sz by_ n:Nat} {zz:List Value} {kl kc:IntKind} {ml mc:Int} (hx:ev N ρ x= .int kl ml) (hy:ev N ρ y= .int kc mc) (ht:sinfo P t=some (e,sz,by_,zz)) (hml:ml=(n:Int)) (hmc:mc=(n:Int))
  (h1:by_*n<=281474976710656) (h2:n<=9223372036854775807) (hS:St w0 w H)
  (h:∀b w',St w0 w' ((b,e,rep n zz)::H)->Below w.heap.size w w'->K2 (.slice (some ⟨b,0,none⟩) n n) w'):
  pd P N ρ w ⟨d,.makeSlice t x y,ty,pos,aft,g⟩ K2:=by
 obtain⟨hu,ii,zv,hi1,hz,hsz,hby,hc,hzl⟩:=mE ht;subst hml hmc;have hr:=run_make (P:=P) w t e ii zv hu hi1 hz kl kc (n:Int) (n:Int) oO (Int.le_refl _) (by rw[hby,<-gX];omega) oO;simp only[iC]at hr;rw[hc,hsz,<-hzl,HF]at hr;refine nX ?_ (h w.heap.size _ (hS.alloc (rep n zz) e) (pX w _));simp[execOp,hx,hy,hr]
theorem QY {sz by_ n:Nat} {zz:List Value} {kl kc:IntKind} {ml mc:Int} (hx:ev N ρ x= .int kl ml) (hy:ev N ρ y= .int kc mc) (ht:sinfo P t=some (e,sz,by_,zz)) (hml:ml=0) (hmc:mc=(n:Int))
  (h1:by_*n<=281474976710656) (h2:n<=9223372036854775807) (hS:St w0 w H)
  (h:∀b w',St w0 w' ((b,e,rep n zz)::H)->Below w.heap.size w w'->K2 (.slice (some ⟨b,0,none⟩) 0 n) w'):
  pd P N ρ w ⟨d,.makeSlice t x y,ty,pos,aft,g⟩ K2:=by
 obtain⟨hu,ii,zv,hi1,hz,hsz,hby,hc,hzl⟩:=mE ht;subst hml hmc;have hr:=run_make (P:=P) w t e ii zv hu hi1 hz kl kc 0 (n:Int) (Int.le_refl _) oO (by rw[hby,<-gX];omega) oO;simp only[iC,Int.toNat_zero]at hr;rw[hc,hsz,<-hzl,HF]at hr;refine nX ?_ (h w.heap.size _ (hS.alloc (rep n zz) e) (pX w _));simp[execOp,hx,hy,hr]
theorem kT {parts:List (Nat×Operand)} {pv:List (Nat×Value)} {cells:List Value} (hp:(parts.map λp=>(p.1,ev N ρ p.2))=pv) (hb:P.built t pv=some cells.toArray)
  (h:K (.agg cells.toArray)):lX P N ρ ⟨d,.build t parts.toArray,ty,pos,aft,g⟩ K:=by
 subst hp;refine⟨_,λw=> ?_,h⟩;have hr:=run_build (P:=P) w t (parts.toArray.map λ(i,x)=>(i,ev N ρ x)) cells.toArray (by simpa using hb);simp only[execOp,dP,hr,dp];rfl
theorem mD {len sz by_:Nat} {zz:List Value} {parts:List (Nat×Operand)} {vs:List Value} {cells:List Value} (hp:(parts.map λp=>(p.1,ev N ρ p.2))=(vs.zipIdx 0).map λx=>(x.2,x.1))
  (ht:sinfo P t=some (e,sz,by_,zz)) (hlen:vs.length=len) (h0:0<len) (hsz0:0<sz) (hsm:len*sz<=16777216) (hvs:∀v∈vs,v.cells.size=sz) (hc:(vs.flatMap λv=>v.cells.toList)=cells) (hS:St w0 w H)
  (h:∀b w',St w0 w' ((b,e,cells)::H)->Below w.heap.size w w'->K2 (.slice (some ⟨b,0,none⟩) len len) w'):
  pd P N ρ w ⟨d,.buildSlice t len parts.toArray,ty,pos,aft,g⟩ K2:=by
 obtain⟨hu,ii,zv,hi1,hz,hsz,hby,hcz,hzl⟩:=mE ht;subst hc hsz;have hpos:0<len*ii.size:=dK h0 hsz0;have hr:=run_buildSlice (P:=P) w t e len (parts.toArray.map λ(i,x)=>(i,ev N ρ x)) (vs.flatMap λv=>v.cells.toList).toArray ii zv hu hi1 hz oO oO
  (by(have h1:(parts.toArray.map λ(i,x)=>(i,ev N ρ x)).toList=(vs.zipIdx 0).map λx=>(x.2,x.1):=by simpa using hp);rw[h1];exact Go.Great.fill_whole hsz0 vs _ hvs (by simp[hlen]))
 refine nX ?_ (h w.heap.size _ (hS.alloc _ e) (pX w _));simp only[execOp,dP,hr,dp];rfl
def Gs (e:TypeId) (size:Nat) (v:Value) (n:Nat) (X:List Value) (L:List kU):Prop:=
 X.length=n*size/\((v= .slice none 0 0/\n=0/\L=[])\/∃b cap spare,v= .slice (some ⟨b,0,none⟩) n cap/\L=[(b,e,X++spare)]/\n<=cap/\cap<=Go.maxLen/\(X++spare).length=cap*size)
theorem Gs.nil (e:TypeId) (size:Nat):Gs e size (.slice none 0 0) 0 [] []:=⟨by simp,.inl ⟨rfl,rfl,rfl⟩⟩
theorem Gs.own {e:TypeId} {size n:Nat} {v:Value} {X:List Value} {L:List kU} (hG:Gs e size v n X L) (hS:St w0 w (L++H)):w.ownsRow w0.heap.size e size v n X/\∀b,v.ownBlock=some b->∀e'∈H,e'.1≠b:=by
 obtain⟨hX,⟨rfl,rfl,rfl⟩|⟨b,cap,spare,rfl,rfl,h1,h2,h3⟩⟩:=hG
 ·have:X=[]:=cH (by simpa using hX);subst this;exact⟨World.ownsRow_nil _ _ _ _,λb hb=>by cases hb⟩
 ·refine⟨⟨hX,.inr ⟨b,cap,(X++spare).toArray,rfl,(hS.own (b,e,X++spare) (by simp)).1,(hS.own (b,e,X++spare) (by simp)).2,h1,h2,by simpa using h3,by simp[<-hX]⟩⟩,λb' hb' e' he' heq=> ?_⟩;have hnd:=hS.nd;simp only[bW,ca,db,gV]at hnd;simp only[Value.ownBlock,gw]at hb';subst hb';exact hnd.1 (bX.2 ⟨e',he',heq⟩)
theorem Sk {size bytes n m c:Nat} {zz:List Value} {X news:List Value} {L:List kU} {xv:Value} {ad:Addr} (hx:ev N ρ x=v) (hy:ev N ρ y=xv) (ht:sinfo P t=some (e,size,bytes,zz)) (hsz:0<size)
  (hG:Gs e size v n X L) (hS:St w0 w (L++H)) (hxv:xv= .slice (some ad) m c) (hl:news.length=m*size) (hnews:At w ad news) (h1:∀u∈news,u.oneCell'=true)
  (h63:n+m<=9223372036854775807) (hb:(n+m)*bytes<=140737488355328)
  (h:∀v' L' w',Gs e size v' (n+m) (X++news) L'->St w0 w' (L'++H)->(∀i,i<w.heap.size->v.ownBlock≠some i->w'.heap[i]?=w.heap[i]?)->w.heap.size<=w'.heap.size->
   K2 v' w'):
  pd P N ρ w ⟨d,.call ⟨.builtin .append,#[x,y],#[t,t]⟩,ty,pos,aft,g⟩ K2:=by
 obtain⟨hu,ii,zv,hi1,hz,hsize,hby,hcz,hzl⟩:=mE ht;obtain⟨hown,hdis⟩:=hG.own hS;obtain⟨v',w1,hr,hown',hgrow,_,hlies⟩:=run_append_own_at (P:=P) w w0.heap.size t ty e ii zv size bytes hu hi1 hz hsize hby (by rw[hcz];simpa using hzl) hsz v n X hown ad m c news hl hnews h1 (by unfold Go.maxLen;omega) hb hS.j4.size;subst hxv;have hback:∃L',Gs e size v' (n+m) (X++news) L'/\St w0 w1 (L'++H):=by
  have hfar:∀e'∈H,w1.heap[e'.1]?=w.heap[e'.1]?:=λe' he'=>hgrow.block _ (hS.lt (by simp[he'])) (λheq=>hdis e'.1 (by rw[<-heq]) e' he' rfl);have hbel:Below w0.heap.size w0 w1:=hS.j4.grown hgrow hS.j4.size (λk hk=>(hown.lt k hk).1);have hndH:(H.map (·.1)).Nodup:=by
   have:=hS.nd;rw[bH]at this;exact(dt.1 this).2.1
  obtain⟨hXl,⟨rfl,h0⟩|⟨gb,cap,cur,rfl,hgb,hh,hnc,hcm,hcs,htake⟩⟩:=hown'
  ·refine⟨[],⟨hXl,.inl ⟨rfl,h0,rfl⟩⟩,⟨hbel,λe' he'=>⟨(hS.own e' (by simp at he';simp[he'])).1,?_⟩,by simpa using hndH⟩⟩;simp only[ca]at he';rw[hfar e' he'];exact(hS.own e' (by simp[he'])).2
  ·have hsplit:cur.toList=(X++news)++cur.toList.drop ((n+m)*size):=by
    rw[<-htake,dc]
   have hcell:w1.heap[gb]?=some (.cells ((X++news)++cur.toList.drop ((n+m)*size)).toArray e (0,0)):=by
    rw[<-hsplit,hh,Array.toArray_toList]
   refine⟨[(gb,e,(X++news)++cur.toList.drop ((n+m)*size))],⟨hXl,.inr ⟨gb,cap,_,rfl,rfl,hnc,hcm,by rw[<-hsplit];simpa using hcs⟩⟩,⟨hbel,λe' he'=> ?_,?_⟩⟩
   ·simp only[bW,ca,bJ]at he';rcases he' with rfl|he'
    ·exact⟨hgb,hcell⟩
    ·refine⟨(hS.own e' (by simp[he'])).1,?_⟩;rw[hfar e' he'];exact(hS.own e' (by simp[he'])).2
   ·simp only[bW,ca,db,gV];refine⟨λhm=> ?_,hndH⟩;obtain⟨e',he',hee⟩:=bX.1 hm;rcases hlies with hob|hob
    ·exact hdis gb hob.symm e' he' hee
    ·have:=hS.lt (e:=e') (by simp[he']);have hgs:gb=w.heap.size:=by simpa[Value.ownBlock]using hob
     have hee':e'.1=gb:=hee;omega
 obtain⟨L',hG',hS'⟩:=hback;refine nX ?_ (h v' L' w1 hG' hS' (λi hi hne=>hgrow.block i hi (λheq=>hne heq.symm)) hgrow.size);simp[execOp,resolve,invoke,builtin,hx,hy,hr]
end
theorem tr (n:Int):IntKind.u32.wrap n=n%4294967296:=IntKind.wrap_u32 n
theorem xm (n:Int):IntKind.u64.wrap n=n%18446744073709551616:=by simp[IntKind.wrap,IntKind.bits,IntKind.signed]
theorem OU (n:Int):IntKind.u8.wrap n=n%256:=IntKind.wrap_u8 n
theorem M8 (n:Int):IntKind.u16.wrap n=n%65536:=by simp[IntKind.wrap,IntKind.bits,IntKind.signed]
theorem SM {k:IntKind} (m:Int) (c:Nat) (hc:c<=k.bits):m.fdiv (2^(min ((c:Int)).toNat k.bits))=m/2^c:=by
 rw[iC,gU hc];exact Int.fdiv_eq_ediv_of_nonneg _ (Int.le_of_lt (Int.pow_pos dD))
theorem rj {k:IntKind} (hk:k.signed=false) (m n:Nat) (hm:m<2^k.bits) (hn:n<2^k.bits):pM .or k m n=((m|||n:Nat):Int):=by
 have hlt:m|||n<2^k.bits:=Nat.or_lt_two_pow hm hn;have h:((m|||n:Nat):Int)%2^k.bits=((m|||n:Nat):Int):=jQ oO (by exact_mod_cast hlt);simp only[pM,fR,BitVec.toNat_or,gi,bh hm,bh hn,IntKind.wrap,hk,jf,h];simp
theorem Gd {k:IntKind} (hk:k.signed=false) (m n:Nat) (hm:m<2^k.bits) (hn:n<2^k.bits):pM .and k m n=((m&&&n:Nat):Int):=by
 have hlt:m&&&n<2^k.bits:=ct Nat.and_le_left hm;have h:((m&&&n:Nat):Int)%2^k.bits=((m&&&n:Nat):Int):=jQ oO (by exact_mod_cast hlt);simp only[pM,fR,BitVec.toNat_and,gi,bh hm,bh hn,IntKind.wrap,hk,jf,h];simp
def Kr (k:IntKind) (L:List Nat):List Value:=L.map λx:Nat=>Value.int k (x:Int)
def uk (k:IntKind) (x:Nat):List Value:=[Value.int k (x:Int)]
theorem JM (k:IntKind) (L:List Nat):Kr k L=L.flatMap (uk k):=by
 induction L with
 |nil=>rfl
 |cons x L ih=>rw[cB,<-ih];rfl
theorem PG (k:IntKind) (L:List Nat):(Kr k L).length=L.length:=by simp[Kr]
theorem TX (k:IntKind) (L:List Nat) {i:Nat} (h:i<L.length):(Kr k L)[i]?=some (.int k (L.getD i 0:Nat)):=by simp[Kr,List.getD,h]
theorem Ug (k:IntKind) (L:List Nat) (i x:Nat):(Kr k L).set i (.int k (x:Int))=Kr k (L.set i x):=by simp[Kr,g9]
theorem Up (k:IntKind) (n:Nat):rep n [.int k 0]=Kr k (List.replicate n 0):=by
 induction n with
 |zero=>rfl
 |succ n ih=>rw[wV,ih];rfl
theorem MN (k:IntKind) (L M:List Nat):Kr k L++Kr k M=Kr k (L++M):=by simp[Kr]
def AM (v:Value) (size lo hi:Nat):Value:=
 match v with
 | .slice a _ c=> .slice (if c=lo then a else a.map (·.add (lo*size))) (hi-lo) (c-lo)
 |v=>v
theorem Na {w:World} {α:Type} {enc:α->List Value} {size:Nat} {v:Value} {L:List α} (h:Sl enc size w v L) {lo hi:Nat} (hlt:lo<L.length):tB (AM v size lo hi)=(tB v).add (lo*size):=by
 obtain⟨a,cap,rfl,h1,_,hn⟩:=h.form;cases a with
 |none=>have:=hn rfl;omega
 |some a=>simp[AM,tB,show¬cap=lo by omega]
theorem yS (a:Addr) (m n:Nat) (h:a.spot=none):(a.add m).add n=a.add (m+n):=by
 obtain⟨b,o,s⟩:=a;subst h;rw[add_lit,add_lit,add_lit,dU]
theorem Sl.spot {w:World} {α:Type} {enc:α->List Value} {size:Nat} {v:Value} {L:List α} (h:Sl enc size w v L) (hu:∀x,(enc x).length=size) (hs:0<size) (hl:0<L.length):(tB v).spot=none:=by
 have h0:=h.elt 0 hl;rw[fp,add_zero]at h0;have hpos:0<(enc L[0]).length:=by rw[hu];exact hs
 have:=h0 0 _ (aJ hpos);rw[add_zero]at this;exact World.cell?_spot this
theorem Sl.sub {w:World} {α:Type} {enc:α->List Value} {size:Nat} {v:Value} {L:List α} (h:Sl enc size w v L) (hu:∀x,(enc x).length=size) (hs:0<size) {lo hi:Nat} (h1:lo<=hi) (h2:hi<=L.length):
  Sl enc size w (AM v size lo hi) ((L.drop lo).take (hi-lo)):=by
 have hlen:((L.drop lo).take (hi-lo)).length=hi-lo:=by simp;omega
 refine⟨?_,λi hi' j u hj=> ?_⟩
 ·obtain⟨a,cap,rfl,g1,g2,g3⟩:=h.form;refine⟨_,_,by rw[hlen];rfl,by rw[hlen];omega,oO,λhn=> ?_⟩;split at hn
  ·omega
  ·cases a with
   |none=>have:=g3 rfl;omega
   |some a=>simp at hn
 ·rw[hlen]at hi';have hlt:lo<L.length:=oO;rw[Na h hlt,yS _ _ _ (h.spot hu hs oO),<-bA];refine h.elt (lo+i) oO j u ?_;rw[<-hj];simp
section
variable {w0 w : World} {H : List kU} {b k : Nat} {t : TypeId} {kk : IntKind} {L : List Nat}
theorem Af (k:IntKind):∀x,(uk k x).length=1:=λ_=>rfl
theorem St.Iu (h:St w0 w H) (hk:H[k]?=some (b,t,Kr kk L)) {n cap:Nat} (hn:n<=L.length) (h1:n<=cap) (h2:cap<=9223372036854775807):Sl (uk kk) 1 w (.slice (some ⟨b,0,none⟩) n cap) (L.take n):=by
 have hl:(L.take n).length=n:=by simp;omega
 have:=h.sl (enc:=uk kk) (size:=1) (L:=L.take n) (spare:=Kr kk (L.drop n)) (cap:=cap) hk (by rw[<-JM,MN,dc]) (Af kk) (by rw[hl];exact h1) (by unfold Go.maxLen;omega);rwa[hl]at this
end
section
variable {P : Program} {N : Nat} {ρ : Nat → Value} {w0 w w' : World} {Q : Exit → Act → World → Prop} {ops : Array Oper} {rest : List Oper}
  {d : Option Tmp} {ty : TypeId} {pos : String} {aft : Array Edge} {g : Option (Nat × Bool)} {x y z : Operand} {t e : TypeId} {H : List kU} {k b o : Nat} {cs : List Value} {v : Value} {K : Value → Prop} {K2 : Value → World → Prop} {kk : IntKind} {L : List Nat}
theorem nN {i:Nat} {zz:List Value} {t':TypeId} (hx:ev N ρ x= .pointer (some ⟨b,o,none⟩)) (ht:lO P t=some (1,false,zz)) (hS:St w0 w H) (hk:H[k]?=some (b,t',Kr kk L)) (ho:o=i) (hi:i<L.length)
  (h:K (.int kk (L.getD i 0:Nat))):qN P N ρ w ⟨d,.load t x,ty,pos,aft,g⟩ K:=by
 subst ho;exact Kc hx ht hS hk (TX kk L hi) h
theorem pf {i a:Nat} {m:Int} {zz:List Value} {t':TypeId} (hx:ev N ρ x= .pointer (some ⟨b,o,none⟩)) (hy:ev N ρ y= .int kk m) (hm:m=(a:Int)) (ht:lO P t=some (1,false,zz)) (hS:St w0 w H) (hk:H[k]?=some (b,t',Kr kk L)) (ho:o=i) (hi:i<L.length)
  (h:∀w',St w0 w' (H.set k (b,t',Kr kk (L.set i a)))->K2 undef w'):pd P N ρ w ⟨d,.store t x y,ty,pos,aft,g⟩ K2:=by
 subst ho hm;refine nM hx hy ht hS hk (by rw[PG];exact hi) rfl (λw' hS'=> ?_);rw[Ug]at hS';exact h w' hS'
theorem pN {by_ n:Nat} {kl kc:IntKind} {ml mc:Int} (hx:ev N ρ x= .int kl ml) (hy:ev N ρ y= .int kc mc) (ht:sinfo P t=some (e,1,by_,[.int kk 0])) (hml:ml=(n:Int)) (hmc:mc=(n:Int))
  (h1:by_*n<=281474976710656) (h2:n<=9223372036854775807) (hS:St w0 w H)
  (h:∀b w',St w0 w' ((b,e,Kr kk (List.replicate n 0))::H)->Below w.heap.size w w'->K2 (.slice (some ⟨b,0,none⟩) n n) w'):
  pd P N ρ w ⟨d,.makeSlice t x y,ty,pos,aft,g⟩ K2:=by
 refine Av hx hy ht hml hmc h1 h2 hS (λb w' hS' hB=> ?_);rw[Up]at hS';exact h b w' hS' hB
theorem y4 {α:Type} {enc:α->List Value} {size by_:Nat} {zz:List Value} {L:List α} {hi:Nat} {kh:IntKind} {mh:Int} (hx:ev N ρ x=v) (hh:ev N ρ z= .int kh mh) (hS:Sl enc size w v L)
  (hmh:mh=(hi:Int)) (h2:hi<=L.length) (ht:sinfo P t=some (e,size,by_,zz)) (h:K (AM v size 0 hi)):lX P N ρ ⟨d,.slice t x none (some z) none,ty,pos,aft,g⟩ K:=by
 obtain⟨hu,ii,zv,hi1,_,hsz,_⟩:=mE ht;obtain⟨a,cap,rfl,g1,_⟩:=hS.form;subst hmh hsz;refine⟨_,λw=> ?_,h⟩;have a2:hi<=cap:=oO;simp[execOp,hx,hh,Instr.sliceAt,Instr.slice,Instr.sliceBounds,Instr.sliceBound,asIntOf,cS hu,sizeOf,typeInfo,hi1,a2,AM]
theorem R7 {α:Type} {enc:α->List Value} {size by_:Nat} {zz:List Value} {L:List α} {lo:Nat} {kl:IntKind} {ml:Int} (hx:ev N ρ x=v) (hl:ev N ρ y= .int kl ml) (hS:Sl enc size w v L)
  (hml:ml=(lo:Int)) (h1:lo<=L.length) (ht:sinfo P t=some (e,size,by_,zz)) (h:K (AM v size lo L.length)):lX P N ρ ⟨d,.slice t x (some y) none none,ty,pos,aft,g⟩ K:=by
 obtain⟨hu,ii,zv,hi1,_,hsz,_⟩:=mE ht;obtain⟨a,cap,rfl,g1,_⟩:=hS.form;subst hml hsz;refine⟨_,λw=> ?_,h⟩;simp[execOp,hx,hl,Instr.sliceAt,Instr.slice,Instr.sliceBounds,Instr.sliceBound,asIntOf,cS hu,sizeOf,typeInfo,hi1,h1,AM]
theorem E0 {size by_ n cap:Nat} {zz:List Value} {hi:Nat} {kh:IntKind} {mh:Int} (hx:ev N ρ x= .slice (some ⟨b,o,none⟩) n cap) (hh:ev N ρ z= .int kh mh)
  (hmh:mh=(hi:Int)) (h2:hi<=cap) (ht:sinfo P t=some (e,size,by_,zz)) (h:K (.slice (some ⟨b,o,none⟩) hi cap)):lX P N ρ ⟨d,.slice t x none (some z) none,ty,pos,aft,g⟩ K:=by
 obtain⟨hu,ii,zv,hi1,_,hsz,_⟩:=mE ht;subst hmh hsz;refine⟨_,λw=> ?_,h⟩;have:(if cap=0 then some (⟨b,o,none⟩:Addr)else some ((⟨b,o,none⟩:Addr).add 0))=some ⟨b,o,none⟩:=by rw[add_zero];split<;>rfl
 simp[execOp,hx,hh,Instr.sliceAt,Instr.slice,Instr.sliceBounds,Instr.sliceBound,asIntOf,cS hu,sizeOf,typeInfo,hi1,h2,add_zero]
theorem Ux {size by_ n cap:Nat} {zz:List Value} {lo hi:Nat} {kl kh:IntKind} {ml mh:Int} (hx:ev N ρ x= .slice (some ⟨b,o,none⟩) n cap) (hl:ev N ρ y= .int kl ml) (hh:ev N ρ z= .int kh mh)
  (hml:ml=(lo:Int)) (hmh:mh=(hi:Int)) (h1:lo<=hi) (h2:hi<=cap) (h3:lo<cap) (ht:sinfo P t=some (e,size,by_,zz)) (h:K (.slice (some ⟨b,o+lo*size,none⟩) (hi-lo) (cap-lo))):
  lX P N ρ ⟨d,.slice t x (some y) (some z) none,ty,pos,aft,g⟩ K:=by
 obtain⟨hu,ii,zv,hi1,_,hsz,_⟩:=mE ht;subst hml hmh hsz;refine⟨_,λw=> ?_,h⟩;simp[execOp,hx,hl,hh,Instr.sliceAt,Instr.slice,Instr.sliceBounds,Instr.sliceBound,asIntOf,cS hu,sizeOf,typeInfo,hi1,h1,h2,show¬cap=lo by omega,add_lit]
def zI (L:List Nat):ByteArray:=⟨(L.map UInt8.ofNat).toArray⟩
theorem foldl_push (L:List Nat):∀s:ByteArray,(L.map λx:Nat=>(x:Int)).foldl (λr n=>r.push (UInt8.ofNat n.toNat)) s=⟨s.data++(L.map UInt8.ofNat).toArray⟩:=by
 induction L with
 |nil=>intro s;cases s;simp
 |cons a L ih=>
  intro s;simp only[db,ga];rw[ih];cases s
  simp[ByteArray.push]
theorem Sj {el:TypeId} {cap n:Nat} {a:Addr} {L:List Nat} (hx:ev N ρ x= .slice (some a) n cap) (ht:P.underlying t=some (.slice el)/\P.underlying el=some (.int .u8)/\P.underlying e=some .string) (hn:L.length=n) (ha:At w a (Kr .u8 L))
  (h:K (.string (zI L))):qN P N ρ w ⟨d,.convert t e x,ty,pos,aft,g⟩ K:=by
 refine⟨_,λw' hb=> ?_,h⟩;have ha':=ha.j4 hb;have hl:=run_loadCells_list (P:=P) w' a (Kr .u8 L) ha';rw[PG,hn]at hl;have hl2:(loadCells a n).run P w'= .ok ((L.map λx:Nat=>(x:Int)).map (Value.int .u8)).toArray w':=by rw[hl];simp[Kr]
 have:=run_bytesToString (P:=P) w' a n cap (L.map λx:Nat=>(x:Int)) hl2;rw[foldl_push]at this;simp[execOp,hx,run_convert_bytes_string w' t e el (some a) n cap ht.1 ht.2.1 ht.2.2,this,zI]
end
inductive Md where
 |pure|read|km|free
 deriving DecidableEq
section
variable {P : Program} {ops : Array Oper}
def qU (ops:Array Oper):Nat->Nat->Nat->Bool
 |0,_,_=>false
 |n+1,i,h=>match ops[i]?with
  |some o=>o.after.any λe=>Region.binds .any e&&(Nat.beq e.on h||qU ops n e.on h)
  |none=>false
def closed (ops:Array Oper) (listed:Array Bool):Prop:=∀i o,ops[i]?=some o->listed.getD i true=true->∀e∈o.after,Region.binds .any e=true->listed.getD e.on false=true
theorem AH {listed:Array Bool} (hc:closed ops listed):∀n i h,(∀o,ops[i]?=some o->∀e∈o.after,Region.binds .any e=true->listed.getD e.on false=true)->qU ops n i h=true->listed.getD h false=true:=by
 intro n;induction n with
 |zero=>intro i h _ ht;cases ht
 |succ n ih=>
  intro i h hall ht;unfold qU at ht;cases ho:ops[i]?with
  |none=>rw[ho]at ht;cases ht
  |some o=>
   rw[ho]at ht;simp only[im,bl,du]at ht;obtain⟨e,he,hb,h1|h1⟩:=ht
   ·have:=hall o ho e he hb;rwa[cI h1]at this
   ·have hl:=hall o ho e he hb;refine ih e.on h (λo' ho' e' he' hb'=>hc e.on o' ho' ?_ e' he' hb') h1;have hlt:e.on<listed.size:=by
     rcases bI e.on listed.size with h2|h2
     ·exact h2
     ·simp[Array.getD,gh.2 h2]at hl
    simp only[Array.getD,hlt,gj]at hl⊢;exact hl
def md (P:Program) (ops:Array Oper) (m:Md) (o:Oper) (a:Act) (w:World) (K:Act->World->Prop):Prop:=
 if Region.wanted o (yielded ops a.tmps)then
  match m with
  | .pure=>∃v,(∀w',(execOp a.eval o).run P w'= .ok (.value v) w')/\K (a.put o.dst v) w
  | .read=>∃v,(∀w',Below w.heap.size w w'->(execOp a.eval o).run P w'= .ok (.value v) w')/\K (a.put o.dst v) w
  | .km=>HP P (λv w'=>Below w.heap.size w w'/\K (a.put o.dst v) w') ((execOp a.eval o).run P w)
  | .free=>HP P (λv w'=>K (a.put o.dst v) w') ((execOp a.eval o).run P w)
 else K (a.put o.dst undef) w
def wr (P:Program) (ops:Array Oper) (Kend:Act->World->Prop):List (Nat×Md)->Act->World->Prop
 | [],a,w=>Kend a w
 |(i,m)::σ,a,w=>match ops[i]?with
  |some o=>md P ops m o a w (wr P ops Kend σ)
  |none=>False
theorem mN {m:Md} {o:Oper} {a:Act} {w:World} {K K':Act->World->Prop} (hk:∀a w,K a w->K' a w) (h:md P ops m o a w K):md P ops m o a w K':=by
 unfold md at*;split
 ·rename_i hw;simp only[hw,gZ]at h;cases m with
  |pure=>obtain⟨v,h1,h2⟩:=h;exact⟨v,h1,hk _ _ h2⟩
  |read=>obtain⟨v,h1,h2⟩:=h;exact⟨v,h1,hk _ _ h2⟩
  |km=>exact oq (λv w h=>⟨h.1,hk _ _ h.2⟩) h
  |free=>exact oq (λv w h=>hk _ _ h) h
 ·rename_i hw;simp only[hw]at h;exact hk _ _ h
theorem r8 {Q:Exit->Act->World->Prop} {i:Nat} {m:Md} {o:Oper} {a:Act} {w:World} {K:Act->World->Prop} (hi:ops[i]?=some o) (h:md P ops m o a w K):wpOp P ops Q i K a w:=by
 unfold md at h;unfold wpOp;simp only[hi];split
 ·rename_i hw;simp only[hw,gZ]at h;refine .inl ?_;unfold Oper.wp;have hv:∀ {K':Value->World->Prop},(∀v w',K' v w'->K (a.put o.dst v) w')->HP P K' ((execOp a.eval o).run P w)->o.upon P a K Q ((execOp a.eval o).run P w):=by
   intro K' hk' hh;generalize (execOp a.eval o).run P w=r at hh;cases r with
   |halt x w'=>exact hh.elim
   |ok n w'=>
    cases n with
    |value v=>rw[i4];exact hk' _ _ hh
    |skip=>rw[Oper.upon_skip];exact hk' _ _ hh
    |enter f args=>
     rw[Oper.upon_enter];refine Calls.mono hh ?_;rintro e w1 ⟨v,rfl,hR⟩;exact hk' _ _ hR
    |_=>exact hh.elim
  cases m with
  |pure=>obtain⟨v,h1,h2⟩:=h;rw[h1 w,i4];exact h2
  |read=>obtain⟨v,h1,h2⟩:=h;rw[h1 w (Below.refl _ _),i4];exact h2
  |km=>exact hv (λv w' hh=>hh.2) h
  |free=>exact hv (λv w' hh=>hh) h
 ·rename_i hw;simp only[hw]at h;exact h
theorem p7 {m:Md} {o:Oper} {a:Act} {w:World} {K:Act->World->Prop} (hw:¬Region.wanted o (yielded ops a.tmps)=true):md P ops m o a w K=K (a.put o.dst undef) w:=by unfold md;rw[ah hw]
theorem nK {o:Oper} {a:Act} {w:World} {K:Act->World->Prop} (hw:Region.wanted o (yielded ops a.tmps)=true):
 md P ops .pure o a w K=∃v,(∀w',(execOp a.eval o).run P w'= .ok (.value v) w')/\K (a.put o.dst v) w:=by unfold md;rw[aj hw]
theorem rS {o:Oper} {a:Act} {w:World} {K:Act->World->Prop} (hw:Region.wanted o (yielded ops a.tmps)=true):
 md P ops .read o a w K=∃v,(∀w',Below w.heap.size w w'->(execOp a.eval o).run P w'= .ok (.value v) w')/\K (a.put o.dst v) w:=by unfold md;rw[aj hw]
theorem qA {o:Oper} {a:Act} {w:World} {K:Act->World->Prop} (hw:Region.wanted o (yielded ops a.tmps)=true):
 md P ops .km o a w K=HP P (λv w'=>Below w.heap.size w w'/\K (a.put o.dst v) w') ((execOp a.eval o).run P w):=by unfold md;rw[aj hw]
theorem r4 {o:Oper} {a:Act} {w:World} {K:Act->World->Prop} (hw:Region.wanted o (yielded ops a.tmps)=true):
 md P ops .free o a w K=HP P (λv w'=>K (a.put o.dst v) w') ((execOp a.eval o).run P w):=by unfold md;rw[aj hw]
def nJ (ops:Array Oper) (i:Nat×Md) (j:Nat×Md):Bool:=
 match ops[i.1]?,ops[j.1]?with
 |some oi,some oj=>Oper.apart ops oi oj&&(match i.2,j.2 with
  | .pure,_=>true
  |_,.pure=>true
  | .read,.read=>true
  | .read,.km=>true
  |_,_=>false)
 |_,_=>false
def oH (ops:Array Oper) (n:Nat):List (Nat×Md)->Bool
 | []=>true
 |i::σ=>(σ.all λj=> !Nat.beq i.1 j.1&&(qU ops n j.1 i.1||nJ ops i j))&&oH ops n σ
theorem un {n:Nat} {x:Nat×Md}:∀ {σ τ:List (Nat×Md)},oH ops n (σ++x::τ)=true->oH ops n (σ++τ)=true
 | [],τ,h=>by simp only[ca,oH,bl]at h⊢;exact h.2
 |y::σ,τ,h=>by
  simp only[bW,oH,bl,fO,fX]at h⊢;exact⟨⟨h.1.1,h.1.2.2⟩,un h.2⟩
theorem zm {K:Value->World->Prop} {r:Result Next} (h:HP P K r):∃v w,K v w:=by
 cases r with
 |halt x w'=>exact h.elim
 |ok n w'=>
  cases n with
  |value v=>exact⟨v,w',h⟩
  |skip=>exact⟨undef,w',h⟩
  |enter f args=>
   obtain⟨e,w1,fr,⟨v,_,hK⟩,_⟩:=h [];exact⟨v,w1,hK⟩
  |_=>exact h.elim
theorem wD {m:Md} {o:Oper} {a:Act} {w:World} {K K':Act->World->Prop} (hk:∀v w',(m≠ .free->Below w.heap.size w w')->K (a.put o.dst v) w'->K' (a.put o.dst v) w') (h:md P ops m o a w K):md P ops m o a w K':=by
 unfold md at*;split
 ·rename_i hw;rw[aj hw]at h;cases m with
  |pure=>obtain⟨v,h1,h2⟩:=h;exact⟨v,h1,hk _ _ (λ_=>Below.refl _ _) h2⟩
  |read=>obtain⟨v,h1,h2⟩:=h;exact⟨v,h1,hk _ _ (λ_=>Below.refl _ _) h2⟩
  |km=>exact oq (λv w h=>⟨h.1,hk _ _ (λ_=>h.1) h.2⟩) h
  |free=>exact oq (λv w h=>hk _ _ (λh=>absurd rfl h) h) h
 ·rename_i hw;rw[ah hw]at h;exact hk _ _ (λ_=>Below.refl _ _) h
theorem Hu {i j:Nat} {mi mj:Md} {oi oj:Oper} (hi:ops[i]?=some oi) (hj:ops[j]?=some oj) (hsi:∀cs b,oi.op≠ .select cs b) (hsj:∀cs b,oj.op≠ .select cs b)
  (hok:nJ ops (i,mi) (j,mj)=true) {K:Act->World->Prop} {a:Act} {w:World}
  (h:md P ops mi oi a w (λa w=>md P ops mj oj a w K)):md P ops mj oj a w (λa w=>md P ops mi oi a w K):=by
 unfold nJ at hok;simp only[hi,hj,bl]at hok;obtain⟨hap,hm⟩:=hok;obtain⟨h1,h2,h3⟩:=Oper.apart_spec hap;have wj:∀u,Region.wanted oj (yielded ops (a.put oi.dst u).tmps)=Region.wanted oj (yielded ops a.tmps):=λu=>wanted_put oj a oi.dst u h1;have wi:∀u,Region.wanted oi (yielded ops (a.put oj.dst u).tmps)=Region.wanted oi (yielded ops a.tmps):=λu=>wanted_put oi a oj.dst u h3;have ej:∀u,execOp (a.put oi.dst u).eval oj=execOp a.eval oj:=λu=>execOp_put oj hsj a oi.dst u h1;have ei:∀u,execOp (a.put oj.dst u).eval oi=execOp a.eval oi:=λu=>execOp_put oi hsi a oj.dst u h3;have cm:∀u v,(a.put oi.dst u).put oj.dst v=(a.put oj.dst v).put oi.dst u:=λu v=>Act.put_comm a u v h2;have jback:∀u w,md P ops mj oj (a.put oi.dst u) w K->md P ops mj oj a w (λa' w'=>K (a'.put oi.dst u) w'):=by
  intro u w h;by_cases hw:Region.wanted oj (yielded ops a.tmps)=true
  ·have hw':Region.wanted oj (yielded ops (a.put oi.dst u).tmps)=true:=by rw[wj u];exact hw
   cases mj with
   |pure=>rw[nK hw']at h;rw[nK hw];obtain⟨v,g1,g2⟩:=h;rw[cm]at g2;exact⟨v,λw'=>by rw[<-ej u];exact g1 w',g2⟩
   |read=>rw[rS hw']at h;rw[rS hw];obtain⟨v,g1,g2⟩:=h;rw[cm]at g2;exact⟨v,λw' hb=>by rw[<-ej u];exact g1 w' hb,g2⟩
   |km=>rw[qA hw',ej u]at h;rw[qA hw];exact oq (λv w' g=>⟨g.1,by rw[<-cm];exact g.2⟩) h
   |free=>rw[r4 hw',ej u]at h;rw[r4 hw];exact oq (λv w' g=>by rw[<-cm];exact g) h
  ·have hw':¬Region.wanted oj (yielded ops (a.put oi.dst u).tmps)=true:=by rw[wj u];exact hw
   rw[p7 hw',cm]at h;rw[p7 hw];exact h
 have wi':Region.wanted oi (yielded ops a.tmps)=true->∀u,Region.wanted oi (yielded ops (a.put oj.dst u).tmps)=true:=λh u=>by rw[wi u];exact h
 have wj':Region.wanted oj (yielded ops a.tmps)=true->∀u,Region.wanted oj (yielded ops (a.put oi.dst u).tmps)=true:=λh u=>by rw[wj u];exact h
 have wjn:¬Region.wanted oj (yielded ops a.tmps)=true->∀u,¬Region.wanted oj (yielded ops (a.put oi.dst u).tmps)=true:=λh u=>by rw[wj u];exact h
 by_cases hwi:Region.wanted oi (yielded ops a.tmps)=true
 case neg=>
  rw[p7 hwi]at h;refine wD (λv w' _ hK=> ?_) (jback undef w h);rw[p7 (by rw[wi v];exact hwi)];exact hK
 case pos=>
  cases mi with
  |pure=>
   rw[nK hwi]at h;obtain⟨v,g1,g2⟩:=h;refine wD (λu w' _ hK=> ?_) (jback v w g2);rw[nK (wi' hwi u)];exact⟨v,λw''=>by rw[ei u];exact g1 w'',hK⟩
  |read=>
   rw[rS hwi]at h;obtain⟨v,g1,g2⟩:=h;have hmj:mj≠ .free:=by rintro rfl;cases hm
   refine wD (λu w' hb hK=> ?_) (jback v w g2);have hb':=hb hmj;rw[rS (wi' hwi u)];exact⟨v,λw'' hb''=>by rw[ei u];exact g1 w'' (hb'.trans (hb''.mono hb'.size)),hK⟩
  |km=>
   have hmj:mj= .pure:=by cases mj<;>first|rfl|cases hm
   subst hmj;rw[qA hwi]at h;by_cases hwj:Region.wanted oj (yielded ops a.tmps)=true
   ·obtain⟨v0,w0,_,hb⟩:=zm h;rw[nK (wj' hwj v0)]at hb;obtain⟨vj,g1,_⟩:=hb;rw[nK hwj];refine⟨vj,λw'=>by rw[<-ej v0];exact g1 w',?_⟩;rw[qA (wi' hwi vj),ei vj];refine oq (λv w1 hr=> ?_) h;obtain⟨hbl,hr⟩:=hr;rw[nK (wj' hwj v)]at hr;obtain⟨v',g1',g2'⟩:=hr;have e1:=g1 w1;have e2:=g1' w1;rw[ej v0]at e1;rw[ej v,e1]at e2;obtain rfl:vj=v':=by simpa using e2
    exact⟨hbl,by rw[<-cm];exact g2'⟩
   ·rw[p7 hwj,qA (wi' hwi undef),ei undef];refine oq (λv w1 hr=> ?_) h;obtain⟨hbl,hr⟩:=hr;rw[p7 (wjn hwj v),cm]at hr;exact⟨hbl,hr⟩
  |free=>
   have hmj:mj= .pure:=by cases mj<;>first|rfl|cases hm
   subst hmj;rw[r4 hwi]at h;by_cases hwj:Region.wanted oj (yielded ops a.tmps)=true
   ·obtain⟨v0,w0,hb⟩:=zm h;rw[nK (wj' hwj v0)]at hb;obtain⟨vj,g1,_⟩:=hb;rw[nK hwj];refine⟨vj,λw'=>by rw[<-ej v0];exact g1 w',?_⟩;rw[r4 (wi' hwi vj),ei vj];refine oq (λv w1 hr=> ?_) h;rw[nK (wj' hwj v)]at hr;obtain⟨v',g1',g2'⟩:=hr;have e1:=g1 w1;have e2:=g1' w1;rw[ej v0]at e1;rw[ej v,e1]at e2;obtain rfl:vj=v':=by simpa using e2
    rw[<-cm];exact g2'
   ·rw[p7 hwj,r4 (wi' hwi undef),ei undef];refine oq (λv w1 hr=> ?_) h;rw[p7 (wjn hwj v),cm]at hr;exact hr
def vX (ops:Array Oper):Prop:=∀(i:Nat) (o:Oper) (cs:Array SelectCase) (b:Bool),ops[i]?=some o->o.op≠Op.select cs b
theorem BZ {Kend:Act->World->Prop} (hs:vX ops) {i:Nat} {m:Md} {oi:Oper} (hi:ops[i]?=some oi) {post:List (Nat×Md)}:
  ∀(pre:List (Nat×Md)) (a:Act) (w:World),(∀y∈pre,nJ ops y (i,m)=true)->wr P ops Kend (pre++(i,m)::post) a w->md P ops m oi a w (wr P ops Kend (pre++post))
 | [],a,w,_,h=>by simpa[wr,hi]using h
 |(y,my)::pre,a,w,hp,h=>by
  simp only[bW,wr]at h;cases hy:ops[y]?with
  |none=>rw[hy]at h;exact h.elim
  |some oy=>
   rw[hy]at h;simp only at h;have h':md P ops my oy a w (λa w=>md P ops m oi a w (wr P ops Kend (pre++post))):=
    mN (λa w hh=>BZ hs hi pre a w (λz hz=>hp z (aK _ hz)) hh) h
   have:=Hu hy hi (λcs b=>hs y oy cs b hy) (λcs b=>hs i oi cs b hi) (hp (y,my) (aQ ..)) h';refine mN (λa w hh=> ?_) this;simp only[bW,wr,hy];exact hh
def sV (ops:Array Oper):List (Nat×Md)->Bool
 | []=>true
 |i::σ=>(match ops[i.1]?with
  |some o=>o.after.all λe=> !Region.binds .any e||(Nat.blt e.on ops.size&& !Nat.beq e.on i.1&&σ.all λj=> !Nat.beq e.on j.1)
  |none=>false)&&sV ops σ
theorem vH {x:Nat×Md}:∀ {σ τ:List (Nat×Md)},sV ops (σ++x::τ)=true->sV ops (σ++τ)=true
 | [],τ,h=>by simp only[ca,sV,bl]at h⊢;exact h.2
 |y::σ,τ,h=>by
  simp only[bW,sV,bl]at h⊢;refine⟨?_,vH h.2⟩;have h1:=h.1;cases ho:ops[y.1]?with
  |none=>rw[ho]at h1;cases h1
  |some o=>
   rw[ho]at h1;simp only[dA]at h1⊢;intro e he;have:=h1 e he;simp only[du,bl,fO,fX]at this⊢;rcases this with h2|h2
   ·exact .inl h2
   ·exact .inr ⟨h2.1,h2.2.1,h2.2.2.2⟩
theorem wM {i j:Nat} (h:(!Nat.beq i j)=true):i≠j:=by
 rintro rfl;simp at h
theorem AX {Q:Exit->Act->World->Prop} {Kend:Act->World->Prop} (hs:vX ops) (hQ:∀a w,Kend a w->Q .normal a w) (n:Nat):
  ∀(fuel:Nat) (σ:List (Nat×Md)) (listed:Array Bool) (a:Act) (w:World),σ.length<=fuel->listed.size=ops.size->closed ops listed->
   (∀i,listed.getD i true=false↔∃m,(i,m)∈σ)->oH ops n σ=true->sV ops σ=true->wr P ops Kend σ a w->wpAny P .any ops Q fuel listed a w:=by
 have hempty:∀(listed:Array Bool),(∀i,listed.getD i true=false↔∃m,(i,m)∈([]:List (Nat×Md)))->Region.ready .any ops listed=[]:=by
  intro listed hl;refine gL.2 λi hi=> ?_;have:=(hl i).1 (iq.1 hi).1;obtain⟨m,hm⟩:=this;cases hm
 intro fuel;induction fuel with
 |zero=>
  intro σ listed a w hlen _ _ hl _ _ h;have:σ=[]:=cH oO;subst this;exact⟨hempty listed hl,hQ _ _ h⟩
 |succ fuel ih=>
  intro σ listed a w hlen hsz hc hl hp ht h;refine⟨λhr=> ?_,λi hi=> ?_⟩
  ·--nothing is ready:nothing is left
   cases σ with
   |nil=>exact hQ _ _ h
   |cons x σ=>
    exfalso;have hx:x.1∈Region.ready .any ops listed:=by
     refine iq.2 ⟨(hl x.1).2 ⟨x.2,aQ ..⟩,?_⟩;simp only[sV,bl]at ht;cases ho:ops[x.1]?with
     |none=>rw[ho]at ht;cases ht.1
     |some o=>
      rw[ho]at ht;refine⟨o,rfl,λe he hb=> ?_⟩;have:=dA.1 ht.1 e he;simp only[hb,iG,iH,bl]at this;obtain⟨⟨g1,g2⟩,g3⟩:=this;rw[gG]at g1;have hnot:¬∃m,(e.on,m)∈x::σ:=by
       rintro⟨m,hm⟩;rcases bJ.1 hm with rfl|hm
       ·exact wM g2 rfl
       ·exact wM (cQ.1 g3 _ hm) rfl
      have hne:listed.getD e.on true≠false:=λhf=>hnot ((hl e.on).1 hf);have hlt:e.on<listed.size:=oO;simp only[Array.getD,hlt,gj]at hne⊢;simpa using hne
    rw[hr]at hx;cases hx
  ·obtain⟨hun,oi,hoi,hdeps⟩:=iq.1 hi;obtain⟨m,hm⟩:=(hl i).1 hun;obtain⟨pre,post,rfl⟩:=List.append_of_mem hm;have hnd:∀y∈pre,y.1≠i/\(qU ops n i y.1=true\/nJ ops y (i,m)=true):=by
    clear ih h hl hlen ht hm;induction pre with
    |nil=>intro y hy;cases hy
    |cons z pre ihp=>
     simp only[bW,oH,bl,fO,fX]at hp;intro y hy;rcases bJ.1 hy with rfl|hy
     ·have h1:=hp.1.2.1;rw[du]at h1;exact⟨wM h1.1,h1.2⟩
     ·exact ihp hp.2 y hy
   have hpost:∀y∈post,i≠y.1:=by
    clear ih h hl hlen ht hm hnd;induction pre with
    |nil=>
     simp only[ca,oH,bl]at hp;intro y hy;have:=cQ.1 hp.1 y hy;simp only[bl]at this;exact wM this.1
    |cons z pre ihp=>
     simp only[bW,oH,bl]at hp;exact ihp hp.2
   have hsw:∀y∈pre,nJ ops y (i,m)=true:=λy hy=>by
    rcases(hnd y hy).2 with h1|h1
    ·have h2:=AH hc n i y.1 (λo ho e he hb=>by rw[hoi]at ho;obtain rfl:=bN ho;exact hdeps e he hb) h1;have h3:listed.getD y.1 true=false:=(hl y.1).2 ⟨y.2,by simp[hy]⟩;exfalso;rcases bI y.1 listed.size with hlt|hlt
     ·simp only[Array.getD,hlt,gj]at h2 h3;rw[h2]at h3;cases h3
     ·simp[Array.getD,gh.2 hlt]at h2
    ·exact h1
   refine r8 hoi (mN (λa w hh=> ?_) (BZ hs hoi pre a w hsw h));have hilt:i<listed.size:=by
    rcases bI i listed.size with h2|h2
    ·exact h2
    ·simp[Array.getD,gh.2 h2]at hun
   refine ih (pre++post) (listed.setIfInBounds i true) a w (by simp at hlen⊢;omega) (by simpa using hsz) ?_ ?_ (un hp) (vH ht) hh
   ·intro j o hj hjl e he hb;by_cases hji:j=i
    ·subst hji;rw[hoi]at hj;obtain rfl:=bN hj;exact jI (hdeps e he hb)
    ·rw[iI true (jJ hji)]at hjl;exact jI (hc j o hj hjl e he hb)
   ·intro j;by_cases hji:j=i
    ·subst hji;constructor
     ·intro hf;simp[Array.getD,hilt]at hf
     ·rintro⟨m',hm'⟩;rcases bO.1 hm' with h1|h1
      ·exact absurd rfl (hnd _ h1).1
      ·exact absurd rfl (hpost _ h1)
    ·rw[iI true (jJ hji),hl j];constructor
     ·rintro⟨m',hm'⟩;refine⟨m',?_⟩;rcases bO.1 hm' with h1|h1
      ·simp[h1]
      ·rcases bJ.1 h1 with h2|h2
       ·exact absurd (bQ Prod.fst h2) hji
       ·simp[h2]
     ·rintro⟨m',hm'⟩;refine⟨m',?_⟩;rcases bO.1 hm' with h1|h1
      ·simp[h1]
      ·simp[h1]
def Fh (ops:Array Oper) (σ:List (Nat×Md)):Bool:=
 Nat.ble σ.length ops.size&&(List.range ops.size).all (λi=>σ.any λx=>Nat.beq x.1 i)&&σ.all (λx=>Nat.blt x.1 ops.size)&&oH ops ops.size σ&&sV ops σ&&
 ops.all λo=>match o.op with| .select .. =>false|_=>true
end
structure Wr (P:Program) (ops:Array Oper) (Kend:Act->World->Prop) (σ:List (Nat×Md)) (N:Nat) (ρ:Nat->Value) (w:World):Prop where
 out:wr P ops Kend σ (act N ρ) w
section
variable {P : Program} {N : Nat} {ρ : Nat → Value} {w0 w : World} {Q : Exit → Act → World → Prop} {ops : Array Oper} {H : List kU} {Kend : Act → World → Prop} {i : Nat} {o : Oper} {σ : List (Nat × Md)}
theorem kC {id:Nat} {l:List Oper} (σ:List (Nat×Md)) (hm:P.follows .mixedOrders=true) (hchk:Fh l.toArray σ=true) (hS:St w0 w H)
  (h:∀w',St w0 w' H->Below w.heap.size w w'->Wr P l.toArray (Q .normal) σ N ρ w'):(Code.region id l.toArray true).wp P Q (act N ρ) w:=by
 simp only[Fh,bl]at hchk;obtain⟨⟨⟨⟨⟨h1,h2⟩,h3⟩,h4⟩,h5⟩,h6⟩:=hchk;have hs:vX l.toArray:=by
  intro i o cs b hi hsel;have:=dA.1 h6 o (gE hi);rw[hsel]at this;cases this
 have hbd:Below w.heap.size w {w with drawn:=w.drawn+1}:=(Below.refl _ w).drew;refine wp_region_any hm (AX hs (λ_ _ h=>h) l.toArray.size _ σ _ _ _ (eN h1) (by simp) ?_ ?_ h4 h5 (h _ (hS.km hbd) hbd).out)
 ·intro j o _ hl;by_cases hj:j<l.toArray.size
  ·rw[Array.getD,dif_pos (by simpa using hj)]at hl;simp at hl
  ·rename_i hjo;rw[gA oO]at hjo;cases hjo
 ·intro j;constructor
  ·intro hf;have hj:j<l.toArray.size:=by
    rcases bI j l.toArray.size with hlt|hlt
    ·exact hlt
    ·simp at hlt;simp[Array.getD,gh.2 hlt]at hf
   have:=cQ.1 h2 j (by simpa using hj);obtain⟨x,hx,hb⟩:=dG.1 this;exact⟨x.2,by rw[<-cI hb];exact hx⟩
  ·rintro⟨m,hm'⟩;have:=cQ.1 h3 _ hm';rw[gG]at this;simp at this;simp[Array.getD,this]
theorem yA (h:Kend (act N ρ) w):Wr P ops Kend [] N ρ w:=⟨h⟩
theorem kN {d:Option Tmp} {p:Op} {ty:TypeId} {pos:String} {aft:Array Edge} {g:Option (Nat×Bool)} (ho:ops[i]?=some ⟨d,p,ty,pos,aft,g⟩) (hg:gd ops N ρ g=true) (h:lX P N ρ ⟨d,p,ty,pos,aft,g⟩ λv=>Wr P ops Kend σ N (sM ρ d v) w):Wr P ops Kend ((i,.pure)::σ) N ρ w:=by
 constructor;simp only[wr,ho,md];rw[aj (oD ops N ρ ⟨d,p,ty,pos,aft,g⟩ hg),ot];obtain⟨v,h1,h2⟩:=h;exact⟨v,h1,by rw[oX];exact h2.out⟩
theorem mG {d:Option Tmp} {p:Op} {ty:TypeId} {pos:String} {aft:Array Edge} {g:Option (Nat×Bool)} (ho:ops[i]?=some ⟨d,p,ty,pos,aft,g⟩) (hg:gd ops N ρ g=true) (h:qN P N ρ w ⟨d,p,ty,pos,aft,g⟩ λv=>Wr P ops Kend σ N (sM ρ d v) w):Wr P ops Kend ((i,.read)::σ) N ρ w:=by
 constructor;simp only[wr,ho,md];rw[aj (oD ops N ρ ⟨d,p,ty,pos,aft,g⟩ hg),ot];obtain⟨v,h1,h2⟩:=h;exact⟨v,h1,by rw[oX];exact h2.out⟩
theorem yr {d:Option Tmp} {p:Op} {ty:TypeId} {pos:String} {aft:Array Edge} {g:Option (Nat×Bool)} (ho:ops[i]?=some ⟨d,p,ty,pos,aft,g⟩) (hg:gd ops N ρ g=true) (h:pd P N ρ w ⟨d,p,ty,pos,aft,g⟩ λv w'=>Below w.heap.size w w'/\Wr P ops Kend σ N (sM ρ d v) w'):Wr P ops Kend ((i,.km)::σ) N ρ w:=by
 constructor;simp only[wr,ho,md];rw[aj (oD ops N ρ ⟨d,p,ty,pos,aft,g⟩ hg),ot];simp only[oX];exact oq (λv w h=>⟨h.1,h.2.out⟩) h.out
theorem TS {d:Option Tmp} {p:Op} {ty:TypeId} {pos:String} {aft:Array Edge} {g:Option (Nat×Bool)} (ho:ops[i]?=some ⟨d,p,ty,pos,aft,g⟩) (hg:gd ops N ρ g=true) (h:pd P N ρ w ⟨d,p,ty,pos,aft,g⟩ λv w'=>Wr P ops Kend σ N (sM ρ d v) w'):Wr P ops Kend ((i,.free)::σ) N ρ w:=by
 constructor;simp only[wr,ho,md];rw[aj (oD ops N ρ ⟨d,p,ty,pos,aft,g⟩ hg),ot];simp only[oX];exact oq (λv w h=>Wr.out h) h.out
theorem nO {m:Md} {d:Option Tmp} {p:Op} {ty:TypeId} {pos:String} {aft:Array Edge} {g:Option (Nat×Bool)} (ho:ops[i]?=some ⟨d,p,ty,pos,aft,g⟩) (hg:SE ops N ρ g=true) (h:Wr P ops Kend σ N (sM ρ d undef) w):Wr P ops Kend ((i,m)::σ) N ρ w:=by
 constructor;simp only[wr,ho,md];rw[ah (by rw[C6 ops N ρ ⟨d,p,ty,pos,aft,g⟩ hg];decide),oX];exact h.out
end
section
variable {P : Program} {N : Nat} {ρ : Nat → Value} {w0 w : World} {H : List kU} {k b : Nat} {t : TypeId} {cs : List Value}
theorem EW {fn:Func} {t u v:Nat} {R:Value->World->Prop} {x y z:Value} (hr:fn.results= #[.tmp t,.tmp u,.tmp v]) (hx:ev N ρ (.tmp t)=x) (hy:ev N ρ (.tmp u)=y) (hz:ev N ρ (.tmp v)=z) (h:R (.tuple #[x,y,z]) w):
  bodyPost P fn (λe w'=>∃v,e= .returned v/\R v w') .ret (act N ρ) w:=
 gB (results_tmp3 hr _ _ _) rfl ⟨_,rfl,by rw[nU,nU,nU,hx,hy,hz];exact h⟩
theorem St.cast {H':List kU} (h:St w0 w H) (e:H=H'):St w0 w H':=e▸h
theorem St.loadVar {n:Nat} {zz:List Value} {ty:TypeId} (hS:St w0 w H) (hk:H[k]?=some (b,t,cs)) (ht:lO P ty=some (n,true,zz)) (hn:cs.length=n):
  (Go.loadVar ty ⟨b,0,none⟩).run P w= .ok (.agg cs.toArray) w:=by
 obtain⟨i,dd,zv,hi,hu,_,hs,hag,_⟩:=qI ht;exact run_loadVar_row w b t ty cs.toArray (0,0) dd (hS.get hk) hu (by cases dd<;>first|rfl|cases hag) (by rw[hi];simp[hs,hn])
theorem mb {fn:Func} {p n:Nat} {ty:TypeId} {zz:List Value} {R:Value->World->Prop} (hr:fn.results= #[.cell p ty]) (hp:ev N ρ (.tmp p)= .pointer (some ⟨b,0,none⟩)) (ht:lO P ty=some (n,true,zz))
  (hS:St w0 w H) (hk:H[k]?=some (b,t,cs)) (hn:cs.length=n) (h:R (.agg cs.toArray) w):
  bodyPost P fn (λe w'=>∃v,e= .returned v/\R v w') .ret (act N ρ) w:=by
 refine gB (v:= .agg cs.toArray) ?_ rfl ⟨_,rfl,h⟩;obtain⟨i,dd,zv,hi,hu,_,hs,hag,_⟩:=qI ht;exact results_cell_row hr _ w b t cs.toArray (0,0) dd (by rw[nU,hp]) (hS.get hk) hu (by cases dd<;>first|rfl|cases hag) (by rw[hi];simp[hs,hn])
theorem nb {fn:Func} {p u n:Nat} {ty:TypeId} {zz:List Value} {y:Value} {R:Value->World->Prop} (hr:fn.results= #[.cell p ty,.tmp u]) (hp:ev N ρ (.tmp p)= .pointer (some ⟨b,0,none⟩)) (hy:ev N ρ (.tmp u)=y) (ht:lO P ty=some (n,true,zz))
  (hS:St w0 w H) (hk:H[k]?=some (b,t,cs)) (hn:cs.length=n) (h:R (.tuple #[.agg cs.toArray,y]) w):
  bodyPost P fn (λe w'=>∃v,e= .returned v/\R v w') .ret (act N ρ) w:=by
 refine gB (v:= .tuple #[.agg cs.toArray,y]) ?_ rfl ⟨_,rfl,h⟩;rw[results_cell_tmp hr,nU,nU,hp,hy];have hl:=hS.loadVar hk ht hn;simp only[asAddr,io,dp];rw[hl];simp[Result.andThen]
end
theorem St.join {w0 w1 w2:World} {H0 H1:List kU} (h0:St w0 w1 H0) (h1:St w1 w2 H1):St w0 w2 (H1++H0):=by
 refine⟨h0.j4.trans (h1.j4.mono h0.j4.size),λe he=> ?_,?_⟩
 ·rcases bO.1 he with h|h
  ·exact⟨dx h0.j4.size (h1.own e h).1,(h1.own e h).2⟩
  ·exact⟨(h0.own e h).1,by rw[h1.j4.block _ (h0.lt h)];exact(h0.own e h).2⟩
 ·rw[bH,dt];refine⟨h1.nd,h0.nd,?_⟩;rintro a ha b hb rfl;obtain⟨x,hx,rfl⟩:=bX.1 ha;obtain⟨y,hy,hyx⟩:=bX.1 hb;have:=(h1.own x hx).1;have:=h0.lt hy;omega
def Gl {α:Type} (enc:α->List Value) (e:TypeId) (size:Nat) (v:Value) (X:List α) (L:List kU):Prop:=Gs e size v X.length (X.flatMap enc) L
section
variable {α : Type} {enc : α → List Value} {e : TypeId} {size : Nat} {w0 w : World} {H L : List kU} {X : List α} {v : Value}
theorem Gl.nil (enc:α->List Value) (e:TypeId) (size:Nat):Gl enc e size (.slice none 0 0) [] []:=Gs.nil e size
theorem Gl.sl (hG:Gl enc e size v X L) (hS:St w0 w (H++L)) (hu:∀x,(enc x).length=size):Sl enc size w v X:=by
 obtain⟨hX,⟨rfl,h0,_⟩|⟨b,cap,spare,rfl,rfl,h1,h2,h3⟩⟩:=hG
 ·obtain rfl:X=[]:=cH h0;exact Sl.nil _ _ _
 ·exact(hS.perm aF).sl (k:=0) (b:=b) (t:=e) (cs:=X.flatMap enc++spare) rfl rfl hu h1 h2
theorem Gl.ON {z:List Value} {n b:Nat} (hz:z.length=size) (hn:n<=9223372036854775807):Gl enc e size (.slice (some ⟨b,0,none⟩) 0 n) [] [(b,e,rep n z)]:=by
 refine⟨by simp,.inr ⟨b,n,rep n z,rfl,rfl,aB _,by unfold Go.maxLen;omega,?_⟩⟩;simp[Cx,hz]
theorem Gl.len (hG:Gl enc e size v X L):∃a cap,v= .slice a X.length cap:=by
 obtain⟨_,⟨rfl,h0,_⟩|⟨b,cap,spare,rfl,_⟩⟩:=hG
 ·exact⟨none,0,by rw[h0]⟩
 ·exact⟨_,_,rfl⟩
end
section
variable {P : Program} {N : Nat} {ρ : Nat → Value} {w0 w w' : World} {d : Option Tmp} {ty : TypeId} {pos : String} {aft : Array Edge} {g : Option (Nat × Bool)} {x y z : Operand} {t t' e : TypeId} {H L : List kU} {b : Nat} {cs : List Value} {v : Value} {K2 : Value → World → Prop}
theorem mf {α:Type} {enc:α->List Value} {size bytes c:Nat} {zz:List Value} {X:List α} (xs:List α) {xv:Value} (hx:ev N ρ x=v) (hy:ev N ρ y=xv) (ht:sinfo P t=some (e,size,bytes,zz)) (hsz:0<size)
  (hG:Gl enc e size v X L) (hS:St w0 w ((b,t',cs)::(H++L))) (hxv:xv= .slice (some ⟨b,0,none⟩) xs.length c) (hcs:cs=xs.flatMap enc) (hu:∀x,(enc x).length=size) (h1:∀u∈cs,u.oneCell'=true)
  (h63:X.length+xs.length<=9223372036854775807) (hb:(X.length+xs.length)*bytes<=140737488355328)
  (h:∀v' L' w',Gl enc e size v' (X++xs) L'->St w0 w' (H++L')->w.heap.size<=w'.heap.size->K2 v' w'):
  pd P N ρ w ⟨d,.call ⟨.builtin .append,#[x,y],#[t,t]⟩,ty,pos,aft,g⟩ K2:=by
 have hat:=hS.at (k:=0) (b:=b) (t:=t') (cs:=cs) rfl 0 cs.length;rw[List.drop_zero,bR]at hat;refine Sk hx hy ht hsz hG (hS.perm ((List.Perm.cons _ aF).trans List.perm_middle.symm)) hxv (by rw[hcs,lS hu]) hat h1 h63 hb (λv' L' w' hG' hS' _ hge=> ?_);refine h v' L' w' ?_ (((hS'.perm List.perm_middle).drop (ab _ _)).perm aF) hge;unfold Gl;rw[aG,dy,<-hcs];exact hG'
theorem TR (k:IntKind) (xs:List Nat):∀u∈xs.flatMap (uk k),u.oneCell'=true:=by
 intro u hu;obtain⟨x,_,hx⟩:=dQ.1 hu;rw[aZ.1 hx];rfl
theorem TW {el t'':TypeId} {X:List Nat} {K:Value->Prop} (hx:ev N ρ x=v) (ht:P.underlying t=some (.slice el)/\P.underlying el=some (.int .u8)/\P.underlying t''=some .string) (hG:Gl (uk .u8) e 1 v X L) (hS:St w0 w (H++L))
  (h:K (.string (zI X))):qN P N ρ w ⟨d,.convert t t'' x,ty,pos,aft,g⟩ K:=by
 obtain⟨hX,⟨rfl,h0,rfl⟩|⟨b,cap,spare,rfl,rfl,h1,h2,h3⟩⟩:=hG
 ·obtain rfl:X=[]:=cH h0;refine⟨_,λw' hb=> ?_,h⟩;simp[execOp,hx,run_convert_bytes_string w' t t'' el none 0 0 ht.1 ht.2.1 ht.2.2,Conv.bytesToString,zI];rfl
 ·refine Sj hx ht rfl ?_ h;have hat:=(hS.perm aF).at (k:=0) (b:=b) (t:=e) (cs:=X.flatMap (uk .u8)++spare) rfl 0 (X.flatMap (uk .u8)).length;rw[List.drop_zero,List.take_left]at hat;rw[JM];exact hat
theorem NU {α:Type} {enc:α->List Value} {sz by_ n:Nat} {zz:List Value} {kl kc:IntKind} {ml mc:Int} (hx:ev N ρ x= .int kl ml) (hy:ev N ρ y= .int kc mc) (ht:sinfo P t=some (e,sz,by_,zz)) (hml:ml=0) (hmc:mc=(n:Int))
  (h1:by_*n<=281474976710656) (h2:n<=9223372036854775807) (hS:St w0 w H)
  (h:∀v L w',Gl enc e sz v [] L->St w0 w' (H++L)->Below w.heap.size w w'->K2 v w'):
  pd P N ρ w ⟨d,.makeSlice t x y,ty,pos,aft,g⟩ K2:=by
 obtain⟨_,_,_,_,_,_,_,_,hzl⟩:=mE ht;exact QY hx hy ht hml hmc h1 h2 hS (λb w' hS' hB=>h _ [(b,e,rep n zz)] w' (Gl.ON hzl h2) (hS'.perm (aF (l₁:=[(b,e,rep n zz)]))) hB)
end
section
variable {α : Type} {enc : α → List Value} {size : Nat}
theorem EA (hu:∀x,(enc x).length=size) (L:List α) (i:Nat):(L.flatMap enc).drop (i*size)=(L.drop i).flatMap enc:=by
 induction L generalizing i with
 |nil=>simp
 |cons x L ih=>
  cases i with
  |zero=>simp
  |succ i=>
   rw[cB,List.drop_append,hu,List.drop_eq_nil_of_le (by rw[hu,bA];omega),ca,List.drop_succ_cons,<-ih i];congr 1;rw[bA];omega
theorem uT (hu:∀x,(enc x).length=size) (L:List α) (i:Nat):(L.flatMap enc).take (i*size)=(L.take i).flatMap enc:=by
 induction L generalizing i with
 |nil=>simp
 |cons x L ih=>
  cases i with
  |zero=>simp
  |succ i=>
   rw[cB,iL,hu,aV (by rw[hu,bA];omega),List.take_succ_cons,cB,<-ih i];congr 2;rw[bA];omega
theorem DW (hu:∀x,(enc x).length=size) (L:List α) (d:α) {i:Nat} (hi:i<L.length):((L.flatMap enc).drop (i*size)).take size=enc (L.getD i d):=by
 rw[EA hu,dX hi,cB,iL,aV (by rw[hu];exact aH _),hu,ec,fh,aU];rw[ap,aJ hi];rfl
theorem wZ (hu:∀x,(enc x).length=size) (L:List α) (x:α) {i:Nat} (hi:i<L.length):splice (L.flatMap enc) (i*size) (enc x)=(L.set i x).flatMap enc:=by
 unfold splice;rw[uT hu,hu,show i*size+size=(i+1)*size by rw[bA];omega,EA hu,jG,aj hi,dy,cB,aI]
theorem GO (z:α) (n:Nat):rep n (enc z)=(List.replicate n z).flatMap enc:=by
 induction n with
 |zero=>rfl
 |succ n ih=>rw[wV,ih];rfl
end
section
variable {w0 w : World} {H : List kU} {b k : Nat} {t : TypeId}
theorem St.sle {α:Type} {enc:α->List Value} {size:Nat} {L:List α} (h:St w0 w H) (hk:H[k]?=some (b,t,L.flatMap enc)) (hu:∀x,(enc x).length=size) {n cap:Nat} (hn:n<=L.length) (h1:n<=cap) (h2:cap<=9223372036854775807):
  Sl enc size w (.slice (some ⟨b,0,none⟩) n cap) (L.take n):=by
 have hl:(L.take n).length=n:=by simp;omega
 have:=h.sl (enc:=enc) (size:=size) (L:=L.take n) (spare:=(L.drop n).flatMap enc) (cap:=cap) hk (by rw[<-dy,dc]) hu (by rw[hl];exact h1) (by unfold Go.maxLen;omega);rwa[hl]at this
end
section
variable {P : Program} {N : Nat} {ρ : Nat → Value} {w0 w w' : World}
  {d : Option Tmp} {ty : TypeId} {pos : String} {aft : Array Edge} {g : Option (Nat × Bool)} {x y z : Operand} {t t' e : TypeId} {H : List kU} {k b o : Nat} {v : Value} {K : Value → Prop} {K2 : Value → World → Prop}
theorem SQ {α:Type} {enc:α->List Value} {size:Nat} {L:List α} {i:Nat} {zz:List Value} {agg:Bool} (dd:α) (hu:∀x,(enc x).length=size) (hx:ev N ρ x= .pointer (some ⟨b,o,none⟩)) (ht:lO P t=some (size,agg,zz)) (hS:St w0 w H) (hk:H[k]?=some (b,t',L.flatMap enc))
  (ho:o=i*size) (hi:i<L.length) (hv:RY agg (enc (L.getD i dd))=v) (hagg:agg=true\/size=1) (h:K v):qN P N ρ w ⟨d,.load t x,ty,pos,aft,g⟩ K:=by
 subst ho;have hat:=hS.at hk (i*size) size;rw[DW hu L dd hi]at hat;exact oB hx ht hat (hu _) hv hagg h
theorem zp {α:Type} {enc:α->List Value} {size:Nat} {L:List α} {i:Nat} {zz:List Value} {agg:Bool} (u:α) (hu:∀x,(enc x).length=size) (hx:ev N ρ x= .pointer (some ⟨b,o,none⟩)) (hy:ev N ρ y=v) (ht:lO P t=some (size,agg,zz)) (hS:St w0 w H) (hk:H[k]?=some (b,t',L.flatMap enc))
  (ho:o=i*size) (hi:i<L.length) (hv:v.cells.toList=enc u) (h1:(enc u).all (·.oneCell')=true)
  (h:∀w',St w0 w' (H.set k (b,t',(L.set i u).flatMap enc))->K2 undef w'):pd P N ρ w ⟨d,.store t x y,ty,pos,aft,g⟩ K2:=by
 subst ho;refine lI hx hy ht hS hk hv (hu u) ?_ h1 (λw' hS'=> ?_)
 ·rw[lS hu];have:(i+1)*size<=L.length*size:=aO _ hi;rw[bA]at this;omega
 ·rw[wZ hu L u hi]at hS';exact h w' hS'
theorem lR {α:Type} {enc:α->List Value} {size by_ n:Nat} {zz:List Value} {kl kc:IntKind} {ml mc:Int} (zd:α) (hx:ev N ρ x= .int kl ml) (hy:ev N ρ y= .int kc mc) (ht:sinfo P t=some (e,size,by_,zz)) (hz:zz=enc zd) (hml:ml=(n:Int)) (hmc:mc=(n:Int))
  (h1:by_*n<=281474976710656) (h2:n<=9223372036854775807) (hS:St w0 w H)
  (h:∀b w',St w0 w' ((b,e,(List.replicate n zd).flatMap enc)::H)->Below w.heap.size w w'->K2 (.slice (some ⟨b,0,none⟩) n n) w'):
  pd P N ρ w ⟨d,.makeSlice t x y,ty,pos,aft,g⟩ K2:=by
 refine Av hx hy ht hml hmc h1 h2 hS (λb w' hS' hB=> ?_);rw[hz,GO]at hS';exact h b w' hS' hB
end
theorem NF {a:Addr} (h:a.spot=none) (n:Nat):(a.add n).spot=none:=by
 obtain⟨b,o,s⟩:=a;subst h;rw[add_lit]
theorem At.sub {w:World} {a:Addr} {cs:List Value} (hs:a.spot=none) (h:At w a cs) (k n:Nat):At w (a.add k) ((cs.drop k).take n):=by
 obtain⟨b,o,s⟩:=a;subst hs;rw[add_lit];exact h.seg k n
section
variable {P : Program} {N : Nat} {ρ : Nat → Value} {w : World}
  {d : Option Tmp} {ty : TypeId} {pos : String} {aft : Array Edge} {g : Option (Nat × Bool)} {x : Operand} {t : TypeId} {v : Value} {K : Value → Prop}
theorem nw {α:Type} {enc:α->List Value} {size:Nat} {L:List α} (hS:Sl enc size w v L) (hu:∀x,(enc x).length=size) (hs:0<size) {i:Nat} (hi:i<L.length):((tB v).add (i*size)).spot=none:=
 NF (hS.spot hu hs oO) _
theorem oR {f off:Nat} {a:Addr} (hx:ev N ρ x= .pointer (some a)) (hs:a.spot=none) (hf:nZ P t f=some off) (h:K (.pointer (some (a.add off)))):
  lX P N ρ ⟨d,.fieldAddr t x f,ty,pos,aft,g⟩ K:=by
 obtain⟨b,o,s⟩:=a;subst hs;rw[add_lit]at h;exact lC hx hf h
theorem oL {α:Type} {enc:α->List Value} {size:Nat} {L:List α} {i off m:Nat} {agg:Bool} {zz:List Value} {vs:Value} (dd:α) (hx:ev N ρ x= .pointer (some (((tB vs).add (i*size)).add off))) (ht:lO P t=some (m,agg,zz))
  (hS:Sl enc size w vs L) (hu:∀x,(enc x).length=size) (hs:0<size) (hi:i<L.length) (hn:(((enc (L.getD i dd)).drop off).take m).length=m) (hv:RY agg (((enc (L.getD i dd)).drop off).take m)=v) (hagg:agg=true\/m=1)
  (h:K v):qN P N ρ w ⟨d,.load t x,ty,pos,aft,g⟩ K:=
 oB hx ht (At.sub (nw hS hu hs hi) (hS.at hi dd) off m) hn hv hagg h
end
open Go
def lA (b:Nat):List Nat->Nat
 | []=>0
 |d::l=>d+b*lA b l
def tA (b n:Nat):List Nat:=
 if _h:n=0\/b<2 then []else n%b::tA b (n/b)
termination_by n
decreasing_by
  have h1 : n ≠ 0 := fun e => _h (.inl e)
  exact j0 (by omega) (by omega)
theorem nL (b:Nat):tA b 0=[]:=by rw[tA];simp
theorem uY {b n:Nat} (hb:2<=b) (hn:0<n):tA b n=n%b::tA b (n/b):=by
 rw[tA,dif_neg oO]
theorem su {b:Nat} (hb:2<=b) (n:Nat):lA b (tA b n)=n:=by
 induction n using Nat.strongRecOn with
 |_ n ih=>
  rcases dm n with rfl|hn
  ·rw[nL];rfl
  ·rw[uY hb hn,lA,ih _ (j0 hn oO)];exact fo n b
theorem zn {b:Nat} (hb:2<=b) (n:Nat):∀d∈tA b n,d<b:=by
 induction n using Nat.strongRecOn with
 |_ n ih=>
  rcases dm n with rfl|hn
  ·rw[nL];intro d hd;cases hd
  ·rw[uY hb hn];intro d hd;rcases bJ.1 hd with rfl|hd
   ·exact bG _ oO
   ·exact ih _ (j0 hn oO) d hd
theorem tu {b:Nat} (l:List Nat) (h:∀d∈l,d<b):lA b l<b^l.length:=by
 induction l with
 |nil=>simp[lA]
 |cons d l ih=>
  have h1:=ih (λx hx=>h x (aK _ hx));have h2:=h d (aQ ..);rw[lA,bj,bC,bF (b^l.length) b];have:b*(lA b l+1)<=b*b^l.length:=bB _ h1;rw[ba]at this;omega
theorem se (b:Nat) (l m:List Nat):lA b (l++m)=lA b l+b^l.length*lA b m:=by
 induction l with
 |nil=>simp[lA]
 |cons d l ih=>
  rw[bW,lA,ih,lA,bj,bC,ba,bF (b^l.length) b,bk,dU]
theorem zA (b n:Nat):lA b (List.replicate n 0)=0:=by
 induction n with
 |zero=>rfl
 |succ n ih=>rw[fU,lA,ih];simp
def trimmed (l:List Nat):Prop:=l.getLast?≠some 0
theorem rM {b:Nat} (hb:2<=b):∀(l:List Nat),trimmed l->l≠ []->0<lA b l
 | [],_,h=>absurd rfl h
 | [d],h,_=>by
  simp only[trimmed,List.getLast?_singleton,ne_eq,gw]at h;simp only[lA];omega
 |d::e::l,h,_=>by
  have h':trimmed (e::l):=by simpa[trimmed,List.getLast?_cons_cons]using h
  have:=rM hb (e::l) h' (by simp);rw[lA];have:0<b*lA b (e::l):=dK oO this;omega
theorem xf {b:Nat} (hb:2<=b):∀(l:List Nat),(∀d∈l,d<b)->trimmed l->tA b (lA b l)=l
 | [],_,_=>by rw[lA,nL]
 |d::l,h,ht=>by
  have hd:=h d (aQ ..);have hpos:=rM hb (d::l) ht (by simp);have hl:trimmed l:=by
   cases l with
   |nil=>simp[trimmed]
   |cons e l=>simpa[trimmed,List.getLast?_cons_cons]using ht
  rw[uY hb hpos,lA];have h1:(d+b*lA b l)%b=d:=by rw[eJ];exact bh hd
  have h2:(d+b*lA b l)/b=lA b l:=by
   rw[da _ _ oO,bV hd,bZ]
  rw[h1,h2,xf hb l (λx hx=>h x (aK _ hx)) hl]
theorem vv {b:Nat} (hb:2<=b) (l:List Nat) (n:Nat) (h:∀d∈l,d<b) (hn:n<=l.length) (hz:∀i,n<=i->i<l.length->l.getD i 0=0) (hl:n=0\/l.getD (n-1) 0≠0):
  l.take n=tA b (lA b l):=by
 have hsplit:l=l.take n++List.replicate (l.length-n) 0:=by
  conv=>lhs;rw[<-dc n l]
  congr 1;apply ff
  ·simp
  ·intro i h1 h2;simp only[List.getElem_drop,List.getElem_replicate];have:=hz (n+i) oO (by simp at h1;omega);rwa[ap,aJ (by simp at h1;omega)]at this
 have hv:lA b l=lA b (l.take n):=by
  conv=>lhs;rw[hsplit]
  rw[se,zA];simp
 rw[hv,xf hb _ (λd hd=>h d (gQ hd))];unfold trimmed;rcases hl with rfl|hl
 ·simp
 ·rcases dm n with rfl|hp
  ·simp
  ·rw[List.getLast?_eq_getElem?,dg,gU hn,jD,aj oO];intro h0;rw[ap,h0]at hl;exact hl rfl
theorem pS {b:Nat} (hb:2<=b):∀(k n:Nat),n<b^k->(tA b n).length<=k:=by
 intro k;induction k with
 |zero=>intro n hn;simp at hn;subst hn;rw[nL];simp
 |succ k ih=>
  intro n hn;rcases dm n with rfl|hp
  ·rw[nL];simp
  ·rw[uY hb hp,bj];have:=ih (n/b) (by rw[iV oO];rw[bC]at hn;exact hn);omega
theorem mT {b:Nat} (hb:2<=b) (n:Nat):n<b^(tA b n).length:=by
 have:=tu (tA b n) (zn hb n);rwa[su hb]at this
theorem nH {b m n:Nat} (hb:2<=b) (h:m<=n):(tA b m).length<=(tA b n).length:=
 pS hb _ _ (ct h (mT hb n))
theorem rN {b n k:Nat} (hb:2<=b) (h:k<(tA b n).length):b^k<=n:=by
 rcases bI n (b^k)with h1|h1
 ·have:=pS hb k n h1;omega
 ·exact h1
theorem AS {b n:Nat} (hb:2<=b):tA b n=[]↔n=0:=by
 constructor
 ·intro h;have:=su hb n;rw[h]at this;exact this.symm
 ·rintro rfl;exact nL b
def oo (s:ByteArray):List Nat:=s.data.toList.map UInt8.toNat
def val (s:ByteArray):Nat:=lA 256 (oo s).reverse
def kG (n:Nat):ByteArray:=zI (tA 256 n).reverse
theorem wR (l:List Nat) (h:∀d∈l,d<256):oo (zI l)=l:=by
 unfold oo zI;simp only[fK];conv=>rhs;rw[<-List.map_id l]
 apply eY;intro d hd;simp only[Function.comp,id];rw[UInt8.toNat_ofNat'];exact bh (h d hd)
theorem Gx (s:ByteArray):zI (oo s)=s:=by
 cases s with
 |mk a=>
  unfold oo zI;simp only[fK];congr 1;apply Array.ext';simp only;conv=>rhs;rw[<-List.map_id a.toList]
  apply eY;intro x _;simp
theorem z9 (s:ByteArray):∀d∈oo s,d<256:=by
 intro d hd;obtain⟨x,_,rfl⟩:=bX.1 hd;exact x.toNat_lt
theorem pJ (s:ByteArray):(oo s).length=s.size:=by unfold oo;rw[aS,fW];rfl
theorem kY (n:Nat):val (kG n)=n:=by
 unfold val kG;rw[wR _ (λd hd=>zn dD n d (dW.1 hd)),gP,su dD]
theorem CI {m n:Nat} (h:kG m=kG n):m=n:=by rw[<-kY m,h,kY]
theorem PN (l:List Nat) (h:∀d∈l,d<256):val (zI l)=lA 256 l.reverse:=by unfold val;rw[wR l h]
theorem rZ (n:Nat):(kG n).size=(tA 256 n).length:=by
 rw[<-pJ,kG,wR _ (λd hd=>zn dD n d (dW.1 hd)),fw]
theorem E7 (s:ByteArray):val s<256^s.size:=by
 have:=tu (b:=256) (oo s).reverse (λd hd=>z9 s d (dW.1 hd));rwa[fw,pJ]at this
theorem p8 (s:ByteArray):(kG (val s)).size<=s.size:=by rw[rZ];exact pS dD _ _ (E7 s)
theorem Er:kG 0=ByteArray.empty:=by unfold kG;rw[nL];rfl
theorem Dh {n:Nat}:kG n=ByteArray.empty↔n=0:=by
 rw[<-Er];exact⟨λh=>CI h,λh=>by rw[h]⟩
theorem wG:kG 1=⟨#[1]⟩:=by
 unfold kG;rw[uY dD dD,show 1/256=0 from rfl,nL];rfl
abbrev kb:Nat:=4294967296
def kJ (n:Nat):List Nat:=tA kb n
theorem lu {n k:Nat} (h:n<256^k):(kG n).size<=k:=by rw[rZ];exact pS dD _ _ h
theorem qd (n:Nat):n<256^(kG n).size:=by rw[rZ];exact mT dD n
theorem lP {m n:Nat} (h:m<=n):(kG m).size<=(kG n).size:=lu (ct h (qd n))
theorem lJ (m n:Nat):(kG (m*n)).size<=(kG m).size+(kG n).size:=by
 refine lu ?_;rw[dB];have h1:=qd m;have h2:=qd n;exact ib h1 (fS h2) (ct (aB _) h2)
theorem uv (m n:Nat):(kG (m+n)).size<=max (kG m).size (kG n).size+1:=by
 refine lu ?_;have h1:m<256^max (kG m).size (kG n).size:=dw (qd m) (bM dD (Nat.le_max_left _ _));have h2:n<256^max (kG m).size (kG n).size:=dw (qd n) (bM dD (jR _ _));rw[bC];omega
theorem pH:(kG 1).size=1:=by rw[wG];rfl
theorem uu {n:Nat} (h:0<n):1<=(kG n).size:=by
 have:=lP (m:=1) (n:=n) h;rwa[pH]at this
theorem ye:val ⟨#[1]⟩=1:=by rw[<-wG,kY]
theorem n4 {n:Nat}:kG n=⟨#[]⟩↔n=0:=Dh
theorem Ri:val ⟨#[]⟩=0:=rfl
structure RR where
 neg:Bool
 num:ByteArray
 den:ByteArray
 deriving DecidableEq
def j5 (r:RR):List Value:=[.bool r.neg,.string r.num,.string r.den]
def kW (r:RR):Value:= .agg #[.bool r.neg,.string r.num,.string r.den]
theorem ks:∀r,(j5 r).length=3:=λ_=>rfl
def sg (b:Bool) (n:Nat):Int:=if b then-(n:Int)else n
theorem DF (b:Bool) (n:Nat):(sg b n).natAbs=n:=by unfold sg;split<;>simp
def j8 (q:Rat):RR:=⟨decide (q.num<0),kG q.num.natAbs,if q.den=1 then⟨#[]⟩else kG q.den⟩
def dv (s:ByteArray):Nat:=if s=⟨#[]⟩then 1 else val s
def M5 (r:RR):Rat:=mkRat (sg r.neg (val r.num)) (dv r.den)
def Ka (r:RR):Prop:=j8 (M5 r)=r
instance (r:RR):Decidable (Ka r):=inferInstanceAs (Decidable (j8 (M5 r)=r))
def toQ (r:RR):Rat:=if Ka r then M5 r else 0
def fx (r:RR):RR:=j8 (toQ r)
theorem QZ {d:Nat} (h:d≠0):dv (if d=1 then⟨#[]⟩else kG d)=d:=by
 unfold dv;by_cases h1:d=1
 ·simp[h1]
 ·rw[ah h1,ah (by rw[n4];exact h),kY]
theorem GS (q:Rat):M5 (j8 q)=q:=by
 unfold M5 j8;simp only;rw[QZ q.den_nz,kY];have:sg (decide (q.num<0)) q.num.natAbs=q.num:=by
  unfold sg;by_cases h:q.num<0<;>simp[h]<;>omega
 rw[this,eC]
theorem KW (q:Rat):Ka (j8 q):=by unfold Ka;rw[GS]
@[simp] theorem toQ_ofQ (q:Rat):toQ (j8 q)=q:=by unfold toQ;rw[aj (KW q),GS]
theorem FK {r:RR} (h:Ka r):j8 (toQ r)=r:=by unfold toQ;rw[aj h];exact h
theorem Tf {r:RR} (h:Ka r):fx r=r:=FK h
theorem ol:j8 0=⟨false,⟨#[]⟩,⟨#[]⟩⟩:=by
 unfold j8;simp only[Rat.zero_num,Rat.zero_den,gZ];rw[show(0:Int).natAbs=0 from rfl,n4.2 rfl];rfl
theorem F8 {r:RR} (h:¬Ka r):toQ r=0:=by unfold toQ;rw[ah h]
theorem TZ {r:RR} (h:¬Ka r):fx r=⟨false,⟨#[]⟩,⟨#[]⟩⟩:=by unfold fx;rw[F8 h,ol]
theorem sw {q:Rat}:(j8 q).num=⟨#[]⟩↔q=0:=by
 show kG q.num.natAbs=_↔_;rw[n4,jE,fN]
theorem CC {b:Bool} {n d:Nat} (hn:0<n) (hd:d≠0) (hc:Nat.gcd n d=1):j8 (mkRat (sg b n) d)=⟨b,kG n,if d=1 then⟨#[]⟩else kG d⟩:=by
 have e:(⟨sg b n,d,hd,by rw[DF];exact hc⟩:Rat)=mkRat (sg b n) d:=Rat.mk_eq_mkRat ..;rw[<-e];unfold j8;simp only[DF];have:decide (sg b n<0)=b:=by
  unfold sg;cases b
  ·simp
  ·simp;omega
 rw[this]
theorem Ei {b:Bool} {n d g:Nat} (hd:d≠0) (hg:g=Nat.gcd n d):mkRat (sg b n) d=mkRat (sg b (n/g)) (d/g):=by
 have hgp:0<g:=by rw[hg];exact iE _ oO
 have h1:g*(n/g)=n:=jj (by rw[hg];exact iK _ _);have h2:g*(d/g)=d:=jj (by rw[hg];exact fq _ _);have h3:sg b n=(g:Int)*sg b (n/g):=by
  unfold sg;have:((n:Nat):Int)=(g:Int)*((n/g:Nat):Int):=by exact_mod_cast h1.symm
  split
  ·rw[this,Int.mul_neg]
  ·exact this
 conv=>lhs;rw[h3,<-h2]
 exact Rat.mkRat_mul_left oO
theorem QO (r:RR):Ka r↔kG (val r.num)=r.num/\kG (val r.den)=r.den/\
  (r.num=⟨#[]⟩->r.neg=false/\r.den=⟨#[]⟩)/\(r.num≠⟨#[]⟩->r.den=⟨#[]⟩\/(r.den≠⟨#[1]⟩/\Nat.gcd (val r.num) (val r.den)=1)):=by
 constructor
 ·intro h;obtain⟨q,rfl⟩:∃q,r=j8 q:=⟨_,h.symm⟩;have hnum:val (j8 q).num=q.num.natAbs:=kY _;refine⟨by rw[hnum];rfl,?_,?_,?_⟩
  ·show kG (val (if q.den=1 then _ else _))=if q.den=1 then _ else _
   split
   ·rw[Ri];exact n4.2 rfl
   ·rw[kY]
  ·intro h0;have:q=0:=sw.1 h0;subst this;rw[ol];exact⟨rfl,rfl⟩
  ·intro h0;by_cases h1:q.den=1
   ·left;show(if q.den=1 then _ else _)=_;rw[aj h1]
   ·right;have hden:(j8 q).den=kG q.den:=by show(if q.den=1 then _ else _)=_;rw[ah h1]
    rw[hnum,hden,kY];exact⟨λh2=>h1 (by rw[<-kY q.den,h2,ye]),q.reduced⟩
 ·rintro⟨h1,h2,h3,h4⟩;by_cases h0:r.num=⟨#[]⟩
  ·obtain⟨g1,g2⟩:=h3 h0;have:r=j8 0:=by rw[ol];cases r;simp_all
   rw[this];exact KW 0
  ·have hn:0<val r.num:=by
    rcases dm (val r.num)with g|g
    ·rw[g,n4.2 rfl]at h1;exact absurd h1.symm h0
    ·exact g
   unfold Ka M5;rcases h4 h0 with g|⟨g1,g2⟩
   ·have hd:dv r.den=1:=by unfold dv;rw[aj g]
    rw[hd,CC hn dD (jK _),aj rfl,h1];cases r;simp_all
   ·by_cases hd0:r.den=⟨#[]⟩
    ·have hd:dv r.den=1:=by unfold dv;rw[aj hd0]
     rw[hd,CC hn dD (jK _),aj rfl,h1];cases r;simp_all
    ·have hd:dv r.den=val r.den:=by unfold dv;rw[ah hd0]
     have hdn:val r.den≠0:=λg=>by rw[g,n4.2 rfl]at h2;exact hd0 h2.symm
     have hd1:val r.den≠1:=λg=>by rw[g,wG]at h2;exact g1 h2.symm
     rw[hd,CC hn hdn g2,ah hd1,h1,h2]
def L (q:Rat):Nat:=max (kG q.num.natAbs).size (kG q.den).size
def Lr (r:RR):Nat:=max 1 (max r.num.size r.den.size)
theorem Vx (q:Rat):1<=L q:=dx (uu (Nat.pos_of_ne_zero q.den_nz)) (jR _ _)
theorem tG (q:Rat):(kG q.num.natAbs).size<=L q:=Nat.le_max_left _ _
theorem s9 (q:Rat):(kG q.den).size<=L q:=jR _ _
@[simp] theorem Lr_ofQ (q:Rat):Lr (j8 q)=L q:=by
 unfold Lr L j8;simp only;have h1:=uu (Nat.pos_of_ne_zero q.den_nz);by_cases h:q.den=1
 ·rw[aj h,h,pH];show max 1 (max _ 0)=_;omega
 ·rw[ah h];omega
theorem nW:L 0=1:=by
 unfold L;rw[Rat.zero_num,Rat.zero_den,pH,show(0:Int).natAbs=0 from rfl,n4.2 rfl];rfl
theorem Tj (r:RR):1<=Lr r:=by unfold Lr;omega
theorem uA (r:RR):L (toQ r)<=Lr r:=by
 by_cases h:Ka r
 ·rw[<-Lr_ofQ,FK h];exact aH _
 ·rw[F8 h,nW];exact Tj r
theorem H2 (r:RR):r.num.size<=Lr r:=by unfold Lr;omega
theorem Hd (r:RR):r.den.size<=Lr r:=by unfold Lr;omega
theorem Ba (n:Int) {d:Nat} (hd:d≠0) {k:Nat} (h1:(kG n.natAbs).size<=k) (h2:(kG d).size<=k):L (mkRat n d)<=k:=by
 have e1:(mkRat n d).num.natAbs<=n.natAbs:=by
  rw[Rat.num_mkRat,ah hd,Int.natAbs_ediv_of_dvd]
  ·exact dE _ _
  ·exact Int.dvd_natAbs.1 (Int.natCast_dvd_natCast.2 (fq _ _))
 have e2:(mkRat n d).den<=d:=by rw[Rat.den_mkRat,ah hd];exact dE _ _
 unfold L;have:=lP e1;have:=lP e2;omega
theorem zM (p q:Rat):L (p*q)<=L p+L q:=by
 rw[Rat.mul_def'];refine Ba _ (fZ p.den_nz q.den_nz) ?_ ?_
 ·rw[i9];have:=lJ p.num.natAbs q.num.natAbs;have:=tG p;have:=tG q;omega
 ·have:=lJ p.den q.den;have:=s9 p;have:=s9 q;omega
theorem Aw (p q:Rat):L (p+q)<=L p+L q+1:=by
 rw[Rat.add_def'];have a1:=tG p;have a2:=tG q;have a3:=s9 p;have a4:=s9 q;refine Ba _ (fZ p.den_nz q.den_nz) ?_ ?_
 ·have h:(p.num*q.den+q.num*p.den).natAbs<=p.num.natAbs*q.den+q.num.natAbs*p.den:=by
   refine dx (Int.natAbs_add_le _ _) ?_;rw[i9,i9,fL,fL];exact aH _
  have h1:=lP h;have h2:=uv (p.num.natAbs*q.den) (q.num.natAbs*p.den);have h3:=lJ p.num.natAbs q.den;have h4:=lJ q.num.natAbs p.den;omega
 ·have:=lJ p.den q.den;omega
theorem BO (q:Rat):L (-q)=L q:=by unfold L;rw[Rat.neg_num,Rat.neg_den,Int.natAbs_neg]
theorem s8 (p q:Rat):L (p-q)<=L p+L q+1:=by rw[hJ,<-BO q];exact Aw p (-q)
theorem UZ (q:Rat):L q⁻¹<=L q:=by
 by_cases h:q.num=0
 ·rw[fN.1 h,Rat.inv_zero];exact aH _
 ·unfold L;rw[Rat.num_inv,Rat.den_inv,ah h,i9,fL];have:q.num.sign.natAbs=1:=by rw[Int.natAbs_sign];simp[h]
  rw[this,dJ,Nat.max_comm];exact aH _
theorem zw (p q:Rat):L (p/q)<=L p+L q:=by
 rw[bT];have:=zM p q⁻¹;have:=UZ q;omega
theorem Vt {q:Rat} {k:Nat} (h1:q.num.natAbs<256^k) (h2:q.den<256^k):L q<=k:=by
 unfold L;have:=lu h1;have:=lu h2;omega
theorem Ih:L 1=1:=by
 have h1:L 1<=1:=Vt dD dD;have:=Vx 1;omega
theorem Vi (n:Int) {k:Nat} (h:n.natAbs<256^k) (hk:1<=k):L (n:Rat)<=k:=by
 refine Vt (by rw[Rat.num_intCast];exact h) ?_;rw[Rat.den_intCast];have:256^1<=256^k:=bM dD hk;omega
def r5 (q:Rat):Int:=if q.num=0 then 0 else if q.num<0 then-1 else 1
def sU (p q:Rat):Int:=if p<q then-1 else if q<p then 1 else 0
theorem Q2 {q:Rat}:q.num<0↔q<0:=by
 have:=Rat.lt_iff q 0;simp only[Rat.zero_num,Rat.zero_den,Int.zero_mul]at this;simpa using this.symm
theorem zf {q:Rat}:r5 q<0↔q<0:=by
 rw[<-Q2];unfold r5;split<;>(try split)<;>omega
theorem xq {q:Rat}:r5 q=0↔q=0:=by
 rw[<-fN];unfold r5;split<;>(try split)<;>omega
theorem ny {q:Rat}:0<r5 q↔0<q:=by
 have h1:=zf (q:=q);have h2:=xq (q:=q);constructor
 ·intro h;rcases ji.1 (gF.1 (λg=>by have:=h1.2 g;omega:¬q<0))with g|g
  ·exact g
  ·exfalso;have:=h2.2 g.symm;omega
 ·intro h;have g1:¬r5 q<0:=λg=>dz (a:=(0:Rat)) (by have:=h1.1 g;grind);have g2:¬r5 q=0:=λg=>by have:=h2.1 g;rw[this]at h;exact dz h
  omega
theorem CV (q:Rat):r5 q= -1\/r5 q=0\/r5 q=1:=by unfold r5;split<;>(try split)<;>simp
theorem Kg {p q:Rat} (h:p<q):sU p q= -1:=by unfold sU;rw[aj h]
theorem KH {p q:Rat} (h:q<p):sU p q=1:=by unfold sU;rw[ah (by grind),aj h]
theorem Lt {p:Rat}:sU p p=0:=by unfold sU;rw[ah dz,ah dz]
theorem tw (p q:Rat):(p<q/\sU p q= -1)\/(p=q/\sU p q=0)\/(q<p/\sU p q=1):=by
 rcases Rat.le_total (a:=p) (b:=q)with h|h
 ·rcases ji.1 h with g|g
  ·exact .inl ⟨g,Kg g⟩
  ·subst g;exact .inr (.inl ⟨rfl,Lt⟩)
 ·rcases ji.1 h with g|g
  ·exact .inr (.inr ⟨g,KH g⟩)
  ·subst g;exact .inr (.inl ⟨rfl,Lt⟩)
theorem C5 {p q:Rat}:sU p q<0↔p<q:=by
 rcases tw p q with⟨h,e⟩|⟨h,e⟩|⟨h,e⟩<;>rw[e]
 ·exact⟨λ_=>h,λ_=>dD⟩
 ·subst h;exact⟨λh=>absurd h dD,λh=>absurd h dz⟩
 ·exact⟨λh=>absurd h dD,λg=>absurd g (by grind)⟩
theorem NE {p q:Rat}:0<sU p q↔q<p:=by
 rcases tw p q with⟨h,e⟩|⟨h,e⟩|⟨h,e⟩<;>rw[e]
 ·exact⟨λh=>absurd h dD,λg=>absurd g (by grind)⟩
 ·subst h;exact⟨λh=>absurd h dD,λh=>absurd h dz⟩
 ·exact⟨λ_=>h,λ_=>dD⟩
theorem Lk {p q:Rat}:sU p q<=0↔p<=q:=by rw[<-Int.not_lt,NE,gF]
theorem K4 {p q:Rat}:0<=sU p q↔q<=p:=by rw[<-Int.not_lt,C5,gF]
theorem C2 (q:Rat):sg (decide (q.num<0)) q.num.natAbs=q.num:=by
 unfold sg;by_cases h:q.num<0<;>simp[h]<;>omega
theorem Gy (q:Rat):mkRat (sg (decide (q.num<0)) q.num.natAbs) q.den=q:=by rw[C2,eC]
theorem yL (q:Rat) {e:Nat} (he:e≠0):mkRat (sg (decide (q.num<0)) (q.num.natAbs*e)) (q.den*e)=q:=by
 have h:sg (decide (q.num<0)) (q.num.natAbs*e)=q.num*(e:Int):=by
  conv=>rhs;rw[<-C2 q]
  unfold sg;split
  ·rw[gX,jV]
  ·rw[gX]
 rw[h,jg he,eC]
theorem Ch (a b:Int) {D:Nat} (hD:D≠0):mkRat a D+mkRat b D=mkRat (a+b) D:=by
 rw[Rat.mkRat_add_mkRat _ _ hD hD,<-Int.add_mul,jg hD]
theorem Uh (b:Bool) (X Y:Nat):sg b X+sg b Y=sg b (X+Y):=by unfold sg;split<;>(push_cast;omega)
theorem SW {b c:Bool} (h:b≠c) {X Y:Nat} (hle:Y<=X):sg b X+sg c Y=sg b (X-Y):=by
 cases b<;>cases c<;>first|exact absurd rfl h|(simp[sg];omega)
theorem QS {b c:Bool} (h:b≠c) {X Y:Nat} (hle:X<=Y):sg b X+sg c Y=sg c (Y-X):=by
 cases b<;>cases c<;>first|exact absurd rfl h|(simp[sg];omega)
theorem AQ {p q:Rat}:(j8 p).den=(j8 q).den↔p.den=q.den:=by
 show(if p.den=1 then _ else _)=(if q.den=1 then _ else _)↔_;have h1:∀(d:Nat),d≠0->kG d≠⟨#[]⟩:=λd hd h=>hd (n4.1 h);by_cases hp:p.den=1
 ·by_cases hq:q.den=1
  ·simp[hp,hq]
  ·rw[aj hp,ah hq];exact⟨λh=>absurd h.symm (h1 _ q.den_nz),λh=>absurd (h.symm.trans hp) hq⟩
 ·by_cases hq:q.den=1
  ·rw[ah hp,aj hq];exact⟨λh=>absurd h (h1 _ p.den_nz),λh=>absurd (h.trans hq) hp⟩
  ·rw[ah hp,ah hq];exact⟨λh=>CI h,λh=>by rw[h]⟩
end Go.Sx
namespace Go.Proofs.YtoeiejliehgopaaGreatDoor
open Go Go.Sx
theorem nm:lO Tryz.prog 3=some (1,false,[.int .i64 0]):=by kernel_rfl
theorem p9:lO Tryz.prog 4=some (1,false,[.bool false]):=by kernel_rfl
theorem Ww:lO Tryz.prog 5=some (1,false,[.int .u8 0]):=by kernel_rfl
theorem tT:lO Tryz.prog 9=some (1,false,[.string ⟨#[]⟩]):=by kernel_rfl
theorem V0:sinfo Tryz.prog 22=some (25,1,2,[.int .u16 0]):=by kernel_rfl
theorem UY:sinfo Tryz.prog 23=some (69,4,8,[.int .u16 0,.int .u16 0,.int .u16 0,.int .u16 0]):=by kernel_rfl
theorem Sg:sinfo Tryz.prog 24=some (70,3,6,[.int .u16 0,.int .u16 0,.int .u16 0]):=by kernel_rfl
theorem pA:lO Tryz.prog 25=some (1,false,[.int .u16 0]):=by kernel_rfl
theorem pP:sinfo Tryz.prog 26=some (51,5,88,[.bool false,.string ⟨#[]⟩,.string ⟨#[]⟩,.slice none 0 0,.slice none 0 0]):=by kernel_rfl
theorem oY:lO Tryz.prog 26=some (1,false,[.slice none 0 0]):=by kernel_rfl
theorem tK:sinfo Tryz.prog 27=some (64,4,64,[.bool false,.string ⟨#[]⟩,.string ⟨#[]⟩,.slice none 0 0]):=by kernel_rfl
theorem sA:lO Tryz.prog 27=some (1,false,[.slice none 0 0]):=by kernel_rfl
theorem ua:lO Tryz.prog 29=some (2,true,[.slice none 0 0,.slice none 0 0]):=by kernel_rfl
theorem rA:nZ Tryz.prog 29 0=some 0:=by kernel_rfl
theorem Bh:nZ Tryz.prog 29 1=some 1:=by kernel_rfl
theorem SJ:Tryz.prog.built 29 []=some #[.slice none 0 0,.slice none 0 0]:=by kernel_rfl
theorem kf:lO Tryz.prog 32=some (3,true,[.bool false,.string ⟨#[]⟩,.string ⟨#[]⟩]):=by kernel_rfl
theorem u0:nZ Tryz.prog 32 0=some 0:=by kernel_rfl
theorem Be:nZ Tryz.prog 32 1=some 1:=by kernel_rfl
theorem rE:nZ Tryz.prog 32 2=some 2:=by kernel_rfl
theorem px:Tryz.prog.built 32 []=some #[.bool false,.string ⟨#[]⟩,.string ⟨#[]⟩]:=by kernel_rfl
theorem kK:sinfo Tryz.prog 34=some (32,3,40,[.bool false,.string ⟨#[]⟩,.string ⟨#[]⟩]):=by kernel_rfl
theorem lQ:lO Tryz.prog 34=some (1,false,[.slice none 0 0]):=by kernel_rfl
theorem lH:sinfo Tryz.prog 35=some (34,1,24,[.slice none 0 0]):=by kernel_rfl
theorem oT:lO Tryz.prog 35=some (1,false,[.slice none 0 0]):=by kernel_rfl
theorem pT:sinfo Tryz.prog 36=some (4,1,1,[.bool false]):=by kernel_rfl
theorem wJ:lO Tryz.prog 36=some (1,false,[.slice none 0 0]):=by kernel_rfl
theorem xc:lO Tryz.prog 38=some (8,true,[.slice none 0 0,.slice none 0 0,.slice none 0 0,.slice none 0 0,.slice none 0 0,.slice none 0 0,.slice none 0 0,.slice none 0 0]):=by kernel_rfl
theorem xl:nZ Tryz.prog 38 0=some 0:=by kernel_rfl
theorem Kp:nZ Tryz.prog 38 1=some 1:=by kernel_rfl
theorem Lx:nZ Tryz.prog 38 2=some 2:=by kernel_rfl
theorem Ks:nZ Tryz.prog 38 3=some 3:=by kernel_rfl
theorem te:nZ Tryz.prog 38 4=some 4:=by kernel_rfl
theorem Kd:nZ Tryz.prog 38 5=some 5:=by kernel_rfl
theorem KD:nZ Tryz.prog 38 6=some 6:=by kernel_rfl
theorem Kt:nZ Tryz.prog 38 7=some 7:=by kernel_rfl
theorem py:sinfo Tryz.prog 46=some (3,1,8,[.int .i64 0]):=by kernel_rfl
theorem Ay:lO Tryz.prog 46=some (1,false,[.slice none 0 0]):=by kernel_rfl
theorem qO:sinfo Tryz.prog 48=some (53,5,56,[.int .i64 0,.int .i64 0,.bool false,.string ⟨#[]⟩,.string ⟨#[]⟩]):=by kernel_rfl
theorem qh:lO Tryz.prog 48=some (1,false,[.slice none 0 0]):=by kernel_rfl
theorem zc:sinfo Tryz.prog 49=some (82,1,24,[.slice none 0 0]):=by kernel_rfl
theorem ud:lO Tryz.prog 49=some (1,false,[.slice none 0 0]):=by kernel_rfl
theorem sZ:lO Tryz.prog 51=some (5,true,[.bool false,.string ⟨#[]⟩,.string ⟨#[]⟩,.slice none 0 0,.slice none 0 0]):=by kernel_rfl
theorem FV:nZ Tryz.prog 51 0=some 0:=by kernel_rfl
theorem qb:nZ Tryz.prog 51 1=some 3:=by kernel_rfl
theorem BH:nZ Tryz.prog 51 2=some 4:=by kernel_rfl
theorem Vo:Tryz.prog.built 51 []=some #[.bool false,.string ⟨#[]⟩,.string ⟨#[]⟩,.slice none 0 0,.slice none 0 0]:=by kernel_rfl
theorem tM:lO Tryz.prog 53=some (5,true,[.int .i64 0,.int .i64 0,.bool false,.string ⟨#[]⟩,.string ⟨#[]⟩]):=by kernel_rfl
theorem t7:nZ Tryz.prog 53 0=some 0:=by kernel_rfl
theorem Fe:nZ Tryz.prog 53 1=some 1:=by kernel_rfl
theorem KO:nZ Tryz.prog 53 2=some 2:=by kernel_rfl
theorem qp:sinfo Tryz.prog 62=some (66,2,16,[.int .i64 0,.int .i64 0]):=by kernel_rfl
theorem qk:lO Tryz.prog 62=some (1,false,[.slice none 0 0]):=by kernel_rfl
theorem ss:lO Tryz.prog 64=some (4,true,[.bool false,.string ⟨#[]⟩,.string ⟨#[]⟩,.slice none 0 0]):=by kernel_rfl
theorem KA:nZ Tryz.prog 64 0=some 0:=by kernel_rfl
theorem sh:nZ Tryz.prog 64 1=some 3:=by kernel_rfl
theorem qq:lO Tryz.prog 66=some (2,true,[.int .i64 0,.int .i64 0]):=by kernel_rfl
theorem vu:nZ Tryz.prog 66 0=some 0:=by kernel_rfl
theorem t6:nZ Tryz.prog 66 1=some 1:=by kernel_rfl
theorem zb:lO Tryz.prog 69=some (4,true,[.int .u16 0,.int .u16 0,.int .u16 0,.int .u16 0]):=by kernel_rfl
theorem x3:lO Tryz.prog 70=some (3,true,[.int .u16 0,.int .u16 0,.int .u16 0]):=by kernel_rfl
theorem uQ:sinfo Tryz.prog 80=some (83,1,24,[.slice none 0 0]):=by kernel_rfl
theorem wg:lO Tryz.prog 80=some (1,false,[.slice none 0 0]):=by kernel_rfl
theorem uJ:lO Tryz.prog 82=some (1,true,[.slice none 0 0]):=by kernel_rfl
theorem EK:nZ Tryz.prog 82 0=some 0:=by kernel_rfl
theorem Vf:Tryz.prog.built 82 []=some #[.slice none 0 0]:=by kernel_rfl
theorem tN:sinfo Tryz.prog 83=some (85,5,56,[.int .i64 0,.bool false,.bool false,.string ⟨#[]⟩,.string ⟨#[]⟩]):=by kernel_rfl
theorem xV:lO Tryz.prog 83=some (1,false,[.slice none 0 0]):=by kernel_rfl
theorem uU:lO Tryz.prog 85=some (5,true,[.int .i64 0,.bool false,.bool false,.string ⟨#[]⟩,.string ⟨#[]⟩]):=by kernel_rfl
theorem xF:nZ Tryz.prog 85 0=some 0:=by kernel_rfl
theorem EQ:nZ Tryz.prog 85 1=some 1:=by kernel_rfl
theorem Bc:nZ Tryz.prog 85 2=some 2:=by kernel_rfl
theorem BW:sinfo Tryz.prog 104=some (112,6,96,[.int .i64 0,.slice none 0 0,.slice none 0 0,.bool false,.string ⟨#[]⟩,.string ⟨#[]⟩]):=by kernel_rfl
theorem qv:lO Tryz.prog 104=some (1,false,[.slice none 0 0]):=by kernel_rfl
theorem Gc:sinfo Tryz.prog 105=some (36,1,24,[.slice none 0 0]):=by kernel_rfl
theorem ui:lO Tryz.prog 105=some (1,false,[.slice none 0 0]):=by kernel_rfl
theorem Hw:nZ Tryz.prog 107 0=some 0:=by kernel_rfl
theorem G8:nZ Tryz.prog 107 1=some 2:=by kernel_rfl
theorem CG:nZ Tryz.prog 107 2=some 3:=by kernel_rfl
theorem rV:sinfo Tryz.prog 109=some (157,4,64,[.slice none 0 0,.bool false,.string ⟨#[]⟩,.string ⟨#[]⟩]):=by kernel_rfl
theorem tF:lO Tryz.prog 109=some (1,false,[.slice none 0 0]):=by kernel_rfl
theorem Ar:sinfo Tryz.prog 110=some (160,2,48,[.slice none 0 0,.slice none 0 0]):=by kernel_rfl
theorem u6:lO Tryz.prog 110=some (1,false,[.slice none 0 0]):=by kernel_rfl
theorem oS:lO Tryz.prog 112=some (6,true,[.int .i64 0,.slice none 0 0,.slice none 0 0,.bool false,.string ⟨#[]⟩,.string ⟨#[]⟩]):=by kernel_rfl
theorem Hz:nZ Tryz.prog 112 0=some 0:=by kernel_rfl
theorem HM:nZ Tryz.prog 112 1=some 1:=by kernel_rfl
theorem GF:nZ Tryz.prog 112 2=some 2:=by kernel_rfl
theorem HY:nZ Tryz.prog 112 3=some 3:=by kernel_rfl
theorem tz:lO Tryz.prog 123=some (2,true,[.slice none 0 0,.slice none 0 0]):=by kernel_rfl
theorem G7:nZ Tryz.prog 123 0=some 0:=by kernel_rfl
theorem GU:nZ Tryz.prog 123 1=some 1:=by kernel_rfl
theorem lK:sinfo Tryz.prog 138=some (141,1,4,[.int .u32 0]):=by kernel_rfl
theorem li:sinfo Tryz.prog 139=some (141,1,4,[.int .u32 0]):=by kernel_rfl
theorem kI:lO Tryz.prog 141=some (1,false,[.int .u32 0]):=by kernel_rfl
theorem FE:sinfo Tryz.prog 155=some (207,4,48,[.int .i64 0,.bool false,.string ⟨#[]⟩,.string ⟨#[]⟩]):=by kernel_rfl
theorem ur:lO Tryz.prog 155=some (1,false,[.slice none 0 0]):=by kernel_rfl
theorem sN:lO Tryz.prog 157=some (4,true,[.slice none 0 0,.bool false,.string ⟨#[]⟩,.string ⟨#[]⟩]):=by kernel_rfl
theorem Gt:nZ Tryz.prog 157 0=some 0:=by kernel_rfl
theorem BU:nZ Tryz.prog 157 1=some 1:=by kernel_rfl
theorem qx:lO Tryz.prog 160=some (2,true,[.slice none 0 0,.slice none 0 0]):=by kernel_rfl
theorem GE:nZ Tryz.prog 160 0=some 0:=by kernel_rfl
theorem Cc:nZ Tryz.prog 160 1=some 1:=by kernel_rfl
theorem Ij:nZ Tryz.prog 167 0=some 0:=by kernel_rfl
theorem Hq:nZ Tryz.prog 167 1=some 1:=by kernel_rfl
theorem C4:sinfo Tryz.prog 189=some (5,1,1,[.int .u8 0]):=by kernel_rfl
theorem uo:lO Tryz.prog 207=some (4,true,[.int .i64 0,.bool false,.string ⟨#[]⟩,.string ⟨#[]⟩]):=by kernel_rfl
theorem GM:nZ Tryz.prog 207 0=some 0:=by kernel_rfl
theorem HD:nZ Tryz.prog 207 1=some 1:=by kernel_rfl
theorem rG:sinfo Tryz.prog 218=some (220,1,24,[.slice none 0 0]):=by kernel_rfl
theorem ru:sinfo Tryz.prog 220=some (223,2,24,[.bool false,.string ⟨#[]⟩]):=by kernel_rfl
theorem rU:lO Tryz.prog 220=some (1,false,[.slice none 0 0]):=by kernel_rfl
theorem oP:lO Tryz.prog 223=some (2,true,[.bool false,.string ⟨#[]⟩]):=by kernel_rfl
theorem ze:nZ Tryz.prog 223 0=some 0:=by kernel_rfl
theorem ww:nZ Tryz.prog 223 1=some 1:=by kernel_rfl
theorem TD:Tryz.prog.built 223 []=some #[.bool false,.string ⟨#[]⟩]:=by kernel_rfl
open Go Go.RowKit Go.Sx
theorem jp {P : Program} {N : Nat} {ρ : Nat → Value} {w : World} {ops : Array Oper} {d : Option Tmp} {p : Op} {ty : TypeId} {pos : String} {aft : Array Edge} {Q : Exit → Act → World → Prop} {rest : List Oper} (h : lX P N ρ ⟨d, p, ty, pos, aft, none⟩ fun v => wl P ops Q rest N (sM ρ d v) w) : wl P ops Q (⟨d, p, ty, pos, aft, none⟩ :: rest) N ρ w := ke rfl h
theorem jq {P : Program} {N : Nat} {ρ : Nat → Value} {w : World} {ops : Array Oper} {d : Option Tmp} {p : Op} {ty : TypeId} {pos : String} {aft : Array Edge} {Q : Exit → Act → World → Prop} {rest : List Oper} (h : qN P N ρ w ⟨d, p, ty, pos, aft, none⟩ fun v => wl P ops Q rest N (sM ρ d v) w) : wl P ops Q (⟨d, p, ty, pos, aft, none⟩ :: rest) N ρ w := lj rfl h
theorem jh {P : Program} {N : Nat} {ρ : Nat → Value} {w : World} {ops : Array Oper} {d : Option Tmp} {p : Op} {ty : TypeId} {pos : String} {aft : Array Edge} {Q : Exit → Act → World → Prop} {rest : List Oper} (h : pd P N ρ w ⟨d, p, ty, pos, aft, none⟩ fun v w' => wl P ops Q rest N (sM ρ d v) w') : wl P ops Q (⟨d, p, ty, pos, aft, none⟩ :: rest) N ρ w := pj rfl h
theorem jl {P : Program} {N : Nat} {ρ : Nat → Value} {w : World} {ops : Array Oper} {d : Option Tmp} {p : Op} {ty : TypeId} {pos : String} {aft : Array Edge} {i : Nat} {σ : List (Nat × Md)} {Kend : Act → World → Prop} (ho : ops[i]? = some ⟨d, p, ty, pos, aft, none⟩) (h : lX P N ρ ⟨d, p, ty, pos, aft, none⟩ fun v => Wr P ops Kend σ N (sM ρ d v) w) : Wr P ops Kend ((i, .pure) :: σ) N ρ w := kN ho rfl h
theorem jm {P : Program} {N : Nat} {ρ : Nat → Value} {w : World} {ops : Array Oper} {d : Option Tmp} {p : Op} {ty : TypeId} {pos : String} {aft : Array Edge} {i : Nat} {σ : List (Nat × Md)} {Kend : Act → World → Prop} (ho : ops[i]? = some ⟨d, p, ty, pos, aft, none⟩) (h : qN P N ρ w ⟨d, p, ty, pos, aft, none⟩ fun v => Wr P ops Kend σ N (sM ρ d v) w) : Wr P ops Kend ((i, .read) :: σ) N ρ w := mG ho rfl h
theorem jn {P : Program} {N : Nat} {ρ : Nat → Value} {w : World} {ops : Array Oper} {d : Option Tmp} {p : Op} {ty : TypeId} {pos : String} {aft : Array Edge} {i : Nat} {σ : List (Nat × Md)} {Kend : Act → World → Prop} (ho : ops[i]? = some ⟨d, p, ty, pos, aft, none⟩) (h : pd P N ρ w ⟨d, p, ty, pos, aft, none⟩ fun v w' => Below w.heap.size w w' ∧ Wr P ops Kend σ N (sM ρ d v) w') : Wr P ops Kend ((i, .km) :: σ) N ρ w := yr ho rfl h
theorem jx {P : Program} {N : Nat} {ρ : Nat → Value} {w : World} {ops : Array Oper} {d : Option Tmp} {p : Op} {ty : TypeId} {pos : String} {aft : Array Edge} {i : Nat} {σ : List (Nat × Md)} {Kend : Act → World → Prop} (ho : ops[i]? = some ⟨d, p, ty, pos, aft, none⟩) (h : pd P N ρ w ⟨d, p, ty, pos, aft, none⟩ fun v w' => Wr P ops Kend σ N (sM ρ d v) w') : Wr P ops Kend ((i, .free) :: σ) N ρ w := TS ho rfl h
abbrev jo (i : Nat) : Nat × Md := (i, .pure)
abbrev ju (i : Nat) : Nat × Md := (i, .read)
abbrev jv (i : Nat) : Nat × Md := (i, .km)
abbrev jw (i : Nat) : Nat × Md := (i, .free)
abbrev pB (b : Nat) : Value := .pointer (some ⟨b, 0, none⟩)
abbrev iB (m : Int) : Value := .int .i64 m
theorem ja {G' G : Prop} (h : G') (e : Jh G' → G := by intro h; (repeat (first | (with_reducible first | refine yY ?_ | refine xw ?_ | refine ul ?_ | refine uw ?_ | refine tj ?_ | refine pw ?_ | refine oG ?_ | refine oI ?_ | refine n9 ?_ | refine n8 rfl ?_ | refine y6 ?_ | refine yA ?_))); exact h.1) : G := e ⟨h⟩
theorem jt {G' G : Prop} (h : G') (e : Jh G' → G := by intro h; (repeat (first | (with_reducible first | refine yY ?_ | refine xw ?_ | refine ul ?_ | refine uw ?_ | refine tj ?_ | refine pw ?_ | refine oG ?_ | refine oI ?_ | refine n9 ?_ | refine n8 rfl ?_ | refine y6 ?_ | refine yA ?_ | refine K8 ?_ | refine BT ?_))); exact h.1) : G := e ⟨h⟩
theorem jr {G' G : Prop} (h : G') (e : Jh G' → G := by intro h; (repeat (first | (with_reducible first | refine yY ?_ | refine xw ?_ | refine ul ?_ | refine uw ?_ | refine tj ?_ | refine pw ?_ | refine oG ?_ | refine oI ?_ | refine n9 ?_ | refine n8 rfl ?_ | refine y6 ?_ | refine yA ?_) | refine Ht ?_)); exact h.1) : G := e ⟨h⟩
theorem js {G' G : Prop} (h : G') (e : Jh G' → G := by intro h; (repeat (first | (with_reducible first | refine yY ?_ | refine xw ?_ | refine ul ?_ | refine uw ?_ | refine tj ?_ | refine pw ?_ | refine oG ?_ | refine oI ?_ | refine n9 ?_ | refine n8 rfl ?_ | refine y6 ?_ | refine yA ?_ | refine K8 ?_ | refine BT ?_) | refine Ht ?_)); exact h.1) : G := e ⟨h⟩
theorem jb {G' G : Prop} (h : G') (e : Jh G' → G := by intro h; (repeat (first | (with_reducible first | refine yY ?_ | refine ul ?_ | refine uw ?_ | refine tj ?_ | refine pw ?_ | refine oG ?_ | refine oI ?_ | refine n9 ?_ | refine n8 rfl ?_ | refine y6 ?_ | refine yA ?_))); exact h.1) : G := e ⟨h⟩
theorem jd {G' G : Prop} (h : G') (e : Jh G' → G := by intro h; (repeat (first | (with_reducible first | refine yY ?_ | refine ul ?_ | refine uw ?_ | refine tj ?_ | refine pw ?_ | refine oG ?_ | refine oI ?_ | refine n9 ?_ | refine n8 rfl ?_ | refine y6 ?_ | refine yA ?_ | refine K8 ?_ | refine BT ?_))); exact h.1) : G := e ⟨h⟩
theorem jc {G' G : Prop} (h : G') (e : Jh G' → G := by intro h; (repeat (first | (with_reducible first | refine yY ?_ | refine ul ?_ | refine uw ?_ | refine tj ?_ | refine pw ?_ | refine oG ?_ | refine oI ?_ | refine n9 ?_ | refine n8 rfl ?_ | refine y6 ?_ | refine yA ?_) | refine Ht ?_)); exact h.1) : G := e ⟨h⟩
theorem je {G' G : Prop} (h : G') (e : Jh G' → G := by intro h; (repeat (first | (with_reducible first | refine yY ?_ | refine ul ?_ | refine uw ?_ | refine tj ?_ | refine pw ?_ | refine oG ?_ | refine oI ?_ | refine n9 ?_ | refine n8 rfl ?_ | refine y6 ?_ | refine yA ?_ | refine K8 ?_ | refine BT ?_) | refine Ht ?_)); exact h.1) : G := e ⟨h⟩
theorem VQ {H : List kU} {x : Option kU} (h : H[0]? = x) : H[0]? = x := h
theorem UQ {H : List kU} {x : Option kU} (h : H[1]? = x) : H[1]? = x := h
theorem U6 {H : List kU} {x : Option kU} (h : H[2]? = x) : H[2]? = x := h
theorem Vl {H : List kU} {x : Option kU} (h : H[3]? = x) : H[3]? = x := h
theorem Va {H : List kU} {x : Option kU} (h : H[4]? = x) : H[4]? = x := h
theorem VA {H : List kU} {x : Option kU} (h : H[5]? = x) : H[5]? = x := h
theorem Vk {H : List kU} {x : Option kU} (h : H[6]? = x) : H[6]? = x := h
theorem U0 {H : List kU} {x : Option kU} (h : H[7]? = x) : H[7]? = x := h
theorem J0 {G' G : Prop} (h : G') (e : Jh G' → G := by intro h; (repeat (first | (with_reducible first | refine yY ?_ | refine xw ?_ | refine ul ?_ | refine uw ?_ | refine tj ?_ | refine pw ?_ | refine oG ?_ | refine oI ?_ | refine n9 ?_ | refine n8 rfl ?_ | refine y6 ?_ | refine yA ?_ | refine BT ?_) | refine Ht ?_)); (first | ((with_reducible apply jp); first | ((with_reducible apply ko); (first | assumption | exact rfl)) | ((with_reducible apply oe); (first | assumption | exact rfl)) | ((with_reducible apply lC); (first | exact rfl | assumption); (with_reducible first | exact sh | exact rA | exact qb | exact Be | exact u0 | exact rE | exact vu | exact te | exact Bh | exact t7 | exact ww | exact xF | exact ze | exact t6 | exact BH | exact EK | exact G8 | exact Cc | exact Bc | exact Ij | exact Hw | exact BU | exact GF | exact EQ | exact KA | exact KO | exact GU | exact HM | exact xl | exact CG | exact G7 | exact Gt | exact Ks | exact Hq | exact FV | exact Lx | exact Fe | exact GE | exact HY | exact Kt | exact Kp | exact KD | exact Hz | exact Kd | exact GM | exact HD)) | ((with_reducible apply wm); (first | exact rfl | assumption); (first | exact rfl | assumption)) | ((with_reducible apply wn); (first | exact rfl | assumption); exact rfl) | ((with_reducible apply oc); (first | exact rfl | assumption); exact ⟨_, by (with_reducible first | exact Tryz.underlying139 | exact Tryz.underlying189 | exact Tryz.underlying218 | exact Tryz.underlying220 | exact Tryz.underlying26 | exact Tryz.underlying27 | exact Tryz.underlying34 | exact Tryz.underlying35 | exact Tryz.underlying36 | exact Tryz.underlying46 | exact Tryz.underlying48 | exact Tryz.underlying49 | exact Tryz.underlying62 | exact Tryz.underlying80 | exact Tryz.underlying83)⟩) | ((with_reducible apply oU); (first | exact rfl | assumption); (first | exact rfl | assumption); (first | exact cF _ (by omega) | exact fk _ (by omega) | exact fm _ (by omega) | exact gW _ (by omega) | exact fT _ (by omega))) | ((with_reducible apply sk); (first | exact rfl | assumption); (first | exact rfl | assumption); (first | exact cF _ (by omega) | exact fk _ (by omega) | exact fm _ (by omega) | exact gW _ (by omega) | exact fT _ (by omega))) | ((with_reducible apply qV); (first | exact rfl | assumption); (first | exact rfl | assumption)) | ((with_reducible apply yI); (first | exact rfl | assumption); (first | exact rfl | assumption)) | ((with_reducible apply xU); (first | exact rfl | assumption)) | ((with_reducible apply Sf); (first | exact rfl | assumption); (first | exact rfl | assumption)) | ((with_reducible apply t5); (first | exact rfl | assumption); (first | exact rfl | assumption)) | ((with_reducible apply yX); (first | exact rfl | assumption); (first | exact rfl | assumption)) | ((with_reducible apply kH); (first | exact rfl | assumption); (with_reducible first | exact Tryz.underlying3 | exact Tryz.underlying94 | exact Tryz.underlying99); exact ⟨_, by (with_reducible first | exact Tryz.underlying141 | exact Tryz.underlying25 | exact Tryz.underlying3 | exact Tryz.underlying5)⟩; (first | exact cF _ (by omega) | exact fk _ (by omega) | exact fm _ (by omega) | exact gW _ (by omega) | exact fT _ (by omega))) | ((with_reducible apply Px); (first | exact rfl | assumption); (with_reducible first | exact Tryz.underlying9))) | ((with_reducible apply jq); ((with_reducible apply kO); (first | exact rfl | assumption); (with_reducible first | exact nm | exact kf | exact p9 | exact lQ | exact tT | exact oT | exact oS | exact oP | exact qk | exact oY | exact ss | exact pA | exact qq | exact ua | exact sZ | exact qh | exact qx | exact tM | exact uJ | exact uU | exact xc | exact sA | exact sN | exact tF | exact tz | exact ud | exact wg | exact qv | exact x3 | exact u6 | exact uo | exact ui | exact wJ | exact ur | exact zb | exact Ay); assumption; (first | exact VQ rfl | exact UQ rfl | exact U6 rfl | exact Vl rfl | exact Va rfl | exact VA rfl | exact Vk rfl | exact U0 rfl); exact rfl; exact rfl; (first | exact .inl rfl | exact .inr rfl))) | ((with_reducible apply jh); first | ((with_reducible apply lT); (with_reducible first | exact nm | exact kf | exact p9 | exact lQ | exact tT | exact oT | exact oS | exact oP | exact qk | exact oY | exact ss | exact pA | exact qq | exact ua | exact sZ | exact qh | exact qx | exact tM | exact uJ | exact uU | exact xc | exact sA | exact sN | exact tF | exact tz | exact ud | exact wg | exact qv | exact x3 | exact u6 | exact uo | exact ui | exact wJ | exact ur | exact zb | exact Ay); assumption) | ((with_reducible apply lI); (first | exact rfl | assumption); (first | exact rfl | assumption); (with_reducible first | exact nm | exact kf | exact p9 | exact lQ | exact tT | exact oT | exact oS | exact oP | exact qk | exact oY | exact ss | exact pA | exact qq | exact ua | exact sZ | exact qh | exact qx | exact tM | exact uJ | exact uU | exact xc | exact sA | exact sN | exact tF | exact tz | exact ud | exact wg | exact qv | exact x3 | exact u6 | exact uo | exact ui | exact wJ | exact ur | exact zb | exact Ay); assumption; (first | exact VQ rfl | exact UQ rfl | exact U6 rfl | exact Vl rfl | exact Va rfl | exact VA rfl | exact Vk rfl | exact U0 rfl); exact rfl; exact rfl; exact eN rfl; exact rfl)) | ((with_reducible apply jl); exact rfl; first | ((with_reducible apply ko); (first | assumption | exact rfl)) | ((with_reducible apply oe); (first | assumption | exact rfl)) | ((with_reducible apply lC); (first | exact rfl | assumption); (with_reducible first | exact sh | exact rA | exact qb | exact Be | exact u0 | exact rE | exact vu | exact te | exact Bh | exact t7 | exact ww | exact xF | exact ze | exact t6 | exact BH | exact EK | exact G8 | exact Cc | exact Bc | exact Ij | exact Hw | exact BU | exact GF | exact EQ | exact KA | exact KO | exact GU | exact HM | exact xl | exact CG | exact G7 | exact Gt | exact Ks | exact Hq | exact FV | exact Lx | exact Fe | exact GE | exact HY | exact Kt | exact Kp | exact KD | exact Hz | exact Kd | exact GM | exact HD)) | ((with_reducible apply wm); (first | exact rfl | assumption); (first | exact rfl | assumption)) | ((with_reducible apply wn); (first | exact rfl | assumption); exact rfl) | ((with_reducible apply oc); (first | exact rfl | assumption); exact ⟨_, by (with_reducible first | exact Tryz.underlying139 | exact Tryz.underlying189 | exact Tryz.underlying218 | exact Tryz.underlying220 | exact Tryz.underlying26 | exact Tryz.underlying27 | exact Tryz.underlying34 | exact Tryz.underlying35 | exact Tryz.underlying36 | exact Tryz.underlying46 | exact Tryz.underlying48 | exact Tryz.underlying49 | exact Tryz.underlying62 | exact Tryz.underlying80 | exact Tryz.underlying83)⟩) | ((with_reducible apply oU); (first | exact rfl | assumption); (first | exact rfl | assumption); (first | exact cF _ (by omega) | exact fk _ (by omega) | exact fm _ (by omega) | exact gW _ (by omega) | exact fT _ (by omega))) | ((with_reducible apply sk); (first | exact rfl | assumption); (first | exact rfl | assumption); (first | exact cF _ (by omega) | exact fk _ (by omega) | exact fm _ (by omega) | exact gW _ (by omega) | exact fT _ (by omega))) | ((with_reducible apply qV); (first | exact rfl | assumption); (first | exact rfl | assumption)) | ((with_reducible apply yI); (first | exact rfl | assumption); (first | exact rfl | assumption)) | ((with_reducible apply xU); (first | exact rfl | assumption)) | ((with_reducible apply Sf); (first | exact rfl | assumption); (first | exact rfl | assumption)) | ((with_reducible apply t5); (first | exact rfl | assumption); (first | exact rfl | assumption)) | ((with_reducible apply yX); (first | exact rfl | assumption); (first | exact rfl | assumption)) | ((with_reducible apply kH); (first | exact rfl | assumption); (with_reducible first | exact Tryz.underlying3 | exact Tryz.underlying94 | exact Tryz.underlying99); exact ⟨_, by (with_reducible first | exact Tryz.underlying141 | exact Tryz.underlying25 | exact Tryz.underlying3 | exact Tryz.underlying5)⟩; (first | exact cF _ (by omega) | exact fk _ (by omega) | exact fm _ (by omega) | exact gW _ (by omega) | exact fT _ (by omega))) | ((with_reducible apply Px); (first | exact rfl | assumption); (with_reducible first | exact Tryz.underlying9))) | ((with_reducible apply jm); exact rfl; ((with_reducible apply kO); (first | exact rfl | assumption); (with_reducible first | exact nm | exact kf | exact p9 | exact lQ | exact tT | exact oT | exact oS | exact oP | exact qk | exact oY | exact ss | exact pA | exact qq | exact ua | exact sZ | exact qh | exact qx | exact tM | exact uJ | exact uU | exact xc | exact sA | exact sN | exact tF | exact tz | exact ud | exact wg | exact qv | exact x3 | exact u6 | exact uo | exact ui | exact wJ | exact ur | exact zb | exact Ay); assumption; (first | exact VQ rfl | exact UQ rfl | exact U6 rfl | exact Vl rfl | exact Va rfl | exact VA rfl | exact Vk rfl | exact U0 rfl); exact rfl; exact rfl; (first | exact .inl rfl | exact .inr rfl))) | ((with_reducible apply jn); exact rfl; first | ((with_reducible apply lT); (with_reducible first | exact nm | exact kf | exact p9 | exact lQ | exact tT | exact oT | exact oS | exact oP | exact qk | exact oY | exact ss | exact pA | exact qq | exact ua | exact sZ | exact qh | exact qx | exact tM | exact uJ | exact uU | exact xc | exact sA | exact sN | exact tF | exact tz | exact ud | exact wg | exact qv | exact x3 | exact u6 | exact uo | exact ui | exact wJ | exact ur | exact zb | exact Ay); assumption) | ((with_reducible apply lI); (first | exact rfl | assumption); (first | exact rfl | assumption); (with_reducible first | exact nm | exact kf | exact p9 | exact lQ | exact tT | exact oT | exact oS | exact oP | exact qk | exact oY | exact ss | exact pA | exact qq | exact ua | exact sZ | exact qh | exact qx | exact tM | exact uJ | exact uU | exact xc | exact sA | exact sN | exact tF | exact tz | exact ud | exact wg | exact qv | exact x3 | exact u6 | exact uo | exact ui | exact wJ | exact ur | exact zb | exact Ay); assumption; (first | exact VQ rfl | exact UQ rfl | exact U6 rfl | exact Vl rfl | exact Va rfl | exact VA rfl | exact Vk rfl | exact U0 rfl); exact rfl; exact rfl; exact eN rfl; exact rfl)) | ((with_reducible apply jx); exact rfl; first | ((with_reducible apply lT); (with_reducible first | exact nm | exact kf | exact p9 | exact lQ | exact tT | exact oT | exact oS | exact oP | exact qk | exact oY | exact ss | exact pA | exact qq | exact ua | exact sZ | exact qh | exact qx | exact tM | exact uJ | exact uU | exact xc | exact sA | exact sN | exact tF | exact tz | exact ud | exact wg | exact qv | exact x3 | exact u6 | exact uo | exact ui | exact wJ | exact ur | exact zb | exact Ay); assumption) | ((with_reducible apply lI); (first | exact rfl | assumption); (first | exact rfl | assumption); (with_reducible first | exact nm | exact kf | exact p9 | exact lQ | exact tT | exact oT | exact oS | exact oP | exact qk | exact oY | exact ss | exact pA | exact qq | exact ua | exact sZ | exact qh | exact qx | exact tM | exact uJ | exact uU | exact xc | exact sA | exact sN | exact tF | exact tz | exact ud | exact wg | exact qv | exact x3 | exact u6 | exact uo | exact ui | exact wJ | exact ur | exact zb | exact Ay); assumption; (first | exact VQ rfl | exact UQ rfl | exact U6 rfl | exact Vl rfl | exact Va rfl | exact VA rfl | exact Vk rfl | exact U0 rfl); exact rfl; exact rfl; exact eN rfl; exact rfl)) | ((with_reducible apply k9); exact rfl; exact ao (by omega)) | ((with_reducible apply lx); exact rfl; exact ae (by omega))); exact h.1) : G := e ⟨h⟩
theorem J1 {G' G : Prop} (h : G') (e : Jh G' → G := by intro h; (iterate 1 refine J0 ?_); exact h.1) : G := e ⟨h⟩
theorem J2 {G' G : Prop} (h : G') (e : Jh G' → G := by intro h; (iterate 2 refine J0 ?_); exact h.1) : G := e ⟨h⟩
theorem J3 {G' G : Prop} (h : G') (e : Jh G' → G := by intro h; (iterate 3 refine J0 ?_); exact h.1) : G := e ⟨h⟩
theorem J4 {G' G : Prop} (h : G') (e : Jh G' → G := by intro h; (iterate 4 refine J0 ?_); exact h.1) : G := e ⟨h⟩
theorem J5 {G' G : Prop} (h : G') (e : Jh G' → G := by intro h; (iterate 5 refine J0 ?_); exact h.1) : G := e ⟨h⟩
theorem J6 {G' G : Prop} (h : G') (e : Jh G' → G := by intro h; (iterate 6 refine J0 ?_); exact h.1) : G := e ⟨h⟩
theorem J7 {G' G : Prop} (h : G') (e : Jh G' → G := by intro h; (iterate 7 refine J0 ?_); exact h.1) : G := e ⟨h⟩
theorem J8 {G' G : Prop} (h : G') (e : Jh G' → G := by intro h; (iterate 8 refine J0 ?_); exact h.1) : G := e ⟨h⟩
theorem J9 {G' G : Prop} (h : G') (e : Jh G' → G := by intro h; (iterate 9 refine J0 ?_); exact h.1) : G := e ⟨h⟩
theorem WU {G' G : Prop} (h : G') (e : Jh G' → G := by intro h; (iterate 10 refine J0 ?_); exact h.1) : G := e ⟨h⟩
theorem WW {G' G : Prop} (h : G') (e : Jh G' → G := by intro h; (iterate 11 refine J0 ?_); exact h.1) : G := e ⟨h⟩
theorem V1 {G' G : Prop} (h : G') (e : Jh G' → G := by intro h; (iterate 1 refine J0 ?_); refine ja ?_; exact h.1) : G := e ⟨h⟩
theorem V2 {G' G : Prop} (h : G') (e : Jh G' → G := by intro h; (iterate 2 refine J0 ?_); refine ja ?_; exact h.1) : G := e ⟨h⟩
theorem V3 {G' G : Prop} (h : G') (e : Jh G' → G := by intro h; (iterate 3 refine J0 ?_); refine ja ?_; exact h.1) : G := e ⟨h⟩
theorem V4 {G' G : Prop} (h : G') (e : Jh G' → G := by intro h; (iterate 4 refine J0 ?_); refine ja ?_; exact h.1) : G := e ⟨h⟩
theorem V5 {G' G : Prop} (h : G') (e : Jh G' → G := by intro h; (iterate 5 refine J0 ?_); refine ja ?_; exact h.1) : G := e ⟨h⟩
theorem V6 {G' G : Prop} (h : G') (e : Jh G' → G := by intro h; (iterate 6 refine J0 ?_); refine ja ?_; exact h.1) : G := e ⟨h⟩
theorem V7 {G' G : Prop} (h : G') (e : Jh G' → G := by intro h; (iterate 7 refine J0 ?_); refine ja ?_; exact h.1) : G := e ⟨h⟩
theorem V9 {G' G : Prop} (h : G') (e : Jh G' → G := by intro h; (iterate 9 refine J0 ?_); refine ja ?_; exact h.1) : G := e ⟨h⟩
theorem Xb {G' G : Prop} (h : G') (e : Jh G' → G := by intro h; (iterate 10 refine J0 ?_); refine ja ?_; exact h.1) : G := e ⟨h⟩
theorem Y1 {G' G : Prop} (h : G') (e : Jh G' → G := by intro h; (iterate 1 refine J0 ?_); refine jr ?_; exact h.1) : G := e ⟨h⟩
theorem Y4 {G' G : Prop} (h : G') (e : Jh G' → G := by intro h; (iterate 4 refine J0 ?_); refine jr ?_; exact h.1) : G := e ⟨h⟩
theorem Y5 {G' G : Prop} (h : G') (e : Jh G' → G := by intro h; (iterate 5 refine J0 ?_); refine jr ?_; exact h.1) : G := e ⟨h⟩
theorem drop_one (s:ByteArray) (k:Nat) (hk:k<s.size):(s.extract k s.size).extract 1 (s.extract k s.size).size=s.extract (k+1) s.size:=by
 have hsz:(s.extract k s.size).size=s.size-k:=by simp
 rw[hsz];apply ByteArray.ext;simp only[ByteArray.data_extract,Array.extract_extract];congr 1;omega
theorem GI (s:ByteArray) (k:Nat):oo (s.extract k s.size)=(oo s).drop k:=by
 unfold oo;rw[ByteArray.data_extract,Array.toList_extract,List.extract,List.map_take,List.map_drop,aV];have h:(s.data.toList.map UInt8.toNat).length=s.size:=pJ s;rw[fe,h];omega
theorem Ca (s:ByteArray) (i:Nat) (h:i<s.size):(oo s)[i]'(by rw[pJ];exact h)=(s[i]).toNat:=by
 unfold oo;rw[ew];rfl
theorem xt (s:ByteArray) (k:Nat) (hk:k<=s.size) (hz:∀i (_:i<k) (h:i<s.size),s[i]=0) (hn:k=s.size\/∃h:k<s.size,s[k]≠0):s.extract k s.size=kG (val s):=by
 have hl:(oo s).length=s.size:=pJ s;have h1:=GI s k;have h2:((oo s).drop k).reverse=tA 256 (val s):=by
  have h3:(oo s).reverse=((oo s).drop k).reverse++List.replicate k 0:=by
   have h5:(oo s).take k=List.replicate k 0:=by
    apply ff
    ·rw[dg,eP,hl];omega
    ·intro i g1 g2;rw[iy,List.getElem_replicate];have hi:i<k:=by rw[eP]at g2;exact g2
     rw[Ca s i oO,hz i hi oO];rfl
   conv=>lhs;rw[<-dc k (oo s),jk,h5,List.reverse_replicate]
  have h4:val s=lA 256 ((oo s).drop k).reverse:=by
   unfold val;rw[h3,se,zA,eV,ef]
  rw[h4,xf dD _ (λd hd=>z9 s d (List.mem_of_mem_drop (dW.1 hd)))];unfold trimmed;rw[List.getLast?_reverse,List.head?_drop];rcases hn with rfl|⟨h,hne⟩
  ·rw[dk oO];simp
  ·rw[aJ oO,Ca s k h];intro h0;apply hne;have:(s[k]).toNat=0:=bN h0;exact jW.1 (by rw[this];rfl)
 rw[<-Gx (s.extract k s.size),h1,kG,<-h2,gP]
theorem A4 (s:ByteArray) (w:World) (hs:s.size<=9223372036854775807):
  lU Tryz.prog 149 #[.string s,.int .u8 0] w λv w'=>v= .string (kG (val s))/\w'=w:=by
 refine enter Tryz.func149 rfl Tryz.ntmps149 rfl ?_;refine V1 ?_;refine ku (σ:=Nat) (λk ρ w'=>k<=s.size/\(∀i (_:i<k) (h:i<s.size),s[i]=0)/\ρ 0= .string (s.extract k s.size)/\ρ 1= .int .u8 0/\w'=w) (λk=>s.size-k) 0
  ⟨oO,λi h=>oO,bQ Value.string (by rw[ByteArray.extract_zero_size]),rfl,rfl⟩ ?_
 rintro k ρ w' ⟨hk,hz,h0,h1,rfl⟩;have hsz:(s.extract k s.size).size=s.size-k:=by simp
 by_cases hlt:k<s.size
 ·have hpos:0<(s.extract k s.size).size:=oO;have hget:(s.extract k s.size)[0]=s[k]:=by rw[ByteArray.getElem_extract];rfl
  refine J4 ?_;refine ke (j7 8 kR rfl dT) (ko h0 (ke (j7 8 kR rfl dT) (wA (i:=0) rfl rfl oO oO Tryz.underlying9 (ke (j7 8 kR rfl dT) (ko h1 (ke (j7 8 kR rfl dT) (qV rfl rfl (jp (kA (vb rfl dT) rfl ?_)))))))));refine ja ?_;refine WH _ rfl (λh=> ?_) (λh=> ?_)
  ·refine ul (uw (xw ?_));refine J1 ?_;refine jp (EY (lo:=1) rfl rfl rfl oO Tryz.underlying9 ?_);refine V1 ?_;refine⟨k+1,_,rfl,⟨oO,λi hi hi'=> ?_,bQ Value.string (drop_one s k hlt),h1,rfl⟩,oO⟩;rcases bI i k with h2|h2
   ·exact hz i h2 hi'
   ·obtain rfl:i=k:=oO;rw[<-hget];exact jW.1 (by have h:=h;simp at h;exact h)
  ·refine J2 ?_;refine jt ?_;refine kB rfl rfl ⟨bQ Value.string (xt s k hk hz (.inr ⟨hlt,λh2=>h ?_⟩)),rfl⟩;rw[hget,h2];rfl
 ·refine J4 ?_;refine kL (ka 8 kR rfl dF) (kL (ka 8 kR rfl dF) (kL (ka 8 kR rfl dF) (kL (ka 8 kR rfl dF) (jp (kA (vb rfl dF) rfl ?_)))));refine ja ?_;refine lx rfl (rfl) ?_;refine J2 ?_;refine jt ?_;exact kB rfl rfl ⟨bQ Value.string (xt s k hk hz (.inl oO)),rfl⟩
theorem GN (s:ByteArray) (w:World) (hs:s.size<=9223372036854775807):
  lU Tryz.prog 110 #[.string s,.string ⟨#[0]⟩] w λv w'=>v= .string (kG (val s))/\w'=w:=by
 refine enter Tryz.func110 rfl Tryz.ntmps110 rfl ?_;refine V1 ?_;by_cases he:s=⟨#[]⟩
 ·refine J1 ?_;refine jp (sW rfl rfl ?_);refine J1 ?_;refine kL (ka 9 kR rfl (ao he)) (kL (ka 9 kR rfl (ao he)) (jp (kA (vb rfl (ao he)) rfl ?_)));refine ja ?_;refine k9 rfl (rfl) ?_;refine J2 ?_;refine jt ?_;refine kB rfl rfl ?_;refine⟨bQ Value.string ?_,rfl⟩;rw[he];exact Er.symm
 ·have h0:¬((⟨#[0]⟩:ByteArray)=⟨#[]⟩):=by intro h;cases h
  refine J1 ?_;refine jp (sW rfl rfl ?_);refine J1 ?_;refine ke (j7 9 kR rfl (ae he)) (ko rfl (ke (j7 9 kR rfl (ae he)) (sW rfl rfl (jp (kA (vb rfl (ae he)) rfl ?_)))));refine ja ?_;refine lx rfl (ae h0) ?_;refine J4 ?_;refine ke (j7 17 kR rfl rfl) (ko rfl (ke (j7 17 kR rfl rfl) (wA (i:=0) rfl rfl rfl dD Tryz.underlying9 (ke (j7 17 kR rfl rfl) (wm rfl rfl (jp (kA (vb rfl rfl) rfl ?_)))))));refine ja ?_;refine k9 rfl (by decide+kernel) ?_;refine J2 ?_;refine jp (wA (i:=0) rfl rfl rfl dD Tryz.underlying9 (jh (j6 Tryz.call149 rfl (A4 s w hs) ?_)));rintro v w' ⟨rfl,rfl⟩;refine J1 ?_;refine jt ?_;refine kB rfl rfl ?_;exact⟨rfl,rfl⟩
theorem ng (s:ByteArray) (w:World) (hs:s.size<=9223372036854775807):
  lU Tryz.prog 66 #[.string s] w λv w'=>v= .string (kG (val s))/\w'=w:=by
 refine enter Tryz.func66 rfl Tryz.ntmps66 rfl ?_;refine J2 ?_;refine jh (j6 Tryz.call110 rfl (GN s w hs) ?_);rintro v w' ⟨rfl,rfl⟩;refine J1 ?_;refine jt ?_;refine kB rfl rfl ?_;exact⟨rfl,rfl⟩
theorem oN {m:Int} (r:Int) (h:m=r∧-9223372036854775808<=r/\r<=9223372036854775807):IntKind.i64.wrap m=r:=by
 obtain⟨rfl,h1⟩:=h;exact cF _ h1
theorem kX {m:Int} (r:Int) (h:m=r/\0<=r/\r<=18446744073709551615):IntKind.u64.wrap m=r:=by
 obtain⟨rfl,h1⟩:=h;exact fk _ h1
theorem pm {m:Int} (r:Int) (h:m=r/\0<=r/\r<=4294967295):IntKind.u32.wrap m=r:=by
 obtain⟨rfl,h1⟩:=h;exact fm _ h1
theorem r7 (n:Nat):IntKind.u32.wrap (n:Int)=((n%4294967296:Nat):Int):=by rw[tr];omega
theorem uj (n:Nat):IntKind.u8.wrap (n:Int)=((n%256:Nat):Int):=by rw[OU];omega
theorem uX {k:IntKind} (m c:Nat) (r:Int) (hc:c<=k.bits) (hr:k.wrap ((m*2^c:Nat):Int)=r):k.wrap ((m:Int)*2^(min ((c:Int)).toNat k.bits))=r:=by
 rw[iC,gU hc,<-hr];push_cast;rfl
theorem qg {k:IntKind} (m c:Nat) (hc:c<=k.bits):(m:Int).fdiv (2^(min ((c:Int)).toNat k.bits))=((m/2^c:Nat):Int):=by
 rw[SM (k:=k) (m:Int) c hc];push_cast;rfl
theorem St.Xl {w0 w:World} {H:List kU} {b k:Nat} {t:TypeId} {kk:IntKind} {L:List Nat} (h:St w0 w H) (hk:H[k]?=some (b,t,Kr kk L)):At w ⟨b,0,none⟩ (Kr kk L):=by
 have:=h.at hk 0 (Kr kk L).length;rwa[List.drop_zero,bR]at this
theorem Ey (L:List Nat):(zI L).size=L.length:=by
 show((L.map UInt8.ofNat).toArray).size=_;simp
def kS (b v j:Nat):Nat:=v/b^j%b
theorem qF {b:Nat} (hb:0<b) (v j:Nat):kS b v j<b:=bG _ hb
def pad (b v n:Nat):List Nat:=(List.range n).map (kS b v)
@[simp] theorem pad_length (b v n:Nat):(pad b v n).length=n:=by simp[pad]
theorem nS (b v:Nat) {n j:Nat} (h:j<n):(pad b v n).getD j 0=kS b v j:=by simp[pad,List.getD,h]
theorem sP {b:Nat} (hb:0<b) (v n:Nat):∀d∈pad b v n,d<b:=by
 intro d hd;obtain⟨j,_,rfl⟩:=bX.1 hd;exact qF hb v j
theorem wQ (b v n:Nat):pad b v (n+1)=(v%b)::pad b (v/b) n:=by
 unfold pad;rw[List.range_succ_eq_map,db,fK];congr 1
 ·simp[kS]
 ·apply eY;intro j _;simp[kS,cV,bC,bF]
theorem CJ {b:Nat} (n:Nat):∀v,lA b (pad b v n)=v%b^n:=by
 induction n with
 |zero=>intro v;simp[pad,lA,dZ]
 |succ n ih=>
  intro v;rw[wQ];show v%b+b*lA b (pad b (v/b) n)=_;rw[ih,bC,bF (b^n) b,Nat.mod_mul]
theorem mP {b v n:Nat} (h:v<b^n):lA b (pad b v n)=v:=by rw[CJ,bh h]
theorem vJ {b:Nat} (hb:0<b):∀(L:List Nat) (_:∀d∈L,d<b) (j:Nat),kS b (lA b L) j=L.getD j 0
 | [],_,j=>by simp[kS,lA,Nat.zero_div,Nat.zero_mod]
 |d::L,h,0=>by
  show(d+b*lA b L)/b^0%b=d;rw[cU,ft,eJ,bh (h d (by simp))]
 |d::L,h,j+1=>by
  have ih:=vJ hb L (λd hd=>h d (by simp[hd])) j;show(d+b*lA b L)/b^(j+1)%b=_;rw[bC,bF (b^j) b,<-cV,da _ _ hb,bV (h d (by simp)),bZ];simpa[kS]using ih
theorem MB {b:Nat} (hb:2<=b) (v j:Nat):(tA b v).getD j 0=kS b v j:=by
 rw[<-vJ oO (tA b v) (zn hb v),su hb]
theorem Nz {b v:Nat} {L:List Nat} (h:∀j,j<L.length->L.getD j 0=kS b v j):L=pad b v L.length:=by
 apply ff
 ·simp
 ·intro j h1 h2;have:=h j h1;rw[ap,aJ h1]at this;simp only[pad,ew,jC];exact this
theorem l9 (v j:Nat):(kJ v).getD j 0=kS kb v j:=MB dD v j
theorem xG (v:Nat):∀d∈kJ v,d<kb:=zn dD v
theorem qH (v:Nat):lA kb (kJ v)=v:=su dD v
theorem Hp {v n:Nat} (h:v<kb^n):kJ (lA kb (pad kb v n))=kJ v:=by rw[mP h]
theorem AW (s:ByteArray) (i:Nat) (h:i<s.size):(s[s.size-1-i]).toNat=kS 256 (val s) i:=by
 unfold val;rw[vJ dD _ (λd hd=>z9 s d (dW.1 hd))];have hl:=pJ s;rw[ap,gC (by rw[hl];exact h),hl];rw[aJ (by rw[hl];omega)];unfold oo;rw[ew];rfl
theorem mod_pow_succ (b v i:Nat):v%b^(i+1)=v%b^i+b^i*kS b v i:=by
 rw[Nat.mod_pow_succ];rfl
theorem ut (a d r:Nat) (h:a<2^r):a|||d*2^r=a+d*2^r:=by
 have:=Nat.two_pow_add_eq_or_of_lt h d;rw[gk,bF,<-this,fa]
theorem yk {b:Nat} (hb:0<b) (v x:Nat) {j k:Nat} (h:j<k):kS b (v+b^k*x) j=kS b v j:=by
 unfold kS;obtain⟨m,rfl⟩:∃m,k=j+(m+1):=⟨k-j-1,oO⟩;rw[dB,bk,da _ _ (cG hb),bC,bF (b^m) b,bk,eJ]
theorem Ju {b:Nat} (hb:0<b) (v x k:Nat):kS b (v+b^k*x) k=(v/b^k+x)%b:=by
 unfold kS;rw[da _ _ (cG hb)]
theorem uc {b v j:Nat} (h:v<b^j):kS b v j=0:=by
 unfold kS;rw[bV h,Nat.zero_mod]
theorem rz {b v k:Nat} (hb:0<b) (h:v<b^(k+1)):kS b v k=v/b^k:=by
 unfold kS;exact bh ((iV (cG hb)).2 (by rwa[bC,bF]at h))
theorem zD {b v n k x:Nat} (hb:2<=b) (hv:v<b^(k+1)) (hx:v+b^k*x<b^(k+1)):(pad b v n).set k (kS b v k+x)=pad b (v+b^k*x) n:=by
 have hb':0<b:=oO;rw[Nz (b:=b) (v:=v+b^k*x) (L:=(pad b v n).set k (kS b v k+x)) ?_]
 ·simp
 ·intro j hj;have hj':j<n:=by simpa using hj
  rw[ap,fu];split
  ·rename_i h;subst h;rw[aj (by simpa using hj'),fc,rz hb' hv,rz hb' hx,da _ _ (cG hb')]
  ·rename_i h;rw[<-ap,nS b v hj'];rcases bI j k with h1|h1
   ·rw[yk hb' v x h1]
   ·have h2:b^(k+1)<=b^j:=bM hb' oO;rw[uc oO,uc oO]
theorem Fp (i:Nat):256^i=kb^(i/4)*2^(8*(i%4)):=by
 have h1:(256:Nat)=2^8:=rfl;have h2:kb=2^32:=rfl;rw[h1,h2,<-fF,<-fF,<-dB];congr 1;omega
theorem Ha (v i n:Nat):(pad kb (v%256^i) n).set (i/4) (kS kb (v%256^i) (i/4)|||kS 256 v i*2^(8*(i%4)))=pad kb (v%256^(i+1)) n:=by
 have h0:v%256^i<kb^(i/4)*2^(8*(i%4)):=by rw[<-Fp];exact bG _ (cG dD)
 have h1:256^(i+1)<=kb^(i/4+1):=by
  rw[show(256:Nat)=2^8 from rfl,show kb=2^32 from rfl,<-fF,<-fF];exact bM dD oO
 have h2:v%256^(i+1)<256^(i+1):=bG _ (cG dD);have h5:v%256^i<=v%256^(i+1):=by rw[mod_pow_succ];omega
 have h3:v%256^(i+1)=v%256^i+kb^(i/4)*(kS 256 v i*2^(8*(i%4))):=by
  rw[mod_pow_succ];conv=>lhs;rw[show(256:Nat)^i*kS 256 v i=kb^(i/4)*2^(8*(i%4))*kS 256 v i by rw[<-Fp]]
  rw[bk,bF (2^(8*(i%4)))]
 have h4:kS kb (v%256^i) (i/4)<2^(8*(i%4)):=by
  rw[rz dD oO];exact di h0
 rw[ut _ _ _ h4,h3];exact zD dD oO oO
theorem oJ (b n:Nat):pad b 0 n=List.replicate n 0:=by
 apply ff
 ·simp
 ·intro j h1 h2;simp[pad,kS]
theorem rO {b:Nat} (hb:0<b) (v i:Nat):v%b^i<b^i:=bG _ (cG hb)
theorem CD {b:Nat} (hb:2<=b) (v i n:Nat):(pad b (v%b^i) n).set i (kS b v i)=pad b (v%b^(i+1)) n:=by
 have h1:=rO (b:=b) oO v i;have h2:=rO (b:=b) oO v (i+1);have h3:b^(i+1)=b^i*b:=bC ..;have h4:b^i<=b^(i+1):=bM oO oO;have h:=zD (b:=b) (v:=v%b^i) (n:=n) (k:=i) (x:=kS b v i) hb oO (by rw[<-mod_pow_succ];exact h2);rw[uc h1,bZ,<-mod_pow_succ]at h;exact h
theorem Hk {α:Type} (L:List α) (i:Nat) (x:α) (h:i<L.length):L.reverse.set (L.length-1-i) x=(L.set i x).reverse:=by
 apply jP;intro j;rcases bI j L.length with hj|hj
 ·rw[gC (by simpa using hj),fu,fu,gC hj,ce];by_cases h1:L.length-1-i=j
  ·have h2:i=L.length-1-j:=oO;rw[aj h1,aj h2,aj (by simp;omega),aj h]
  ·have h2:¬i=L.length-1-j:=oO;rw[ah h1,ah h2]
 ·rw[dk (by simp;omega),dk (by simp;omega)]
theorem Fi (v i:Nat):kS kb v (i/4)/2^(8*(i%4))%256=kS 256 v i:=by
 unfold kS;rw[Fp,<-cV];generalize v/kb^(i/4)=x;have h4:i%4=0\/i%4=1\/i%4=2\/i%4=3:=oO;rcases h4 with h|h|h|h<;>rw[h]<;>simp only[kb]<;>omega
theorem HQ (v n:Nat):val (zI (pad 256 v n).reverse)=v%256^n:=by
 rw[PN _ (λd hd=>sP dD _ _ d (dW.1 hd)),gP,CJ]
theorem xz (v:Value) (L:List Nat) (w:World) (hv:Sl (uk .u32) 1 w v L) (hL:∀d∈L,d<kb):
  lU Tryz.prog 112 #[v] w λr w'=>Sl (uk .u32) 1 w r (kJ (lA kb L))/\w'=w:=by
 have hmax:=hv.maxLen;refine enter Tryz.func112 rfl Tryz.ntmps112 rfl ?_;refine J2 ?_;refine jp (ki rfl hv ⟨_,Tryz.underlying139⟩ ?_);refine V1 ?_;refine ku (σ:=Nat) (λn ρ w'=>n<=L.length/\(∀i,n<=i->i<L.length->L.getD i 0=0)/\ρ 0=v/\ρ 3=iB n/\w'=w) (λn=>n) L.length
  ⟨aH _,λi h1 h2=>oO,rfl,rfl,rfl⟩ ?_
 rintro n ρ w' ⟨hn,hz,h0,h3,rfl⟩;have hdone:(n=0\/L.getD (n-1) 0≠0)->L.take n=kJ (lA kb L):=λh=>vv (b:=kb) dD L n hL hn hz h;by_cases hpos:0<n
 ·by_cases hl:L.getD (n-1) 0=0
  ·refine J3 ?_;refine ke (j7 8 kR rfl dT) (ko h0 (ke (j7 8 kR rfl dT) (ko h3 (ke (j7 8 kR rfl dT) (sk rfl rfl (cF _ oO) (ke (j7 8 kR rfl dT) (kj (i:=n-1) rfl rfl hv oO dO li (lj (j7 8 kR rfl dT) (kt (i:=n-1) 0 rfl kI hv dO rfl rfl (.inr rfl) (ke (j7 8 kR rfl dT) (qV rfl rfl (jp (kA (vb rfl dT) rfl ?_)))))))))))));refine V4 ?_;refine⟨n-1,_,rfl,⟨oO,λi h1 h2=> ?_,h0,vi rfl oO,rfl⟩,oO⟩;rcases bI i n with h4|h4
   ·rw[show i=n-1 by omega];exact hl
   ·exact hz i h4 h2
  ·refine J3 ?_;refine ke (j7 8 kR rfl dT) (ko h0 (ke (j7 8 kR rfl dT) (ko h3 (ke (j7 8 kR rfl dT) (sk rfl rfl (cF _ oO) (ke (j7 8 kR rfl dT) (kj (i:=n-1) rfl rfl hv oO dO li (lj (j7 8 kR rfl dT) (kt (i:=n-1) 0 rfl kI hv dO rfl rfl (.inr rfl) (ke (j7 8 kR rfl dT) (qV rfl rfl (jp (kA (vb rfl dT) rfl ?_)))))))))))));refine J3 ?_;refine jp (y4 (hi:=n) rfl rfl hv rfl hn li ?_);refine J1 ?_;refine jt ?_;refine kB rfl rfl ?_;refine⟨?_,rfl⟩;rw[<-hdone (.inr hl)];exact hv.sub (Af _) dD (aB n) hn
 ·refine J3 ?_;refine kL (ka 8 kR rfl dF) (kL (ka 8 kR rfl dF) (kL (ka 8 kR rfl dF) (kL (ka 8 kR rfl dF) (kL (ka 8 kR rfl dF) (kL (ka 8 kR rfl dF) (jp (kA (vb rfl dF) rfl ?_)))))));refine ja ?_;refine lx rfl (rfl) ?_;refine J2 ?_;refine jp (y4 (hi:=n) rfl rfl hv rfl hn li ?_);refine J1 ?_;refine jt ?_;refine kB rfl rfl ?_;refine⟨?_,rfl⟩;rw[<-hdone (.inl oO)];exact hv.sub (Af _) dD (aB n) hn
theorem qo (s:ByteArray) (w:World) (hs:s.size<=70368744177664):
  lU Tryz.prog 69 #[.string s] w λr w'=>Sl (uk .u32) 1 w' r (kJ (val s))/\Below w.heap.size w w':=by
 have hS:=St.init w;refine enter Tryz.func69 rfl Tryz.ntmps69 rfl ?_;refine J5 ?_;refine jp (rL rfl rfl oO (gn _ _ oO) (jh (pN (n:=(s.size+3)/4) rfl rfl li oO oO oO oO hS ?_)));intro b1 wz2 hS hBz2;refine V4 ?_;obtain⟨n,hn⟩:=jz ((s.size+3)/4);rw[<-hn,<-oJ kb n,show 0=val s%256^0 by rw[cU,dZ]]at hS;refine ku (σ:=Nat) (λi ρ w'=>i<=s.size/\ρ 0= .string s/\ρ 3= .slice (some ⟨b1,0,none⟩) n n/\ρ 12=iB s.size/\ρ 13=iB i/\St w w' [(b1,141,Kr .u32 (pad kb (val s%256^i) n))]) (λi=>s.size-i) 0
  ⟨aB _,rfl,by rw[hn];rfl,rfl,rfl,hS⟩ ?_
 clear hS;rintro i ρ w2 ⟨hi,h0,h3,h12,h13,hS⟩;refine V1 ?_;by_cases hlt:i<s.size
 ·refine V3 ?_;have hb:=AW s i hlt;have hl:=qF (b:=kb) dD (val s%256^i) (i/4);have hd:=qF (b:=256) dD (val s) i;have hg:(pad kb (val s%256^i) n).getD (i/4) 0=kS kb (val s%256^i) (i/4):=nS _ _ oO;have hp:2^(8*(i%4))<=2^24:=bM dD oO;have hq:kS 256 (val s) i*2^(8*(i%4))<4294967296:=ct (fg (Nat.le_of_lt_succ hd) hp) dD;refine ja ?_;refine kC [jo 0,jo 1,jo 2,jo 3,ju 4,jo 5,jo 6,jo 7,jo 8,jo 9,jo 10,jo 11,jo 12,jo 13,jo 14,jo 15,jo 16,jo 17,jo 18,jw 19] kR kR hS ?_;intro wz3 hS hBz3;refine J2 ?_;refine jl rfl (rL rfl rfl oO (r:=((i/4:Nat):Int)) (by exact gn _ _ oO) (jl rfl (kD (i:=i/4) rfl rfl oO dO li (jm rfl (nN (k:=0) (i:=i/4) rfl kI hS rfl oO dO ?_)))));refine J6 ?_;refine jl rfl (wA (i:=s.size-1-i) rfl rfl oO oO Tryz.underlying9 (jl rfl (kH rfl Tryz.underlying141 ⟨_,Tryz.underlying5⟩ (r:=((kS 256 (val s) i:Nat):Int)) (by rw[hb];exact fm _ oO) ?_)));refine J1 ?_;refine jl rfl (pC rfl rfl oO (r:=((i%4:Nat):Int)) (by rfl) (jl rfl (wk rfl rfl (r:=((8*(i%4):Nat):Int)) (by exact oN _ oO) (jl rfl (uS rfl rfl oO (uX _ _ _ (show _<=32 by omega) (pm _ ⟨rfl,oO,oO⟩)) (jl rfl (zt rfl rfl (rj rfl _ _ (by rw[hg];exact hl) hq) (jl rfl (kD (i:=i/4) rfl rfl oO dO li (jx rfl (pf (k:=0) (i:=i/4) (a:=_) rfl rfl rfl kI hS rfl oO dO ?_)))))))))));intro wz4 hS;refine ja ?_;rw[hg,Ha]at hS;refine V2 ?_;exact⟨i+1,_,rfl,⟨hlt,h0,h3,h12,vi rfl oO,hS⟩,oO⟩
 ·refine J1 ?_;refine jt ?_;obtain rfl:i=s.size:=oO;have hval:val s<256^s.size:=E7 s;have h256:256^s.size<=kb^n:=by
   rw[show(256:Nat)=2^8 from rfl,show kb=2^32 from rfl,<-fF,<-fF];exact bM dD oO
  rw[bh hval]at hS;have hsl:=hS.Iu (k:=0) rfl (n:=n) (cap:=n) (by simp) (aH _) oO;rw[aV (by simp)]at hsl;refine J1 ?_;refine jh (j6 Tryz.call112 rfl (xz _ _ _ hsl (sP dD _ _)) ?_);rintro r w3 ⟨hr,rfl⟩;refine J1 ?_;refine jt ?_;refine kB rfl rfl ?_;rw[Hp oO]at hr;exact⟨hr,hS.j4⟩
theorem u7 (v:Value) (L:List Nat) (w:World) (hv:Sl (uk .u32) 1 w v L) (hL:∀d∈L,d<kb) (hs:L.length<=17592186044416):
  lU Tryz.prog 70 #[v] w λr w'=>r= .string (kG (lA kb L))/\Below w.heap.size w w':=by
 have hS:=St.init w;refine enter Tryz.func70 rfl Tryz.ntmps70 rfl ?_;refine J2 ?_;refine jp (ki rfl hv ⟨_,Tryz.underlying139⟩ (jp (wk rfl rfl (cF _ oO) (jh (pN (n:=4*L.length) rfl rfl C4 oO oO oO oO hS ?_)))));intro b1 wz2 hS hBz2;refine V4 ?_;obtain⟨V,hV⟩:=jz (lA kb L);obtain⟨n,hn⟩:=jz (4*L.length);have h00:List.replicate (4*L.length) 0=(pad 256 (V%256^0) n).reverse:=by rw[cU,dZ,oJ,List.reverse_replicate,hn]
 rw[h00]at hS;refine ku (σ:=Nat) (λi ρ w'=>i<=n/\ρ 0=v/\ρ 3= .slice (some ⟨b1,0,none⟩) n n/\ρ 10=iB n/\ρ 11=iB i/\St w w' [(b1,5,Kr .u8 (pad 256 (V%256^i) n).reverse)]) (λi=>n-i) 0
  ⟨aB _,rfl,by rw[hn];rfl,vi rfl (by rw[hn]),rfl,hS⟩ ?_
 clear hS;rintro i ρ w3 ⟨hi,h0,h3,h10,h11,hS⟩;have hv2:=hv.j4 hS.j4;refine V1 ?_;by_cases hlt:i<n
 ·refine V3 ?_;have hg:L.getD (i/4) 0=kS kb V (i/4):=by rw[hV,vJ dD _ hL]
  have hl:=qF (b:=kb) dD V (i/4);have hlen:(pad 256 (V%256^i) n).length=n:=pad_length _ _ _;refine J8 ?_;refine jp (rL rfl rfl oO (r:=((i/4:Nat):Int)) (by exact gn _ _ oO) (jp (kj (i:=i/4) rfl rfl hv2 oO dO li (jq (kt (i:=i/4) 0 rfl kI hv2 dO rfl rfl (.inr rfl) ?_)))));refine J1 ?_;refine jp (pC rfl rfl oO (r:=((i%4:Nat):Int)) (by rfl) (jp (wk rfl rfl (r:=((8*(i%4):Nat):Int)) (by exact oN _ oO) (jp (pW rfl rfl oO (qg _ _ (show _<=32 by omega)) (jp (kH rfl Tryz.underlying5 ⟨_,Tryz.underlying141⟩ (uj _) (jp (kD (i:=n-1-i) rfl rfl oO dO C4 (jh (pf (k:=0) (i:=n-1-i) (a:=_) rfl rfl rfl Ww hS rfl oO dO ?_)))))))))));intro wz3 hS;refine ja ?_;have hset:=Hk (pad 256 (V%256^i) n) i (kS 256 V i) oO;rw[hg,Fi,show n-1-i=(pad 256 (V%256^i) n).length-1-i by omega,hset,CD dD]at hS;refine V2 ?_;exact⟨i+1,_,rfl,⟨hlt,h0,h3,h10,vi rfl oO,hS⟩,oO⟩
 ·refine J1 ?_;refine jt ?_;obtain rfl:i=n:=oO;have hVlt:V<256^i:=by
   have:=tu L hL;rwa[<-hV,show kb=256^4 from rfl,<-fF,<-hn]at this
  have hat:=St.Xl hS (k:=0) rfl;have hsz:(zI (pad 256 (V%256^i) i).reverse).size<=9223372036854775807:=by rw[Ey];simp;omega
  refine J1 ?_;refine jq (Sj rfl ⟨Tryz.underlying189,Tryz.underlying5,Tryz.underlying9⟩ (by simp) hat (jh (j6 Tryz.call66 rfl (ng _ _ hsz) ?_)));rintro r w4 ⟨rfl,rfl⟩;refine J1 ?_;refine jt ?_;refine kB rfl rfl ?_;rw[HQ,Nat.mod_mod,bh hVlt,hV];exact⟨rfl,hS.j4⟩
def sn (m n:Nat):Int:=if m<n then-1 else if n<m then 1 else 0
theorem xB (n:Nat):sn n n=0:=by simp[sn]
theorem tZ {m n:Nat} (h:m<n):sn m n= -1:=by simp[sn,h]
theorem ug {m n:Nat} (h:n<m):sn m n=1:=by simp[sn,h,show¬m<n by omega]
theorem oZ (b m i:Nat):m/b^i=b*(m/b^(i+1))+kS b m i:=by
 unfold kS;rw[bC,<-cV];exact(cJ _ _).symm
theorem sf {b m n i:Nat} (h:m/b^i<n/b^i):m<n:=by
 rcases bI m n with h1|h1
 ·exact h1
 ·have:=Nat.div_le_div_right (c:=b^i) h1;omega
theorem ub {m n:Nat} (h:(kJ m).length<(kJ n).length):m<n:=by
 rcases bI m n with h1|h1
 ·exact h1
 ·have:=nH (b:=kb) dD h1;unfold kJ at h;omega
theorem KJ (n:Int) (w:World):
  lU Tryz.prog 133 #[.int .i64 n] w λr w'=>r= .int .i64 (if n<0 then-1 else if 0<n then 1 else 0)/\w'=w:=by
 refine enter Tryz.func133 rfl Tryz.ntmps133 rfl ?_;refine V4 ?_;by_cases h1:n<0
 ·refine k9 rfl (ao h1) ?_;refine J1 ?_;refine jt ?_;refine kB rfl rfl ?_;exact⟨vi rfl (by rw[aj h1]),rfl⟩
 ·refine lx rfl (ae h1) ?_;refine V3 ?_;by_cases h2:0<n
  ·refine k9 rfl (ao h2) ?_;refine J1 ?_;refine jt ?_;refine kB rfl rfl ?_;exact⟨vi rfl (by rw[ah h1,aj h2]),rfl⟩
  ·refine lx rfl (ae h2) ?_;refine J1 ?_;refine jt ?_;refine kB rfl rfl ?_;exact⟨vi rfl (by rw[ah h1,ah h2]),rfl⟩
theorem Og {m n:Nat} (h:(kJ m).length≠(kJ n).length):(if((kJ m).length:Int)-((kJ n).length:Int)<0 then-1 else if 0<((kJ m).length:Int)-((kJ n).length:Int)then 1 else 0)=sn m n:=by
 rcases bI (kJ m).length (kJ n).length with h1|h1
 ·rw[aj oO,tZ (ub h1)]
 ·rw[ah oO,aj oO,ug (ub oO)]
theorem BK (u v:Value) (m n:Nat) (w:World) (hu:Sl (uk .u32) 1 w u (kJ m)) (hv:Sl (uk .u32) 1 w v (kJ n)):
  lU Tryz.prog 118 #[u,v] w λr w'=>r= .int .i64 (sn m n)/\Below w.heap.size w w':=by
 have hlu:=hu.maxLen;have hlv:=hv.maxLen;have hS:=St.init w;refine enter Tryz.func118 rfl Tryz.ntmps118 rfl ?_;refine J2 ?_;refine jp (ki rfl (hu.j4 hS.j4) ⟨_,Tryz.underlying139⟩ ?_);refine J1 ?_;refine jp (ki rfl (hv.j4 hS.j4) ⟨_,Tryz.underlying139⟩ ?_);refine V1 ?_;by_cases hl:(kJ m).length=(kJ n).length
 ·refine lx rfl (ae (by simp[hl])) ?_;refine J1 ?_;refine jp (ki rfl (hu.j4 hS.j4) ⟨_,Tryz.underlying139⟩ ?_);refine V2 ?_;refine ku (σ:=Nat) (λi ρ w'=>i<=(kJ m).length/\m/kb^i=n/kb^i/\ρ 0=u/\ρ 1=v/\ρ 5=iB ((i:Int)-1)/\St w w' []) (λi=>i) (kJ m).length
   ⟨aH _,?_,rfl,rfl,rfl,hS⟩ ?_
  ·have h1:m<kb^(kJ m).length:=mT dD m;have h2:n<kb^(kJ n).length:=mT dD n;rw[bV h1,hl,bV h2]
  clear hS;rintro i ρ w' ⟨hi,hq,h0,h1,h5,hS⟩;refine V2 ?_;by_cases hpos:0<i
  ·refine V1 ?_;have hlen:i-1<(kJ m).length:=oO;refine ja ?_;refine kC [jo 0,jo 1,jo 2,ju 3,jo 4,jo 5,jo 6,ju 7,jo 8] kR kR hS ?_;intro wz1 hS hBz1;refine J2 ?_;refine jl rfl (kj (i:=i-1) rfl rfl (hu.j4 hS.j4) oO dO li (jm rfl (kt (i:=i-1) 0 rfl kI (hu.j4 hS.j4) dO rfl rfl (.inr rfl) ?_)));refine J2 ?_;refine jl rfl (kj (i:=i-1) rfl rfl (hv.j4 hS.j4) oO dO li (jm rfl (kt (i:=i-1) 0 rfl kI (hv.j4 hS.j4) dO rfl rfl (.inr rfl) ?_)));refine V1 ?_;rw[l9,l9];have hs1:=oZ kb m (i-1);have hs2:=oZ kb n (i-1);rw[show i-1+1=i by omega]at hs1 hs2;by_cases hne:kS kb m (i-1)=kS kb n (i-1)
   ·refine V4 ?_;exact⟨i-1,_,rfl,⟨oO,by rw[hs1,hs2,hq,hne],h0,h1,vi rfl oO,hS⟩,oO⟩
   ·refine V1 ?_;refine kC [jo 0,jo 1,jo 2,ju 3,jo 4,jo 5,jo 6,ju 7,jo 8] kR kR hS ?_;intro wz2 hS hBz2;refine J2 ?_;refine jl rfl (kj (i:=i-1) rfl rfl (hu.j4 hS.j4) oO dO li (jm rfl (kt (i:=i-1) 0 rfl kI (hu.j4 hS.j4) dO rfl rfl (.inr rfl) ?_)));refine J2 ?_;refine jl rfl (kj (i:=i-1) rfl rfl (hv.j4 hS.j4) oO dO li (jm rfl (kt (i:=i-1) 0 rfl kI (hv.j4 hS.j4) dO rfl rfl (.inr rfl) ?_)));refine V1 ?_;rw[l9,l9];by_cases hlt:kS kb m (i-1)<kS kb n (i-1)
    ·refine J2 ?_;refine jt ?_;refine kB rfl rfl ?_;refine⟨vi rfl (tZ (sf (b:=kb) (i:=i-1) ?_)).symm,hS.j4⟩;rw[hs1,hs2,hq];omega
    ·refine J2 ?_;refine jt ?_;refine kB rfl rfl ?_;refine⟨vi rfl (ug (sf (b:=kb) (i:=i-1) ?_)).symm,hS.j4⟩;rw[hs1,hs2,hq];omega
  ·refine J2 ?_;refine jt ?_;refine kB rfl rfl ?_;obtain rfl:i=0:=oO;rw[cU,ft,ft]at hq;rw[hq];exact⟨vi rfl (by rw[xB]),hS.j4⟩
 ·refine J2 ?_;refine jp (ki rfl (hu.j4 hS.j4) ⟨_,Tryz.underlying139⟩ ?_);refine J1 ?_;refine jp (ki rfl (hv.j4 hS.j4) ⟨_,Tryz.underlying139⟩ ?_);refine J1 ?_;refine jh (j6 Tryz.call133 rfl (KJ _ _) ?_);rintro r w' ⟨rfl,rfl⟩;refine J1 ?_;refine jt ?_;refine kB rfl rfl ?_;exact⟨vi rfl (Og hl),hS.j4⟩
theorem uK:∀(a b:List UInt8),a.length=b.length->Lib.compareBytes a b=sn (lA 256 (a.map UInt8.toNat).reverse) (lA 256 (b.map UInt8.toNat).reverse)
 | [],[],_=>by simp[Lib.compareBytes,sn]
 |x::a,y::b,h=>by
  have hl:a.length=b.length:=by simpa using h
  have ih:=uK a b hl;rw[db,db,jN,jN,se,se];have h1:=tu (b:=256) (a.map UInt8.toNat).reverse (λd hd=>by obtain⟨u,_,rfl⟩:=bX.1 (dW.1 hd);exact u.toNat_lt);have h2:=tu (b:=256) (b.map UInt8.toNat).reverse (λd hd=>by obtain⟨u,_,rfl⟩:=bX.1 (dW.1 hd);exact u.toNat_lt);rw[fw,aS]at h1 h2;rw[fw,fw,aS,aS];rw[hl]at h1⊢;generalize lA 256 (a.map UInt8.toNat).reverse=m at h1 ih;generalize lA 256 (b.map UInt8.toNat).reverse=n at h2 ih;generalize 256^b.length=k at h1 h2;rw[Lib.compareBytes,ih];simp only[lA,eV,ef,UInt8.lt_iff_toNat_lt];generalize x.toNat=p;generalize y.toNat=q;split
  ·rename_i hpq;have:k*(p+1)<=k*q:=bB _ hpq;rw[ba]at this;rw[tZ oO]
  ·split
   ·rename_i hpq;have:k*(q+1)<=k*p:=bB _ hpq;rw[ba]at this;rw[ug oO]
   ·obtain rfl:p=q:=oO;unfold sn;simp
theorem yG {m n:Nat} (h:(kG m).size=(kG n).size):Lib.compareBytes (kG m).data.toList (kG n).data.toList=sn m n:=by
 have h':(kG m).data.toList.length=(kG n).data.toList.length:=h;rw[uK _ _ h'];have h1:=kY m;have h2:=kY n;unfold val oo at h1 h2;rw[h1,h2]
theorem y3 {m n:Nat} (h:(kG m).size<(kG n).size):m<n:=by
 rcases bI m n with h1|h1
 ·exact h1
 ·have:=nH (b:=256) dD h1;rw[rZ,rZ]at h;omega
theorem CW {m n:Nat} (h:(kG m).size≠(kG n).size):(if((kG m).size:Int)-((kG n).size:Int)<0 then-1 else if 0<((kG m).size:Int)-((kG n).size:Int)then 1 else 0)=sn m n:=by
 rcases bI (kG m).size (kG n).size with h1|h1
 ·rw[aj oO,tZ (y3 h1)]
 ·rw[ah oO,aj oO,ug (y3 oO)]
theorem ND {N:Nat} {ρ:Nat->Value} {w:World} {K2:Value->World->Prop} {x y:Operand} {a b:ByteArray} {ats:Array TypeId} {d:Option Tmp} {ty:TypeId} {pos:String} {aft:Array Edge} {g:Option (Nat×Bool)}
  (hx:ev N ρ x= .string a) (hy:ev N ρ y= .string b) (h:K2 (.int .i64 (Lib.compareBytes a.data.toList b.data.toList)) w):
  pd Tryz.prog N ρ w ⟨d,.call ⟨.value (.func 195),#[x,y],ats⟩,ty,pos,aft,g⟩ K2:=by
 refine nX (v:= .int .i64 (Lib.compareBytes a.data.toList b.data.toList)) (w':=w) ?_ h;have he:ev N ρ (.func 195)= .func (.func 195) #[] #[]:=rfl;simp only[execOp,resolve,he,Deferred.ofValue,invoke,iM,db,jO,hx,hy,dP,io,dp,Array.empty_append,Array.append_empty];rw[run_callFunc_extern Tryz.func195 kR kR kR (e:=Extern.BytealgCompare.compare) kR,Lib.run_compareString];rfl
theorem Al (a b:ByteArray) (w:World):
  lU Tryz.prog 169 #[.string a,.string b] w λr w'=>r= .int .i64 (Lib.compareBytes a.data.toList b.data.toList)/\w'=w:=by
 refine enter Tryz.func169 rfl Tryz.ntmps169 rfl ?_;refine J3 ?_;refine jh (ND rfl rfl ?_);refine J1 ?_;refine jt ?_;refine kB rfl rfl ?_;exact⟨rfl,rfl⟩
theorem Dk (a b:ByteArray) (w:World):
  lU Tryz.prog 134 #[.string a,.string b] w λr w'=>r= .int .i64 (Lib.compareBytes a.data.toList b.data.toList)/\w'=w:=by
 refine enter Tryz.func134 rfl Tryz.ntmps134 rfl ?_;refine J3 ?_;refine jh (j6 Tryz.call169 rfl (Al _ _ _) ?_);rintro v w' ⟨rfl,rfl⟩;refine J1 ?_;refine jt ?_;refine kB rfl rfl ?_;exact⟨rfl,rfl⟩
theorem IC (a b:ByteArray) (w:World) (ha:a.size<=9223372036854775807) (hb:b.size<=9223372036854775807):
  lU Tryz.prog 90 #[.string a,.string b] w λr w'=>r= .int .i64 (sn (val a) (val b))/\w'=w:=by
 refine enter Tryz.func90 rfl Tryz.ntmps90 rfl ?_;refine J2 ?_;refine jh (j6 Tryz.call66 rfl (ng _ _ ha) ?_);rintro v w' ⟨rfl,rfl⟩;refine J1 ?_;refine jh (j6 Tryz.call66 rfl (ng _ _ hb) ?_);rintro v w' ⟨rfl,rfl⟩;refine V2 ?_;have h1:=p8 a;have h2:=p8 b;refine V5 ?_;by_cases hl:(kG (val a)).size=(kG (val b)).size
 ·refine lx rfl (ae (by simp[hl])) ?_;refine J2 ?_;refine jh (j6 Tryz.call134 rfl (Dk _ _ _) ?_);rintro v w' ⟨rfl,rfl⟩;refine J1 ?_;refine jt ?_;refine kB rfl rfl ?_;exact⟨vi rfl (yG hl),rfl⟩
 ·refine J6 ?_;refine jh (j6 Tryz.call133 rfl (KJ _ _) ?_);rintro r w' ⟨rfl,rfl⟩;refine J1 ?_;refine jt ?_;refine kB rfl rfl ?_;exact⟨vi rfl (CW hl),rfl⟩
def wN:ByteArray:=⟨((List.range 256).map λi=>UInt8.ofNat (Lib.bitLen i)).toArray⟩
theorem u3:wN.size=256:=by decide+kernel
theorem Mt:∀i:Fin 256,(wN[i.val]'(by rw[u3];exact i.isLt)).toNat=Lib.bitLen i.val:=by decide+kernel
theorem uR (i:Nat) (h:i<wN.size):(wN[i]).toNat=Lib.bitLen i:=Mt ⟨i,by rw[<-u3];exact h⟩
theorem OC (x:Nat) (w:World) (h1:x<kb):
  lU Tryz.prog 181 #[.int .u32 x] w λr w'=>r= .int .i64 (Lib.bitLen x)/\w'=w:=by
 have hB:kb=4294967296:=rfl;have hT:256=wN.size:=u3.symm;refine enter Tryz.func181 rfl Tryz.ntmps181 rfl ?_;refine V3 ?_;by_cases g1:65536<=x
 ·refine J2 ?_;refine jp (pW rfl rfl oO (r:=((x/65536:Nat):Int)) (by exact qg (k:= .u32) x 16 dD) ?_);refine V4 ?_;by_cases g2:256<=(x/65536)
  ·refine J2 ?_;refine jp (pW rfl rfl oO (r:=(((x/65536)/256:Nat):Int)) (by exact qg (k:= .u32) _ 8 dD) ?_);refine V4 ?_;have h8:Lib.bitLen (((x/65536)/256)%256)<=8:=iA ⟨((x/65536)/256)%256,oO⟩;refine J2 ?_;refine jp (kH rfl Tryz.underlying5 ⟨_,Tryz.underlying141⟩ (r:=((((x/65536)/256)%256:Nat):Int)) (by exact uj _) (jp (wA (s:=wN) (i:=((x/65536)/256)%256) (bQ Value.string (by decide+kernel)) rfl rfl oO Tryz.underlying9 (jp (kH rfl Tryz.underlying3 ⟨_,Tryz.underlying5⟩ (r:=((Lib.bitLen (((x/65536)/256)%256):Nat):Int)) (by rw[uR];exact oN _ ⟨rfl,oO,oO⟩) ?_)))));refine J2 ?_;refine jt ?_;refine kB rfl rfl ?_;have e:Lib.bitLen x=24+Lib.bitLen (((x/65536)/256)%256):=by rw[Lib.bitLen_shift24 x oO oO,show x/16777216=x/65536/256%256 by omega]
   exact⟨vi rfl oO,rfl⟩
  ·refine V1 ?_;have h8:Lib.bitLen ((x/65536)%256)<=8:=iA ⟨(x/65536)%256,oO⟩;refine J2 ?_;refine jp (kH rfl Tryz.underlying5 ⟨_,Tryz.underlying141⟩ (r:=(((x/65536)%256:Nat):Int)) (by exact uj _) (jp (wA (s:=wN) (i:=(x/65536)%256) (bQ Value.string (by decide+kernel)) rfl rfl oO Tryz.underlying9 (jp (kH rfl Tryz.underlying3 ⟨_,Tryz.underlying5⟩ (r:=((Lib.bitLen ((x/65536)%256):Nat):Int)) (by rw[uR];exact oN _ ⟨rfl,oO,oO⟩) ?_)))));refine J2 ?_;refine jt ?_;refine kB rfl rfl ?_;have e:Lib.bitLen x=16+Lib.bitLen ((x/65536)%256):=by rw[Lib.bitLen_shift16 x oO oO,show x/65536%256=x/65536 by omega]
   exact⟨vi rfl oO,rfl⟩
 ·refine V3 ?_;by_cases g2:256<=x
  ·refine J2 ?_;refine jp (pW rfl rfl oO (r:=((x/256:Nat):Int)) (by exact qg (k:= .u32) _ 8 dD) ?_);refine V4 ?_;have h8:Lib.bitLen ((x/256)%256)<=8:=iA ⟨(x/256)%256,oO⟩;refine J2 ?_;refine jp (kH rfl Tryz.underlying5 ⟨_,Tryz.underlying141⟩ (r:=(((x/256)%256:Nat):Int)) (by exact uj _) (jp (wA (s:=wN) (i:=(x/256)%256) (bQ Value.string (by decide+kernel)) rfl rfl oO Tryz.underlying9 (jp (kH rfl Tryz.underlying3 ⟨_,Tryz.underlying5⟩ (r:=((Lib.bitLen ((x/256)%256):Nat):Int)) (by rw[uR];exact oN _ ⟨rfl,oO,oO⟩) ?_)))));refine J2 ?_;refine jt ?_;refine kB rfl rfl ?_;have e:Lib.bitLen x=8+Lib.bitLen ((x/256)%256):=by rw[Lib.bitLen_shift8 x oO oO,show x/256%256=x/256 by omega]
   exact⟨vi rfl oO,rfl⟩
  ·refine V1 ?_;have h8:Lib.bitLen (x%256)<=8:=iA ⟨x%256,oO⟩;refine J2 ?_;refine jp (kH rfl Tryz.underlying5 ⟨_,Tryz.underlying141⟩ (r:=((x%256:Nat):Int)) (by exact uj _) (jp (wA (s:=wN) (i:=x%256) (bQ Value.string (by decide+kernel)) rfl rfl oO Tryz.underlying9 (jp (kH rfl Tryz.underlying3 ⟨_,Tryz.underlying5⟩ (r:=((Lib.bitLen (x%256):Nat):Int)) (by rw[uR];exact oN _ ⟨rfl,oO,oO⟩) ?_)))));refine J2 ?_;refine jt ?_;refine kB rfl rfl ?_;have e:Lib.bitLen x=0+Lib.bitLen (x%256):=by rw[bZ,bh oO]
   exact⟨vi rfl oO,rfl⟩
theorem xX:∀(k x:Nat),x<2^k->k<=64->Lib.bitLen x<=k/\x<2^Lib.bitLen x/\(x≠0->0<Lib.bitLen x/\2^(Lib.bitLen x-1)<=x)
 |0,x,h,_=>by
  have:x=0:=by simpa using h
  subst this;exact⟨by decide+kernel,by decide+kernel,λh=>absurd rfl h⟩
 |k+1,x,h,hk=>by
  by_cases hx:x=0
  ·subst hx;have h0:Lib.bitLen 0=0:=by decide+kernel
   rw[h0];exact⟨oO,dD,λh=>absurd rfl h⟩
  ·have hlt:x<2^64:=dw h (bM dD hk);obtain⟨h1,h2,h3⟩:=xX k (x/2) (by rw[bC]at h;omega) oO;rw[Lib.bitLen_half x hx hlt];refine⟨oO,?_,λ_=>⟨oO,?_⟩⟩
   ·rw[fa,bC];omega
   ·rw[fC];by_cases h4:x/2=0
    ·rw[h4,show Lib.bitLen 0=0 by decide+kernel];omega
    ·obtain⟨h5,h6⟩:=h3 h4;have:2^Lib.bitLen (x/2)=2^(Lib.bitLen (x/2)-1)*2:=by rw[<-bC];congr 1;omega
     omega
theorem zg (x:Nat) (w:World) (h0:0<x) (h1:x<kb):
  lU Tryz.prog 154 #[.int .u32 x] w λr w'=>(∃c:Nat,c<32/\x*2^c<kb/\kb<=2*(x*2^c)/\r= .int .i64 c)/\w'=w:=by
 have hB:kb=4294967296:=rfl;obtain⟨g1,g2,g3⟩:=xX 32 x oO dD;obtain⟨g4,g5⟩:=g3 oO;have hl:=OC x w h1;refine enter Tryz.func154 rfl Tryz.ntmps154 rfl ?_;refine J2 ?_;refine jh (j6 Tryz.call181 rfl (hl) ?_);rintro r w' ⟨rfl,rfl⟩;refine J2 ?_;refine jt ?_;refine kB rfl rfl ?_;refine⟨⟨32-Lib.bitLen x,oO,?_,?_,vi rfl oO⟩,rfl⟩
 ·have:x*2^(32-Lib.bitLen x)<2^Lib.bitLen x*2^(32-Lib.bitLen x):=de g2 (cG dD);rw[<-dB,show Lib.bitLen x+(32-Lib.bitLen x)=32 by omega]at this;exact this
 ·have:2^(Lib.bitLen x-1)*2^(32-Lib.bitLen x)<=x*2^(32-Lib.bitLen x):=aO _ g5;rw[<-dB,show Lib.bitLen x-1+(32-Lib.bitLen x)=31 by omega]at this;omega
theorem HU (x y c:Nat) (w:World) (hx:x<kb) (hy:y<kb) (hc:c<kb):
  lU Tryz.prog 117 #[.int .u32 x,.int .u32 y,.int .u32 c] w λr w'=>
   r= .tuple #[.int .u32 ((x+y+c)%kb:Nat),.int .u32 ((x+y+c)/kb:Nat)]/\w'=w:=by
 have hB:kb=4294967296:=rfl;refine enter Tryz.func117 rfl Tryz.ntmps117 rfl ?_;refine J9 ?_;refine jp (oU rfl rfl (r:=((x+y+c:Nat):Int)) (by exact kX _ oO) ?_);refine J2 ?_;refine jp (kH rfl Tryz.underlying141 ⟨_,Tryz.underlying99⟩ (r7 _) ?_);refine J2 ?_;refine jp (pW rfl rfl dD (SM _ 32 dD) (jp (kH rfl Tryz.underlying141 ⟨_,Tryz.underlying99⟩ (r:=(((x+y+c)/kb:Nat):Int)) (by exact pm _ (by unfold kb at*;omega)) ?_)));refine J1 ?_;refine jt ?_;refine rD rfl rfl rfl ?_;exact⟨rfl,rfl⟩
theorem Fk {k:IntKind} (hk:k.signed=false) (m n:Nat) (hm:m<2^k.bits) (hn:n<2^k.bits):pM .xor k m n=((m^^^n:Nat):Int):=by
 have hlt:m^^^n<2^k.bits:=ia hm hn;have h:((m^^^n:Nat):Int)%2^k.bits=((m^^^n:Nat):Int):=jQ oO (by exact_mod_cast hlt);simp only[pM,fR,BitVec.toNat_xor,gi,bh hm,bh hn,IntKind.wrap,hk,jf,h];simp
theorem Bz (z:Nat) (hz:z<kb):z/2^31=(z.testBit 31).toNat:=by
 have hB:kb=4294967296:=rfl;rw[Nat.testBit_eq_decide_div_mod_eq];by_cases h:z/2^31%2=1
 ·rw[ao h];show _=1;omega
 ·rw[ae h];show _=0;omega
theorem IF (x y b:Nat) (hx:x<kb) (hy:y<kb) (hb:b<=1):
  (((4294967295^^^x)&&&y)|||((4294967295^^^(x^^^y))&&&((x+2*kb-y-b)%kb)))/2^31=if x<y+b then 1 else 0:=by
 have hB:kb=4294967296:=rfl;obtain⟨D,hD⟩:=jz (x+2*kb-y-b);rw[<-hD];have hD2:D+y+b=x+2*kb:=oO;clear hD;have hd:D%kb<kb:=bG _ oO;have h2:kb=2^32:=rfl;have hz:(((4294967295^^^x)&&&y)|||((4294967295^^^(x^^^y))&&&(D%kb)))<kb:=by
  rw[h2]at*;exact Nat.or_lt_two_pow (ie _ hy) (ie _ hd)
 rw[Bz _ hz];simp only[Nat.testBit_or,Nat.testBit_and,Nat.testBit_xor];rw[show Nat.testBit 4294967295 31=true by decide];have tx:=Bz x hx;have ty:=Bz y hy;have td:=Bz _ hd;revert tx ty td
 generalize x.testBit 31=p;generalize y.testBit 31=q;generalize (D%kb).testBit 31=r;intro tx ty td;rcases bI x (y+b)with h|h
 ·rw[aj h];cases p<;>cases q<;>cases r<;>simp only[Bool.toNat,cond]at tx ty td<;>first|rfl|(exfalso;unfold kb at*;omega)
 ·rw[ah oO];cases p<;>cases q<;>cases r<;>simp only[Bool.toNat,cond]at tx ty td<;>first|rfl|(exfalso;unfold kb at*;omega)
theorem C0 (x y b:Nat) (w:World) (hx:x<kb) (hy:y<kb) (hb:b<=1):
  lU Tryz.prog 161 #[.int .u32 x,.int .u32 y,.int .u32 b] w λr w'=>
   r= .tuple #[.int .u32 ((x+2*kb-y-b)%kb:Nat),.int .u32 (if x<y+b then 1 else 0:Nat)]/\w'=w:=by
 have hB:kb=4294967296:=rfl;have hd:(x+2*kb-y-b)%kb<kb:=bG _ oO;have h2:kb=2^IntKind.u32.bits:=rfl;have hxy:x^^^y<2^32:=ia oO oO;have hnx:4294967295^^^x<2^32:=ia dD oO;have hnxy:4294967295^^^(x^^^y)<2^32:=ia dD hxy;have ha1:(4294967295^^^x)&&&y<2^32:=ie _ oO;have ha2:(4294967295^^^(x^^^y))&&&((x+2*kb-y-b)%kb)<2^32:=ie _ oO;refine enter Tryz.func161 rfl Tryz.ntmps161 rfl ?_;refine J4 ?_;refine jp (sk rfl rfl (tr _) ?_);refine J1 ?_;refine jp (sk rfl rfl (r:=(((x+2*kb-y-b)%kb:Nat):Int)) (by rw[tr];unfold kb at*;omega) ?_);refine J2 ?_;refine jp (Sm rfl (Fk rfl 4294967295 x dD hx) ?_);refine J1 ?_;refine jp (DI rfl rfl (Gd rfl _ _ hnx hy) ?_);refine J2 ?_;refine jp (VT rfl rfl (Fk rfl x y hx hy) (jp (Sm rfl (Fk rfl 4294967295 _ dD hxy) ?_)));refine J1 ?_;refine jp (DI rfl rfl (Gd rfl _ _ hnxy hd) (jp (zt rfl rfl (rj rfl _ _ ha1 ha2) (jp (pW rfl rfl dD (qg _ 31 dD) ?_)))));refine J1 ?_;refine jt ?_;refine rD rfl rfl rfl ?_;rw[IF x y b hx hy hb];exact⟨rfl,rfl⟩
end Go.Proofs.YtoeiejliehgopaaGreatDoor
