import Derived.Below
import Derived.OwnWalk
import Derived.Orders
import Derived.KernelRfl
import Derived.Laws.StructEq
import Derived.Laws.Shifts
import Derived.Laws.Strings
import Derived.Laws.Small
import Derived.Great.BuildSlice
import Derived.Laws.BytesString
import Derived.Laws.AppendOwnNone
import Derived.Maps.AppendAt
import Derived.Great.FillDense
import Derived.IntWalk
import Derived.Laws.ResultCell
import Derived.Laws.Rows
import Derived.Test.YtoeiejliehgopaaGreatDoorProg
import Derived.Lib.Bytealg
import Derived.Lib.Strings
import Derived.Lib.Slices
import Derived.Lib.Small
import Derived.Lib.Walk
import Derived.Lib.BitFns
set_option maxRecDepth 20000
set_option maxHeartbeats 8000000
namespace Go
theorem jY {p : Prop} (h : p := by assumption) : p := h
theorem oO {p : Prop} (h : p := by omega) : p := h
theorem dD {p : Prop} (h : p := by decide) : p := h
theorem kR {p : Prop} (h : p := by kernel_rfl) : p := h
theorem jz {α : Type _} (a : α) : ∃ x, x = a := ⟨_, rfl⟩
structure Jh (p : Prop) : Prop where x : p
theorem dT {p : Prop} [Decidable p] (h : p := by omega) : decide p = true := decide_eq_true h
theorem dF {p : Prop} [Decidable p] (h : ¬ p := by omega) : decide p = false := decide_eq_false h
theorem dO {p : Prop} (h : p := by first | omega | (simp; done) | (simp; omega)) : p := h
theorem dL {p : Prop} (h : p := by first | omega | (simp only [List.length_cons, List.length_nil]; omega)) : p := h
theorem dM {m n : Nat} (h : Nat.ble m n = true := by exact rfl) : m ≤ n := Nat.le_of_ble_eq_true h
end Go
namespace Go.Sx
open Go Go.RowKit
def dj (P:Program) (f:FuncId) (args:Array Value) (w:World) (R:Value->World->Prop):Prop:=
 Calls P f args w λe w'=>∃v,e= .returned v/\R v w'
theorem dj.mono {P:Program} {f:FuncId} {args:Array Value} {w:World} {R R':Value->World->Prop} (h:dj P f args w R) (hr:∀v w',R v w'->R' v w'):dj P f args w R':=
 Calls.mono h λ_ _ ⟨v,he,hR⟩=>⟨v,he,hr _ _ hR⟩
def On:List Value->Nat->Value
 | [],_=>undef
 |v::_,0=>v
 |_::l,n+1=>On l n
def Rg (ρ:Nat->Value) (d:Nat) (v:Value):Nat->Value:=λt=>bif Nat.beq t d then v else ρ t
def lH (ρ:Nat->Value):Option Nat->Value->(Nat->Value)
 |some d,v=>Rg ρ d v
 |none,_=>ρ
def act (N:Nat) (ρ:Nat->Value):Act:=⟨Array.ofFn (n:=N) λi=>ρ i.val,[]⟩
def ev (N:Nat) (ρ:Nat->Value):Operand->Value
 | .tmp t=>bif Nat.blt t N then ρ t else undef
 | .const v=>v
 | .global g=> .pointer (some ⟨g,0,none⟩)
 | .func f=> .func (.func f) #[] #[]
theorem fI (N:Nat) (ρ:Nat->Value) (t:Nat):(act N ρ).tmps.getD t undef=ev N ρ (.tmp t):=by
 simp only[act,ev];by_cases h:t<N
 ·have hb:Nat.blt t N=true:=by rw[Nat.blt_eq];exact h
  simp[hb,Array.getD,h]
 ·have hb:Nat.blt t N=false:=by
   cases h':Nat.blt t N with
   |false=>rfl
   |true=>rw[Nat.blt_eq]at h';exact absurd h' h
  simp[hb,Array.getD,h]
theorem gg (N:Nat) (ρ:Nat->Value):(act N ρ).eval=ev N ρ:=by
 funext x;cases x with
 |tmp t=>exact fI N ρ t
 |_=>rfl
theorem gR (N:Nat) (ρ:Nat->Value) (d:Option Tmp) (v:Value):(act N ρ).put d v=act N (lH ρ d v):=by
 cases d with
 |none=>rfl
 |some d=>
  simp only[Act.put,act,lH];congr 1;apply Array.ext
  ·simp
  ·intro i h1 h2;rw[Array.getElem_setIfInBounds (by simpa using h2)];simp only[Array.getElem_ofFn,Rg];by_cases h:d=i
   ·subst h;simp
   ·have:Nat.beq i d=false:=by cases h':Nat.beq i d with|false=>rfl|true=>exact absurd (Nat.eq_of_beq_eq_true h').symm h
    simp[h,this]
theorem Gd (args:List Value) (N:Nat) (h:args.length<=N):
  (args.toArray++Array.replicate (N-args.toArray.size) undef)=Array.ofFn (n:=N) λi=>On args i.val:=by
 apply Array.ext
 ·simp;omega
 ·intro i h1 h2;have key:∀(l:List Value) (i:Nat) (_:i<l.length),On l i=l[i]:=by
   intro l;induction l with
   |nil=>intro i hi;simp at hi
   |cons a l ih=>intro i hi;cases i with
    |zero=>rfl
    |succ i=>simpa[On]using ih i (by simpa using hi)
  have key2:∀(l:List Value) (i:Nat) (_:l.length<=i),On l i=undef:=by
   intro l;induction l with
   |nil=>intro i hi;rfl
   |cons a l ih=>intro i hi;cases i with
    |zero=>simp at hi
    |succ i=>simpa[On]using ih i (by simpa using hi)
  by_cases hi:i<args.length
  ·rw[Array.getElem_append_left (by simpa using hi)];simp[key args i hi]
  ·rw[Array.getElem_append_right (by simpa using hi)];simp[key2 args i oO]
theorem enter {P:Program} {f:FuncId} {fn:Func} {c:Code} {N:Nat} {l:List Value} {w:World} {R:Value->World->Prop}
  (hf:P.funcs[f]?=some fn) (hb:fn.body=some c) (hN:fn.ntmps=N) (hl:Nat.ble l.length N=true)
  (h:c.wp P (bodyPost P fn λe w'=>∃v,e= .returned v/\R v w') (act N (On l)) w):dj P f l.toArray w R:=by
 subst hN;refine calls_of_wp hf hb ?_;rw[Gd l fn.ntmps (Nat.le_of_ble_eq_true hl)];exact h
section
variable {P : Program} {N : Nat} {ρ : Nat → Value} {w : World} {Q : Exit → Act → World → Prop}
structure wl (P:Program) (ops:Array Oper) (Q:Exit->Act->World->Prop) (l:List Oper) (N:Nat) (ρ:Nat->Value) (w:World):Prop where
 out:wpList P ops Q l (act N ρ) w
theorem CJ {id:Nat} {l:List Oper} (h:wl P l.toArray Q l N ρ w):(Code.region id l.toArray false).wp P Q (act N ρ) w:=wp_region_lit h.out
theorem sF {x y:Code} {a:Act} (h:x.wp P (Exit.then (y.wp P Q) Q) a w):(Code.seq x y).wp P Q a w:=wp_seq h
theorem pR {id:Nat} {c:Code} {a:Act} (h:c.wp P (Exit.inBlock id Q) a w):(Code.block id c).wp P Q a w:=wp_block h
theorem nk {a:Act} (h:Q .normal a w):Code.skip.wp P Q a w:=wp_skip h
theorem Fq {a:Act} (h:Q .ret a w):Code.ret.wp P Q a w:=wp_ret h
theorem xe {id:Nat} {a:Act} (h:Q (.exit id) a w):(Code.exit id).wp P Q a w:=wp_exit h
theorem Rb {c:Operand} {x y:Code} (p:Prop) [Decidable p] (hc:ev N ρ c= .bool (decide p)) (ht:p->x.wp P Q (act N ρ) w) (hf:¬p->y.wp P Q (act N ρ) w):
  (Code.cond c x y).wp P Q (act N ρ) w:=by
 refine wp_cond_split (t:=decide p) (by rw[gg];exact hc) (λh=>ht (of_decide_eq_true h)) (λh=>hf (of_decide_eq_false h))
theorem bZ {c:Operand} {x y:Code} {b:Bool} (hc:ev N ρ c= .bool b) (hb:b=true) (h:x.wp P Q (act N ρ) w):
 (Code.cond c x y).wp P Q (act N ρ) w:=wp_cond_true (by rw[gg,hc,hb]) h
theorem ct {c:Operand} {x y:Code} {b:Bool} (hc:ev N ρ c= .bool b) (hb:b=false) (h:y.wp P Q (act N ρ) w):
 (Code.cond c x y).wp P Q (act N ρ) w:=wp_cond_false (by rw[gg,hc,hb]) h
theorem aQ {σ:Type} {c:Code} (I:σ->(Nat->Value)->World->Prop) (μ:σ->Nat) (s₀:σ) (h₀:I s₀ ρ w)
  (round:∀s ρ w,I s ρ w->c.wp P (Exit.then (λa' w'=>∃s' ρ',a'=act N ρ'/\I s' ρ' w'/\μ s'<μ s) Q) (act N ρ) w):
  (Code.loop c).wp P Q (act N ρ) w:=by
 have key:∀n,∀s ρ w,μ s<=n->I s ρ w->∀(b:Frame) (k:List Item) (cs:List Frame),
   ∃e a' w',Q e a' w'/\Arrives P (lone (b.at (act N ρ) (.code c:: .inLoop c::k)) cs w) b k cs e a' w':=by
  intro n;induction n with
  |zero=>
   intro s ρ w hn hI b k cs;obtain⟨e,a₁,w₁,hq,harr⟩:=round s ρ w hI b (.inLoop c::k) cs;cases e with
   |normal=>obtain⟨s',ρ',_,_,hlt⟩:=hq;omega
   |exit id=>exact⟨_,a₁,w₁,hq,.pass (x:= .inLoop c) rfl (λ_ _=> .inl (by simp)) harr⟩
   |goto l=>exact⟨_,a₁,w₁,hq,.pass (x:= .inLoop c) rfl (λ_ _=> .inl (by simp)) harr⟩
   |ret=>exact⟨_,a₁,w₁,hq,.pass (x:= .inLoop c) rfl (λ_ _=> .inl (by simp)) harr⟩
   |panic ch=>exact⟨_,a₁,w₁,hq,.pass (x:= .inLoop c) rfl (λ_ _=> .inl (by simp)) harr⟩
   |outgrown=>exact⟨_,a₁,w₁,hq,.pass (x:= .inLoop c) rfl (λ_ _=> .inl (by simp)) harr⟩
  |succ n ih=>
   intro s ρ w hn hI b k cs;obtain⟨e,a₁,w₁,hq,harr⟩:=round s ρ w hI b (.inLoop c::k) cs;cases e with
   |normal=>
    obtain⟨s',ρ',rfl,hI',hlt⟩:=hq;obtain⟨e₂,a₂,w₂,hq₂,harr₂⟩:=ih s' ρ' w₁ oO hI' b k cs;exact⟨e₂,a₂,w₂,hq₂,.of_steps (Steps.trans harr (.one step_inLoop)) harr₂⟩
   |exit id=>exact⟨_,a₁,w₁,hq,.pass (x:= .inLoop c) rfl (λ_ _=> .inl (by simp)) harr⟩
   |goto l=>exact⟨_,a₁,w₁,hq,.pass (x:= .inLoop c) rfl (λ_ _=> .inl (by simp)) harr⟩
   |ret=>exact⟨_,a₁,w₁,hq,.pass (x:= .inLoop c) rfl (λ_ _=> .inl (by simp)) harr⟩
   |panic ch=>exact⟨_,a₁,w₁,hq,.pass (x:= .inLoop c) rfl (λ_ _=> .inl (by simp)) harr⟩
   |outgrown=>exact⟨_,a₁,w₁,hq,.pass (x:= .inLoop c) rfl (λ_ _=> .inl (by simp)) harr⟩
 intro b k cs;obtain⟨e,a',w',hq,harr⟩:=key _ s₀ ρ w (Nat.le_refl _) h₀ b k cs;exact⟨e,a',w',hq,.of_steps (.one step_loop) harr⟩
theorem aW {x:Code} (M:(Nat->Value)->World->Prop) (hx:x.wp P (Exit.then (λa' w'=>∃ρ',a'=act N ρ'/\M ρ' w') Q) (act N ρ) w)
  (hy:∀ρ w,M ρ w->Q .normal (act N ρ) w):x.wp P Q (act N ρ) w:=by
 refine Code.wp_mono (λe a w h=> ?_) hx;cases e<;>first|exact h|(obtain⟨ρ',rfl,hM⟩:=h;exact hy _ _ hM)
theorem nx {a:Act} {K:Act->World->Prop} (h:K a w):Exit.then K Q .normal a w:=h
theorem ie {a:Act} {K:Act->World->Prop} (h:Q .ret a w):Exit.then K Q .ret a w:=h
theorem gF {a:Act} {K:Act->World->Prop} {i:Nat} (h:Q (.exit i) a w):Exit.then K Q (.exit i) a w:=h
theorem lP {id:Nat} {a:Act} (h:Q .normal a w):Exit.inBlock id Q .normal a w:=h
theorem gE {id:Nat} {a:Act} (h:Q .ret a w):Exit.inBlock id Q .ret a w:=h
theorem fX {id:Nat} {a:Act} (h:Q .normal a w):Exit.inBlock id Q (.exit id) a w:=by simp only[Exit.inBlock,if_true];exact h
theorem fU {id i:Nat} {a:Act} (hi:Nat.beq i id=false) (h:Q (.exit i) a w):Exit.inBlock id Q (.exit i) a w:=by
 have:¬i=id:=λe=>by subst e;simp at hi
 simp only[Exit.inBlock,this,if_false];exact h
theorem bj {fn:Func} {t:Nat} {R:Value->World->Prop} {v:Value} (hr:fn.results= #[.tmp t]) (hv:ev N ρ (.tmp t)=v) (h:R v w):
  bodyPost P fn (λe w'=>∃v,e= .returned v/\R v w') .ret (act N ρ) w:=
 bodyPost_ret (results_tmp hr _ _ _) rfl ⟨_,rfl,by rw[fI,hv];exact h⟩
theorem j6 {fn:Func} {t u:Nat} {R:Value->World->Prop} {x y:Value} (hr:fn.results= #[.tmp t,.tmp u]) (hx:ev N ρ (.tmp t)=x) (hy:ev N ρ (.tmp u)=y) (h:R (.tuple #[x,y]) w):
  bodyPost P fn (λe w'=>∃v,e= .returned v/\R v w') .ret (act N ρ) w:=
 bodyPost_ret (results_tmp2 hr _ _ _) rfl ⟨_,rfl,by rw[fI,fI,hx,hy];exact h⟩
theorem iS {fn:Func} {R:Value->World->Prop} (hr:fn.results= #[]) (h:R (.tuple #[]) w):
  bodyPost P fn (λe w'=>∃v,e= .returned v/\R v w') .normal (act N ρ) w:=
 bodyPost_end (results_none hr _ _ _) rfl ⟨_,rfl,h⟩
end
def gd (ops:Array Oper) (N:Nat) (ρ:Nat->Value):Option (Nat×Bool)->Bool
 |none=>true
 |some (j,b)=>match(ops[j]?).bind (·.dst)with
  |some d=>match ev N ρ (.tmp d)with
   | .bool c=>c==b
   |_=>false
  |none=>false
theorem gB (ops:Array Oper) (N:Nat) (ρ:Nat->Value) (o:Oper) (h:gd ops N ρ o.guard=true):Region.wanted o (yielded ops (act N ρ).tmps)=true:=by
 unfold Region.wanted;cases hg:o.guard with
 |none=>rfl
 |some p=>
  obtain⟨j,b⟩:=p;rw[hg]at h;simp only[gd]at h;simp only;split at h
  ·rename_i d hd;have ht:=fI N ρ d;split at h
   ·rename_i c hc;rw[hc]at ht;have hq:(act N ρ).tmps[d]?=some (.bool c):=by
     rw[Array.getD_eq_getD_getElem?]at ht;cases hx:(act N ρ).tmps[d]?with
     |none=>rw[hx]at ht;exact absurd ht (by simp[undef])
     |some x=>rw[hx]at ht;simpa using ht
    unfold yielded;rw[hd];simp only[Option.bind_some,hq];simpa using h
   ·cases h
  ·cases h
def Nn (ops:Array Oper) (N:Nat) (ρ:Nat->Value):Option (Nat×Bool)->Bool
 |none=>false
 |some (j,b)=>match(ops[j]?).bind (·.dst)with
  |some d=>match ev N ρ (.tmp d)with
   | .bool c=>c !=b
   |_=>true
  |none=>false
theorem vZ (ops:Array Oper) (N:Nat) (ρ:Nat->Value) (o:Oper) (h:Nn ops N ρ o.guard=true):Region.wanted o (yielded ops (act N ρ).tmps)=false:=by
 unfold Region.wanted;cases hg:o.guard with
 |none=>rw[hg]at h;cases h
 |some p=>
  obtain⟨j,b⟩:=p;rw[hg]at h;simp only[Nn]at h;simp only;split at h
  ·rename_i d hd;have ht:=fI N ρ d;unfold yielded;rw[hd];simp only[Option.bind_some];cases hx:(act N ρ).tmps[d]?with
   |none=>rfl
   |some x=>
    rw[Array.getD_eq_getD_getElem?,hx]at ht;simp only[Option.getD_some]at ht;rw[<-ht]at h;cases x with
    |bool c=>
     simp only at h;cases c<;>cases b<;>simp_all
    |_=>rfl
  ·cases h
theorem ai {ops:Array Oper} {N:Nat} {ρ:Nat->Value} {j:Nat} {b c:Bool} (d:Nat) (hd:(ops[j]?).bind (·.dst)=some d) (hv:ev N ρ (.tmp d)= .bool c) (hc:c=b):gd ops N ρ (some (j,b))=true:=by
 simp only[gd,hd,hv,hc,beq_self_eq_true]
theorem ak {ops:Array Oper} {N:Nat} {ρ:Nat->Value} {j:Nat} {b c:Bool} (d:Nat) (hd:(ops[j]?).bind (·.dst)=some d) (hv:ev N ρ (.tmp d)= .bool c) (hc:c= !b):Nn ops N ρ (some (j,b))=true:=by
 simp only[Nn,hd,hv,hc];cases b<;>rfl
theorem jK {ops:Array Oper} {N:Nat} {ρ:Nat->Value} {j:Nat} {b:Bool} (d:Nat) (hd:(ops[j]?).bind (·.dst)=some d) (hv:ev N ρ (.tmp d)=undef):Nn ops N ρ (some (j,b))=true:=by
 simp only[Nn,hd,hv,undef]
theorem vb {v:Value} {c b:Bool} (h:v= .bool c) (hc:c=b):v= .bool b:=by rw[h,hc]
theorem vi {v:Value} {k:IntKind} {m n:Int} (h:v= .int k m) (hc:m=n):v= .int k n:=by rw[h,hc]
theorem vs {v:Value} {s s':ByteArray} (h:v= .string s) (hc:s=s'):v= .string s':=by rw[h,hc]
section
variable {P : Program} {N : Nat} {ρ : Nat → Value} {w w' : World} {Q : Exit → Act → World → Prop} {ops : Array Oper} {rest : List Oper}
  {d : Option Tmp} {ty : TypeId} {pos : String} {aft : Array Edge} {g : Option (Nat × Bool)} {x y z : Operand}
theorem rC (h:Q .normal (act N ρ) w):wl P ops Q [] N ρ w:=⟨wpList_nil h⟩
def dp (P:Program) (N:Nat) (ρ:Nat->Value) (o:Oper) (K:Value->Prop):Prop:=∃v,(∀w,(execOp (ev N ρ) o).run P w= .ok (.value v) w)/\K v
def jP (P:Program) (N:Nat) (ρ:Nat->Value) (w:World) (o:Oper) (K:Value->Prop):Prop:=
 ∃v,(∀w',Below w.heap.size w w'->(execOp (ev N ρ) o).run P w'= .ok (.value v) w')/\K v
def Bn (P:Program) (K:Value->World->Prop):Result Next->Prop
 | .ok (.value v) w'=>K v w'
 | .ok .skip w'=>K undef w'
 | .ok (.enter f args) w'=>dj P f args w' K
 |_=>False
structure gZ (P:Program) (N:Nat) (ρ:Nat->Value) (w:World) (o:Oper) (K:Value->World->Prop):Prop where
 out:Bn P K ((execOp (ev N ρ) o).run P w)
theorem gk {K K':Value->World->Prop} (hk:∀v w,K v w->K' v w) {r:Result Next} (h:Bn P K r):Bn P K' r:=by
 cases r with
 |ok n w'=>cases n<;>first|exact hk _ _ h|exact dj.mono h hk|exact h.elim
 |halt x w'=>exact h.elim
theorem fB {p:Op} (hg:gd ops N ρ g=true) (h:gZ P N ρ w ⟨d,p,ty,pos,aft,g⟩ λv w'=>wl P ops Q rest N (lH ρ d v) w'):wl P ops Q (⟨d,p,ty,pos,aft,g⟩::rest) N ρ w:=by
 constructor;unfold wpList;rw[if_pos (gB ops N ρ ⟨d,p,ty,pos,aft,g⟩ hg)];refine .inl ?_;unfold Oper.wp;rw[gg];have h:=h.out;generalize (execOp (ev N ρ) ⟨d,p,ty,pos,aft,g⟩).run P w=r at*;cases r with
 |halt x w'=>exact h.elim
 |ok n w'=>
  cases n with
  |value v=>rw[Oper.upon_value,gR];exact wl.out h
  |skip=>rw[Oper.upon_skip,gR];exact wl.out h
  |enter f args=>
   rw[Oper.upon_enter];refine Calls.mono h ?_;rintro e w1 ⟨v,rfl,hR⟩;simp only[gR];exact wl.out hR
  |_=>exact h.elim
theorem bW {p:Op} (hg:gd ops N ρ g=true) (h:jP P N ρ w ⟨d,p,ty,pos,aft,g⟩ λv=>wl P ops Q rest N (lH ρ d v) w):wl P ops Q (⟨d,p,ty,pos,aft,g⟩::rest) N ρ w:=by
 obtain⟨v,hv,hK⟩:=h;refine fB hg ⟨?_⟩;rw[hv w (Below.refl _ _)];exact hK
theorem ax {p:Op} (hg:gd ops N ρ g=true) (h:dp P N ρ ⟨d,p,ty,pos,aft,g⟩ λv=>wl P ops Q rest N (lH ρ d v) w):wl P ops Q (⟨d,p,ty,pos,aft,g⟩::rest) N ρ w:=by
 obtain⟨v,hv,hK⟩:=h;exact bW hg ⟨v,λw' _=>hv w',hK⟩
theorem bI {p:Op} (hg:Nn ops N ρ g=true) (h:wl P ops Q rest N (lH ρ d undef) w):wl P ops Q (⟨d,p,ty,pos,aft,g⟩::rest) N ρ w:=by
 constructor;unfold wpList;rw[if_neg (by rw[vZ ops N ρ ⟨d,p,ty,pos,aft,g⟩ hg];decide),gR];exact h.out
variable {K : Value → Prop} {K2 : Value → World → Prop}
theorem fK {o:Oper} {v:Value} (hr:(execOp (ev N ρ) o).run P w= .ok (.value v) w') (h:K2 v w'):gZ P N ρ w o K2:=⟨by rw[hr];exact h⟩
theorem t8 {o:Oper} (hr:(execOp (ev N ρ) o).run P w= .ok .skip w') (h:K2 undef w'):gZ P N ρ w o K2:=⟨by rw[hr];exact h⟩
theorem ah {f:FuncId} {xs:List Operand} {ats:Array TypeId} {args:List Value} {R:Value->World->Prop}
  (hcall:∀args w,(callFunc f args).run P w= .ok (.enter f args) w) (hargs:xs.map (ev N ρ)=args)
  (hc:dj P f args.toArray w R) (h:∀v w',R v w'->K2 v w'):
  gZ P N ρ w ⟨d,.call ⟨.value (.func f),xs.toArray,ats⟩,ty,pos,aft,g⟩ K2:=by
 have hr:(execOp (ev N ρ) ⟨d,.call ⟨.value (.func f),xs.toArray,ats⟩,ty,pos,aft,g⟩).run P w= .ok (.enter f args.toArray) w:=by
  have:=hcall args.toArray w;simp only[execOp,resolve,ev,Deferred.ofValue,invoke,List.map_toArray,hargs,Sem.run_bind,Sem.run_pure,Result.andThen_ok,Array.empty_append,Array.append_empty];exact this
 constructor;rw[hr];exact hc.mono h
theorem sP {f:FuncId} {t:Nat} {cap:List Value} {xs:List Operand} {ats:Array TypeId} {args:List Value} {R:Value->World->Prop}
  (hcall:∀args w,(callFunc f args).run P w= .ok (.enter f args) w) (hf:ev N ρ (.tmp t)= .func (.func f) #[] cap.toArray) (hargs:xs.map (ev N ρ)++cap=args)
  (hc:dj P f args.toArray w R) (h:∀v w',R v w'->K2 v w'):
  gZ P N ρ w ⟨d,.call ⟨.value (.tmp t),xs.toArray,ats⟩,ty,pos,aft,g⟩ K2:=by
 have hr:(execOp (ev N ρ) ⟨d,.call ⟨.value (.tmp t),xs.toArray,ats⟩,ty,pos,aft,g⟩).run P w= .ok (.enter f args.toArray) w:=by
  have:=hcall args.toArray w;simp only[execOp,resolve,hf,Deferred.ofValue,invoke,List.map_toArray,Sem.run_bind,Sem.run_pure,Result.andThen_ok,List.append_toArray,List.nil_append,hargs];exact this
 constructor;rw[hr];exact hc.mono h
theorem aI {v:Value} (hx:ev N ρ x=v) (h:K v):dp P N ρ ⟨d,.move x,ty,pos,aft,g⟩ K:=
 ⟨_,λw=>(by simp[execOp,hx]),h⟩
theorem f9 {v:Value} (hx:ev N ρ x=v) (h:K v):dp P N ρ ⟨d,.assign x,ty,pos,aft,g⟩ K:=
 ⟨_,λw=>(by simp[execOp,hx]),h⟩
theorem aZ {v:Value} {b:Bool} (hx:ev N ρ x= .bool b) (hv:(bif b then ev N ρ y else ev N ρ z)=v) (h:K v):
  dp P N ρ ⟨d,.pick x y z,ty,pos,aft,g⟩ K:=
 ⟨_,λw=>(by subst hv;cases b<;>simp[execOp,hx,asBool]),h⟩
theorem oB {i:Nat} {vs:Array Value} {v:Value} (hx:ev N ρ x= .tuple vs) (hv:vs[i]?=some v) (h:K v):
  dp P N ρ ⟨d,.extract x i,ty,pos,aft,g⟩ K:=
 ⟨_,λw=>(by simp[execOp,hx,Instr.extract,hv]),h⟩
theorem Qn {fn:Fn} {fs cs:List Operand} {vf vc:List Value} (hf:fs.map (ev N ρ)=vf) (hc:cs.map (ev N ρ)=vc) (h:K (.func fn vf.toArray vc.toArray)):
  dp P N ρ ⟨d,.makeFunc fn fs.toArray cs.toArray,ty,pos,aft,g⟩ K:=
 ⟨_,λw=>(by simp[execOp,hf,hc,Instr.makeFunc]),h⟩
variable {k k' : IntKind} {m n r : Int} {t t' : TypeId}
theorem ia (hx:ev N ρ x= .int k m) (hy:ev N ρ y= .int k n) (hr:k.wrap (m+n)=r) (h:K (.int k r)):
  dp P N ρ ⟨d,.binOp .add t x y t',ty,pos,aft,g⟩ K:=
 ⟨_,λw=>(by simp[execOp,hx,hy,eqGuard,binOp,Op.intArith,hr]),h⟩
theorem k9 (hx:ev N ρ x= .int k m) (hy:ev N ρ y= .int k n) (hr:k.wrap (m-n)=r) (h:K (.int k r)):
  dp P N ρ ⟨d,.binOp .sub t x y t',ty,pos,aft,g⟩ K:=
 ⟨_,λw=>(by simp[execOp,hx,hy,eqGuard,binOp,Op.intArith,hr]),h⟩
theorem oH (hx:ev N ρ x= .int k m) (hy:ev N ρ y= .int k n) (hr:k.wrap (m*n)=r) (h:K (.int k r)):
  dp P N ρ ⟨d,.binOp .mul t x y t',ty,pos,aft,g⟩ K:=
 ⟨_,λw=>(by simp[execOp,hx,hy,eqGuard,binOp,Op.intArith,hr]),h⟩
theorem kV (hx:ev N ρ x= .int k m) (hy:ev N ρ y= .int k n) (hn:n≠0) (hr:k.wrap (m.tdiv n)=r) (h:K (.int k r)):
  dp P N ρ ⟨d,.binOp .quo t x y t',ty,pos,aft,g⟩ K:=
 ⟨_,λw=>(by simp[execOp,hx,hy,eqGuard,binOp,Op.intDiv,hn,hr]),h⟩
theorem iJ (hx:ev N ρ x= .int k m) (hy:ev N ρ y= .int k n) (hn:n≠0) (hr:m.tmod n=r) (h:K (.int k r)):
  dp P N ρ ⟨d,.binOp .rem t x y t',ty,pos,aft,g⟩ K:=
 ⟨_,λw=>(by simp[execOp,hx,hy,eqGuard,binOp,Op.intDiv,hn,hr]),h⟩
theorem nL (hx:ev N ρ x= .int k m) (hy:ev N ρ y= .int k' n) (hn:0<=n) (hr:k.wrap (m*2^(min n.toNat k.bits))=r) (h:K (.int k r)):
  dp P N ρ ⟨d,.binOp .shl t x y t',ty,pos,aft,g⟩ K:=
 ⟨_,λw=>(by simp[execOp,hx,hy,eqGuard,binOp,Op.shift,Int.not_lt.2 hn,hr]),h⟩
theorem iU (hx:ev N ρ x= .int k m) (hy:ev N ρ y= .int k' n) (hn:0<=n) (hr:m.fdiv (2^(min n.toNat k.bits))=r) (h:K (.int k r)):
  dp P N ρ ⟨d,.binOp .shr t x y t',ty,pos,aft,g⟩ K:=
 ⟨_,λw=>(by simp[execOp,hx,hy,eqGuard,binOp,Op.shift,Int.not_lt.2 hn,hr]),h⟩
def iF (op:BinOp) (k:IntKind) (x y:Int):Int:=
 let a:=BitVec.ofInt k.bits x
 let b:=BitVec.ofInt k.bits y
 k.wrap (match op with
 | .and=>(a&&&b).toNat
 | .or=>(a|||b).toNat
 | .xor=>(a^^^b).toNat
 |_=>(a&&& ~~~b).toNat)
theorem yT (hx:ev N ρ x= .int k m) (hy:ev N ρ y= .int k n) (hr:iF .and k m n=r) (h:K (.int k r)):
  dp P N ρ ⟨d,.binOp .and t x y t',ty,pos,aft,g⟩ K:=
 ⟨_,λw=>(by subst hr;simp[execOp,hx,hy,eqGuard,binOp,Op.intBits,iF]),h⟩
theorem rV (hx:ev N ρ x= .int k m) (hy:ev N ρ y= .int k n) (hr:iF .or k m n=r) (h:K (.int k r)):
  dp P N ρ ⟨d,.binOp .or t x y t',ty,pos,aft,g⟩ K:=
 ⟨_,λw=>(by subst hr;simp[execOp,hx,hy,eqGuard,binOp,Op.intBits,iF]),h⟩
theorem PZ (hx:ev N ρ x= .int k m) (hy:ev N ρ y= .int k n) (hr:iF .xor k m n=r) (h:K (.int k r)):
  dp P N ρ ⟨d,.binOp .xor t x y t',ty,pos,aft,g⟩ K:=
 ⟨_,λw=>(by subst hr;simp[execOp,hx,hy,eqGuard,binOp,Op.intBits,iF]),h⟩
theorem oE (hx:ev N ρ x= .int k m) (hy:ev N ρ y= .int k n) (h:K (.bool (decide (m<n)))):
  dp P N ρ ⟨d,.binOp .lss t x y t',ty,pos,aft,g⟩ K:=
 ⟨_,λw=>(by simp[execOp,hx,hy,eqGuard,binOp,Op.intCmp]),h⟩
theorem Nw (hx:ev N ρ x= .int k m) (hy:ev N ρ y= .int k n) (h:K (.bool (decide (m<=n)))):
  dp P N ρ ⟨d,.binOp .leq t x y t',ty,pos,aft,g⟩ K:=
 ⟨_,λw=>(by simp[execOp,hx,hy,eqGuard,binOp,Op.intCmp]),h⟩
theorem mQ (hx:ev N ρ x= .int k m) (hy:ev N ρ y= .int k n) (h:K (.bool (decide (n<m)))):
  dp P N ρ ⟨d,.binOp .gtr t x y t',ty,pos,aft,g⟩ K:=
 ⟨_,λw=>(by simp[execOp,hx,hy,eqGuard,binOp,Op.intCmp]),h⟩
theorem rR (hx:ev N ρ x= .int k m) (hy:ev N ρ y= .int k n) (h:K (.bool (decide (n<=m)))):
  dp P N ρ ⟨d,.binOp .geq t x y t',ty,pos,aft,g⟩ K:=
 ⟨_,λw=>(by simp[execOp,hx,hy,eqGuard,binOp,Op.intCmp]),h⟩
theorem i7 (hx:ev N ρ x= .int k m) (hy:ev N ρ y= .int k n) (h:K (.bool (decide (m=n)))):
  dp P N ρ ⟨d,.binOp .eql t x y t',ty,pos,aft,g⟩ K:=
 ⟨.bool (decide (m=n)),λw=>(by
  have:(m==n)=decide (m=n):=rfl;simp[execOp,hx,hy,eqGuard,binOp,Op.intCmp,this]),h⟩
theorem Ct (hx:ev N ρ x= .int k m) (hy:ev N ρ y= .int k n) (h:K (.bool (decide (m≠n)))):
  dp P N ρ ⟨d,.binOp .neq t x y t',ty,pos,aft,g⟩ K:=
 ⟨.bool (decide (m≠n)),λw=>(by
  have:(m !=n)=decide (m≠n):=by rw[Bool.eq_iff_iff];simp
  simp[execOp,hx,hy,eqGuard,binOp,Op.intCmp,this]),h⟩
theorem bF (hx:ev N ρ x= .int k m) (hk:P.underlying t'=some (.int k')) (hs:∃e,P.underlying t=some e) (hr:k'.wrap m=r) (h:K (.int k' r)):
  dp P N ρ ⟨d,.convert t t' x,ty,pos,aft,g⟩ K:=by
 obtain⟨e,he⟩:=hs;refine⟨_,λw=> ?_,h⟩;subst hr;simp[execOp,hx,convert,underlying,he,hk,Conv.intToInt]
theorem mJ {b:Bool} (hx:ev N ρ x= .bool b) (h:K (.bool !b)):
  dp P N ρ ⟨d,.unOp .not t x,ty,pos,aft,g⟩ K:=
 ⟨_,λw=>(by simp[execOp,hx,Op.unary]),h⟩
theorem IQ (hx:ev N ρ x= .int k m) (hr:k.wrap (0-m)=r) (h:K (.int k r)):
  dp P N ρ ⟨d,.unOp .neg t x,ty,pos,aft,g⟩ K:=
 ⟨_,λw=>(by subst hr;simp[execOp,hx,Op.unary,Op.intArith]),h⟩
theorem Nz (hx:ev N ρ x= .int k m) (hr:iF .xor k (if k.signed then-1 else k.max) m=r) (h:K (.int k r)):
  dp P N ρ ⟨d,.unOp .xor t x,ty,pos,aft,g⟩ K:=
 ⟨_,λw=>(by subst hr;simp[execOp,hx,Op.unary,Op.intBits,iF]),h⟩
theorem Py {b c:Bool} (hx:ev N ρ x= .bool b) (hy:ev N ρ y= .bool c) (ht:P.underlying t=some .bool) (h:K (.bool (b==c))):
  dp P N ρ ⟨d,.binOp .eql t x y t',ty,pos,aft,g⟩ K:=
 ⟨_,λw=>(by simp[execOp,hx,hy,eqGuard,run_eql_bool w t b c ht]),h⟩
theorem ub {b c:Bool} (hx:ev N ρ x= .bool b) (hy:ev N ρ y= .bool c) (ht:P.underlying t=some .bool) (h:K (.bool (b !=c))):
  dp P N ρ ⟨d,.binOp .neq t x y t',ty,pos,aft,g⟩ K:=
 ⟨.bool (!(b==c)),λw=>(by simp[execOp,hx,hy,eqGuard,run_neq_bool w t b c ht,-bne_iff_ne,-Bool.not_eq_eq_eq_not]),h⟩
variable {s s' : ByteArray}
theorem I5 (s s':ByteArray):(s.toList==s'.toList)=decide (s=s'):=by
 rw[Bool.eq_iff_iff];simp only[beq_iff_eq,decide_eq_true_eq];constructor
 ·intro h;cases s;cases s'
  rename_i a b;rw[ByteArray.toList_eq,ByteArray.toList_eq]at h;congr 1;exact Array.ext' h
 ·rintro rfl;rfl
theorem lL (hx:ev N ρ x= .string s) (hy:ev N ρ y= .string s') (h:K (.bool (decide (s=s')))):
  dp P N ρ ⟨d,.binOp .eql t x y t',ty,pos,aft,g⟩ K:=
 ⟨_,λw=>(by simp only[execOp,hx,hy,eqGuard,binOp,Op.stringOp,I5];simp),h⟩
theorem oM (hx:ev N ρ x= .string s) (hy:ev N ρ y= .string s') (h:K (.bool (decide (s≠s')))):
  dp P N ρ ⟨d,.binOp .neq t x y t',ty,pos,aft,g⟩ K:=
 ⟨.bool (decide (s≠s')),λw=>(by simp only[execOp,hx,hy,eqGuard,binOp,Op.stringOp,I5];simp),h⟩
theorem Jj (hx:ev N ρ x= .string s) (ht:P.underlying t=some .string) (h:K (.int .i64 s.size)):
  dp P N ρ ⟨d,.call ⟨.builtin .len,#[x],#[t]⟩,ty,pos,aft,g⟩ K:=
 ⟨_,λw=>(by simp[execOp,resolve,invoke,builtin,hx,Builtin.len_,underlying,ht,goInt]),h⟩
theorem pF {i:Nat} (hx:ev N ρ x= .string s) (hy:ev N ρ y= .int k m) (hm:m=(i:Int)) (hi:i<s.size) (ht:P.underlying t=some .string)
  (h:K (.int .u8 (s[i]'hi).toNat)):
  dp P N ρ ⟨d,.index t x y,ty,pos,aft,g⟩ K:=by
 subst hm;refine⟨_,λw=> ?_,h⟩;have h1:s[i]?=some (s[i]'hi):=by simp[hi]
 simp[execOp,hx,hy,Instr.index,asIntOf,underlying,ht,h1]
theorem A1 {lo:Nat} {kl:IntKind} {ml:Int} (hx:ev N ρ x= .string s) (hl:ev N ρ y= .int kl ml) (hml:ml=(lo:Int))
  (h1:lo<=s.size) (ht:P.underlying t=some .string) (h:K (.string (s.extract lo s.size))):
  dp P N ρ ⟨d,.slice t x (some y) none none,ty,pos,aft,g⟩ K:=by
 subst hml;refine⟨_,λw=> ?_,h⟩;simp[execOp,hx,hl,Instr.sliceAt,Instr.slice,Instr.sliceBounds,Instr.sliceBound,asIntOf,underlying,ht,h1]
end
theorem add_lit (b o n:Nat):(⟨b,o,none⟩:Addr).add n=⟨b,o+n,none⟩:=by unfold Addr.add;split<;>simp_all
theorem add_zero (a:Addr):a.add 0=a:=by simp[Addr.add]
def At (w:World) (a:Addr) (cs:List Value):Prop:=∀j u,cs[j]?=some u->w.cell? (a.add j)=some u
theorem At.ab {w w':World} {a:Addr} {cs:List Value} (h:At w a cs) (hb:Below w.heap.size w w'):At w' a cs:=λj u hu=>by
 have h1:=h j u hu;rw[hb.cell (by have:=World.block_lt_of_cell? w _ h1;exact this)];exact h1
theorem At.one {w:World} {a:Addr} {u:Value} (h:w.cell? a=some u):At w a [u]:=λj v hv=>by
 cases j with
 |zero=>simp at hv;subst hv;rw[add_zero];exact h
 |succ j=>simp at hv
theorem At.head {w:World} {a:Addr} {u:Value} {cs:List Value} (h:At w a (u::cs)):w.cell? a=some u:=by
 have:=h 0 u rfl;rwa[add_zero]at this
theorem At.seg {w:World} {b o:Nat} {cs:List Value} (h:At w ⟨b,o,none⟩ cs) (k n:Nat):At w ⟨b,o+k,none⟩ ((cs.drop k).take n):=λj u hu=>by
 rw[add_lit];have h2:cs[k+j]?=some u:=by
  rw[List.getElem?_take]at hu;split at hu
  ·rw[List.getElem?_drop]at hu;exact hu
  ·cases hu
 have:=h (k+j) u h2;rw[add_lit]at this;rw[Nat.add_assoc];exact this
theorem At.of_heap {w:World} {b:Nat} {cs:List Value} {t:TypeId} {fr:Nat×Nat} (h:w.heap[b]?=some (.cells cs.toArray t fr)) (k n:Nat):At w ⟨b,k,none⟩ ((cs.drop k).take n):=by
 have:At w ⟨b,0,none⟩ cs:=λj u hu=>by
  rw[add_lit,cell_of_row w b _ cs.toArray t fr h];simpa using hu
 have h2:=this.seg k n;simpa using h2
def mx:Value->Addr
 | .slice (some a) _ _=>a
 |_=>⟨0,0,none⟩
structure Sl {α:Type} (enc:α->List Value) (size:Nat) (w:World) (v:Value) (L:List α):Prop where
 form:∃a cap,v= .slice a L.length cap/\L.length<=cap/\cap<=maxLen/\(a=none->cap=0)
 elt:∀i (h:i<L.length),At w ((mx v).add (i*size)) (enc L[i])
section
variable {α : Type} {enc : α → List Value} {size : Nat} {w w' : World} {v : Value} {L : List α}
theorem Sl.ab (h:Sl enc size w v L) (hb:Below w.heap.size w w'):Sl enc size w' v L:=⟨h.form,λi hi=>(h.elt i hi).ab hb⟩
theorem Sl.maxLen (h:Sl enc size w v L):L.length<=9223372036854775807:=by
 obtain⟨a,cap,_,h1,h2,_⟩:=h.form;unfold Go.maxLen at h2;omega
theorem Sl.at (h:Sl enc size w v L) {i:Nat} (hi:i<L.length) (d:α):At w ((mx v).add (i*size)) (enc (L.getD i d)):=by
 have:=h.elt i hi;simpa[List.getD,hi]using this
theorem Sl.nil (enc:α->List Value) (size:Nat) (w:World):Sl enc size w (.slice none 0 0) []:=⟨⟨none,0,rfl,Nat.le_refl _,Nat.zero_le _,λ_=>rfl⟩,λi hi=>by simp at hi⟩
theorem flat_get (hu:∀x,(enc x).length=size) (L:List α) (i j:Nat) (hi:i<L.length) (hj:j<size):(L.flatMap enc)[i*size+j]?=(enc L[i])[j]?:=by
 induction L generalizing i with
 |nil=>simp at hi
 |cons x L ih=>
  cases i with
  |zero=>
   rw[List.flatMap_cons,Nat.zero_mul,Nat.zero_add,List.getElem?_append_left (by rw[hu];exact hj)];rfl
  |succ i=>
   rw[List.flatMap_cons,List.getElem?_append_right (by rw[hu,Nat.add_mul];omega),hu,Nat.add_mul];rw[show i*size+1*size+j-size=i*size+j by omega,ih i (by simpa using hi)];rfl
theorem cQ (hu:∀x,(enc x).length=size) (L:List α):(L.flatMap enc).length=L.length*size:=by
 induction L with
 |nil=>simp
 |cons x L ih=>rw[List.flatMap_cons,List.length_append,hu,ih,List.length_cons,Nat.add_mul];omega
theorem Sl.of_heap {b:Nat} {t:TypeId} {fr:Nat×Nat} {spare:List Value} {cap:Nat} (hu:∀x,(enc x).length=size)
  (h:w.heap[b]?=some (.cells (L.flatMap enc++spare).toArray t fr)) (h1:L.length<=cap) (h2:cap<=Go.maxLen):Sl enc size w (.slice (some ⟨b,0,none⟩) L.length cap) L:=by
 refine⟨⟨some ⟨b,0,none⟩,cap,rfl,h1,h2,λh=>by cases h⟩,λi hi j u hj=> ?_⟩;have hj':j<size:=by
  have:=(List.getElem?_eq_some_iff.1 hj).1;rwa[hu]at this
 rw[show mx (.slice (some ⟨b,0,none⟩) L.length cap)=⟨b,0,none⟩from rfl,add_lit,add_lit,cell_of_row w b _ _ t fr h];have hlt:i*size+j<(L.flatMap enc).length:=by
  rw[cQ hu];have:(i+1)*size<=L.length*size:=Nat.mul_le_mul_right _ hi;rw[Nat.add_mul]at this;omega
 simp only[List.getElem?_toArray,Nat.zero_add];rw[List.getElem?_append_left hlt,flat_get hu L i j hi hj'];exact hj
end
abbrev bQ:=Nat×TypeId×List Value
structure St (w0 w:World) (H:List bQ):Prop where
 ab:Below w0.heap.size w0 w
 own:∀e∈H,w0.heap.size<=e.1/\w.heap[e.1]?=some (.cells e.2.2.toArray e.2.1 (0,0))
 nd:(H.map (·.1)).Nodup
section
variable {w0 w w' : World} {H H' : List bQ} {b k : Nat} {t : TypeId} {cs : List Value}
theorem St.init (w:World):St w w []:=⟨Below.refl _ _,λe he=>(by cases he),List.Pairwise.nil⟩
theorem St.lt (h:St w0 w H) {e:bQ} (he:e∈H):e.1<w.heap.size:=(Array.getElem?_eq_some_iff.1 (h.own e he).2).1
theorem St.get (h:St w0 w H) (hk:H[k]?=some (b,t,cs)):w.heap[b]?=some (.cells cs.toArray t (0,0)):=(h.own _ (List.mem_of_getElem? hk)).2
theorem St.ge (h:St w0 w H) (hk:H[k]?=some (b,t,cs)):w0.heap.size<=b:=(h.own _ (List.mem_of_getElem? hk)).1
theorem St.at (h:St w0 w H) (hk:H[k]?=some (b,t,cs)) (o n:Nat):At w ⟨b,o,none⟩ ((cs.drop o).take n):=At.of_heap (h.get hk) o n
theorem St.aG (h:St w0 w H) (hb:Below w.heap.size w w'):St w0 w' H:=
 ⟨h.ab.trans (hb.mono h.ab.size),λe he=>⟨(h.own e he).1,by rw[hb.block _ (h.lt he)];exact(h.own e he).2⟩,h.nd⟩
theorem St.push (h:St w0 w H) (hb:Below w.heap.size w w') (hge:w.heap.size<=b) (hc:w'.heap[b]?=some (.cells cs.toArray t (0,0))):St w0 w' ((b,t,cs)::H):=by
 have h':=h.aG hb;refine⟨h'.ab,λe he=> ?_,?_⟩
 ·rcases List.mem_cons.1 he with rfl|he
  ·exact⟨Nat.le_trans h.ab.size hge,hc⟩
  ·exact h'.own e he
 ·rw[List.map_cons,List.nodup_cons];refine⟨λhm=> ?_,h.nd⟩;obtain⟨e,he,hee⟩:=List.mem_map.1 hm;have:=h.lt he;have hee':e.1=b:=hee;omega
theorem St.drop (h:St w0 w H) (hs:H'.Sublist H):St w0 w H':=⟨h.ab,λe he=>h.own e (hs.subset he),List.Nodup.sublist (hs.map _) h.nd⟩
theorem St.perm (h:St w0 w H) (hp:H.Perm H'):St w0 w H':=⟨h.ab,λe he=>h.own e (hp.mem_iff.2 he),(hp.map _).nodup_iff.1 h.nd⟩
theorem St.mod (h:St w0 w H) (hk:H[k]?=some (b,t,cs)) {cs':List Value} (hs:w.heap.size<=w'.heap.size) (hos:w'.os=w.os) (ht:w'.tape=w.tape) (ho:w'.output=w.output)
  (hoth:∀i,i<w.heap.size->i≠b->w'.heap[i]?=w.heap[i]?) (hc:w'.heap[b]?=some (.cells cs'.toArray t (0,0))):St w0 w' (H.set k (b,t,cs')):=by
 have hbge:=h.ge hk;have hw0:=h.ab.size;have hkl:k<H.length:=(List.getElem?_eq_some_iff.1 hk).1;have hkv:H[k]=(b,t,cs):=(List.getElem?_eq_some_iff.1 hk).2;have hmap:(H.set k (b,t,cs')).map (·.1)=H.map (·.1):=by
  rw[List.map_set];apply List.ext_getElem?;intro i;rw[List.getElem?_set];split
  ·rename_i hi;subst hi;simp[hkl,hkv]
  ·rfl
 refine⟨h.ab.trans ⟨hos,ht,ho,hs,λi hi=>hoth i oO oO⟩,λe he=> ?_,by rw[hmap];exact h.nd⟩;obtain⟨i,hi⟩:=List.mem_iff_getElem?.1 he;rw[List.getElem?_set]at hi;split at hi
 ·rename_i hki;subst hki;obtain rfl:=Option.some.inj hi;exact⟨hbge,hc⟩
 ·rename_i hne;have hm:e∈H:=List.mem_of_getElem? hi;refine⟨(h.own e hm).1,?_⟩;rw[hoth _ (h.lt hm) ?_]
  ·exact(h.own e hm).2
  ·intro heq;have hnd:=h.nd;have hil:i<H.length:=(List.getElem?_eq_some_iff.1 hi).1;have hiv:H[i]=e:=(List.getElem?_eq_some_iff.1 hi).2;have h1:(H.map (·.1))[i]'(by simpa using hil)=(H.map (·.1))[k]'(by simpa using hkl):=by
    simp[hiv,hkv,heq]
   exact hne ((List.getElem_inj hnd).1 h1).symm
theorem St.setRow (h:St w0 w H) (hk:H[k]?=some (b,t,cs)) (cs':List Value):St w0 (w.setRow b cs'.toArray) (H.set k (b,t,cs')):=
 h.mod hk (by simp) rfl rfl rfl (λi _ hne=>setRow_other w b i _ hne) (setRow_heap w b _ _ t _ (h.get hk))
theorem iV (w:World) (o:Obj):Below w.heap.size w (w.alloc o):=(Below.refl _ _).alloc (Nat.le_refl _) o
theorem St.alloc (h:St w0 w H) (cs:List Value) (t:TypeId):St w0 (w.alloc (.cells cs.toArray t)) ((w.heap.size,t,cs)::H):=
 h.push (iV w _) (Nat.le_refl _) (heap_alloc_new w _)
theorem St.sl {α:Type} {enc:α->List Value} {size:Nat} {L:List α} {spare:List Value} {cap:Nat} (h:St w0 w H) (hk:H[k]?=some (b,t,cs)) (hcs:cs=L.flatMap enc++spare) (hu:∀x,(enc x).length=size)
  (h1:L.length<=cap) (h2:cap<=Go.maxLen):Sl enc size w (.slice (some ⟨b,0,none⟩) L.length cap) L:=
 Sl.of_heap hu (by rw[h.get hk,hcs]) h1 h2
end
def sinfo (P:Program) (t:TypeId):Option (TypeId×Nat×Nat×List Value):=
 match P.underlying t with
 |some (.slice e)=>match P.info? e with
  |some i=>match i.zero with
   |some z=>if z.cells.size=i.size then some (e,i.size,i.bytes,z.cells.toList)else none
   |none=>none
  |none=>none
 |_=>none
theorem dJ {P:Program} {t e:TypeId} {size bytes:Nat} {z:List Value} (h:sinfo P t=some (e,size,bytes,z)):
  P.underlying t=some (.slice e)/\∃i zv,P.info? e=some i/\i.zero=some zv/\i.size=size/\i.bytes=bytes/\zv.cells=z.toArray/\z.length=size:=by
 unfold sinfo at h;split at h
 ·rename_i e' hu;split at h
  ·rename_i i hi;split at h
   ·rename_i zv hz;split at h
    ·rename_i hs;simp only[Option.some.injEq,Prod.mk.injEq]at h;obtain⟨rfl,rfl,rfl,rfl⟩:=h;exact⟨hu,i,zv,hi,hz,rfl,rfl,by simp,by simpa using hs⟩
    ·cases h
   ·cases h
  ·cases h
 ·cases h
def da (P:Program) (t:TypeId):Option (Nat×Bool×List Value):=
 match P.info? t,P.underlying t with
 |some i,some d=>match i.zero with
  |some z=>if z.cells.size=i.size then some (i.size,(match d with| .struct _| .array _ _=>true|_=>false),z.cells.toList)else none
  |none=>none
 |_,_=>none
theorem jV {P:Program} {t:TypeId} {n:Nat} {agg:Bool} {z:List Value} (h:da P t=some (n,agg,z)):
  ∃i d zv,P.info? t=some i/\P.underlying t=some d/\i.zero=some zv/\i.size=n/\(match d with| .struct _| .array _ _=>true|_=>false)=agg/\zv.cells=z.toArray:=by
 unfold da at h;split at h
 ·rename_i i d hi hu;split at h
  ·rename_i zv hz;split at h
   ·simp only[Option.some.injEq,Prod.mk.injEq]at h;obtain⟨rfl,rfl,rfl⟩:=h;exact⟨i,d,zv,hi,hu,hz,rfl,rfl,by simp⟩
   ·cases h
  ·cases h
 ·cases h
def fT (P:Program) (t:TypeId) (f:Nat):Option Nat:=
 match P.underlying t with
 |some (.struct fs)=>match fs[f]?with
  |some fd=>match P.info? fd.type with
   |some i=>if i.size=0 then none else some fd.offset
   |none=>none
  |none=>none
 |_=>none
theorem Eg {P:Program} {t:TypeId} {f o:Nat} (h:fT P t f=some o):∃fs fd i,P.underlying t=some (.struct fs)/\fs[f]?=some fd/\P.info? fd.type=some i/\¬i.size=0/\fd.offset=o:=by
 unfold fT at h;split at h
 ·rename_i fs hu;split at h
  ·rename_i fd hf;split at h
   ·rename_i i hi;split at h
    ·cases h
    ·rename_i hs;exact⟨fs,fd,i,hu,hf,hi,hs,Option.some.inj h⟩
   ·cases h
  ·cases h
 ·cases h
def MG:Bool->List Value->Value
 |true,cs=> .agg cs.toArray
 |false,u::_=>u
 |false,[]=>undef
def rep (n:Nat) (z:List Value):List Value:=(List.replicate n z).flatten
theorem pg (n:Nat) (z:List Value):rep (n+1) z=z++rep n z:=by simp[rep,List.replicate_succ]
theorem xL (n:Nat) (z:List Value):(rep n z).length=n*z.length:=by
 induction n with
 |zero=>simp[rep]
 |succ n ih=>rw[pg,List.length_append,ih,Nat.add_mul];omega
theorem MH (n:Nat) (z:List Value):∀i,i<n*z.length->(rep n z)[i]?=z[i%z.length]?:=by
 induction n with
 |zero=>intro i hi;simp at hi
 |succ n ih=>
  intro i hi;rw[pg];by_cases h:i<z.length
  ·rw[List.getElem?_append_left h,Nat.mod_eq_of_lt h]
  ·rw[List.getElem?_append_right oO,ih _ (by rw[Nat.add_mul]at hi;omega)];congr 1;exact(Nat.mod_eq_sub_mod oO).symm
theorem Cz (z : List Value) (n : Nat) : madeCells z.toArray (n * z.length) = (rep n z).toArray := by
  apply Array.ext'
  apply List.ext_getElem?
  intro i
  rcases Nat.lt_or_ge i (n * z.length) with h | h
  · have hz : 0 < z.length := by rcases Nat.eq_zero_or_pos z.length with h0 | h0; · rw [h0] at h; simp at h
                                 · exact h0
    have hm : i % z.length < z.length := Nat.mod_lt _ hz
    have h2 : (madeCells z.toArray (n * z.length)).toList[i]? = z[i % z.length]? := by simp [madeCells, h, hm]
    have h3 : (rep n z).toArray.toList[i]? = z[i % z.length]? := by rw [← MH n z i h]
    rw [h2, h3]
  · rw [List.getElem?_eq_none (by simpa [madeCells] using h), List.getElem?_eq_none (by simpa [xL] using h)]
section
variable {P : Program} {N : Nat} {ρ : Nat → Value} {w0 w w' : World} {Q : Exit → Act → World → Prop} {ops : Array Oper} {rest : List Oper}
  {d : Option Tmp} {ty : TypeId} {pos : String} {aft : Array Edge} {g : Option (Nat × Bool)} {x y z : Operand} {t e : TypeId} {H : List bQ} {k b o : Nat} {cs : List Value} {v : Value} {K : Value → Prop} {K2 : Value → World → Prop}
theorem cx {f off:Nat} (hx:ev N ρ x= .pointer (some ⟨b,o,none⟩)) (hf:fT P t f=some off) (h:K (.pointer (some ⟨b,o+off,none⟩))):
  dp P N ρ ⟨d,.fieldAddr t x f,ty,pos,aft,g⟩ K:=by
 obtain⟨fs,fd,i,hu,hfd,hi,hs,rfl⟩:=Eg hf;refine⟨_,λw=> ?_,h⟩;simp[execOp,hx,Instr.fieldAt,run_underlying hu,hfd,Instr.sureAddr,fieldPlace,sizeOf,typeInfo,hi,hs,add_lit]
theorem bn {i n c sz by_:Nat} {zz:List Value} {kk:IntKind} {m:Int} (hx:ev N ρ x= .slice (some ⟨b,o,none⟩) n c) (hy:ev N ρ y= .int kk m) (hm:m=(i:Int)) (hi:i<n)
  (ht:sinfo P t=some (e,sz,by_,zz)) (h:K (.pointer (some ⟨b,o+i*sz,none⟩))):
  dp P N ρ ⟨d,.indexAddr t x y,ty,pos,aft,g⟩ K:=by
 obtain⟨hu,ii,zv,hi1,_,hsz,_⟩:=dJ ht;subst hm hsz;refine⟨_,λw=> ?_,h⟩;simp[execOp,hx,hy,Instr.indexAt,asIntOf,run_underlying hu,hi,sizeOf,typeInfo,hi1,add_lit]
theorem aH {α:Type} {enc:α->List Value} {L:List α} {i sz by_:Nat} {zz:List Value} {kk:IntKind} {m:Int} (hx:ev N ρ x=v) (hy:ev N ρ y= .int kk m) (hS:Sl enc sz w v L) (hm:m=(i:Int)) (hi:i<L.length)
  (ht:sinfo P t=some (e,sz,by_,zz)) (h:K (.pointer (some ((mx v).add (i*sz))))):
  dp P N ρ ⟨d,.indexAddr t x y,ty,pos,aft,g⟩ K:=by
 obtain⟨hu,ii,zv,hi1,_,hsz,_⟩:=dJ ht;obtain⟨a,cap,hv,hlc,_,hnone⟩:=hS.form;subst hm hsz;refine⟨_,λw=> ?_,h⟩;cases a with
 |none=>have:=hnone rfl;omega
 |some a=>
  subst hv;simp[execOp,hx,hy,Instr.indexAt,asIntOf,run_underlying hu,hi,sizeOf,typeInfo,hi1,mx]
theorem gV {n c:Nat} {a:Option Addr} (hx:ev N ρ x= .slice a n c) (ht:∃e,P.underlying t=some (.slice e)) (h:K (.int .i64 n)):
  dp P N ρ ⟨d,.call ⟨.builtin .len,#[x],#[t]⟩,ty,pos,aft,g⟩ K:=by
 obtain⟨e,ht⟩:=ht;exact⟨_,λw=>(by simp[execOp,resolve,invoke,builtin,hx,Builtin.len_,run_underlying ht,goInt]),h⟩
theorem aF {α:Type} {enc:α->List Value} {size:Nat} {L:List α} (hx:ev N ρ x=v) (hS:Sl enc size w v L) (ht:∃e,P.underlying t=some (.slice e)) (h:K (.int .i64 L.length)):
  dp P N ρ ⟨d,.call ⟨.builtin .len,#[x],#[t]⟩,ty,pos,aft,g⟩ K:=by
 obtain⟨a,cap,hv,_⟩:=hS.form;exact gV (hx.trans hv) ht h
theorem iQ {n:Nat} {agg:Bool} {zz:List Value} {a:Addr} (hx:ev N ρ x= .pointer (some a)) (ht:da P t=some (n,agg,zz)) (ha:At w a cs) (hn:cs.length=n) (hv:MG agg cs=v) (hagg:agg=true\/n=1)
  (h:K v):jP P N ρ w ⟨d,.load t x,ty,pos,aft,g⟩ K:=by
 obtain⟨i,dd,zv,hi,hu,_,hs,hag,_⟩:=jV ht;subst hv hs;refine⟨_,λw' hb=> ?_,h⟩;have ha':=ha.ab hb;have hisagg:(isAgg t).run P w'= .ok agg w':=by
  unfold isAgg;rw[Sem.run_bind,run_underlying hu w'];subst hag;cases dd<;>simp
 cases agg with
 |true=>
  have hl:=run_loadCells_list (P:=P) w' a cs ha';rw[hn]at hl;simp[execOp,hx,Instr.loadAt,Instr.sureAddr,loadVar,hisagg,sizeOf,typeInfo,hi,hl,MG]
 |false=>
  rcases hagg with h0|h0
  ·cases h0
  ·match cs,hn.trans h0,ha' with
   | [u],_,ha'=>
    have hc:=ha'.head;simp[execOp,hx,Instr.loadAt,Instr.sureAddr,loadVar,hisagg,hc,MG]
theorem bT {n:Nat} {agg:Bool} {zz:List Value} {t':TypeId} (hx:ev N ρ x= .pointer (some ⟨b,o,none⟩)) (ht:da P t=some (n,agg,zz)) (hS:St w0 w H) (hk:H[k]?=some (b,t',cs))
  (hn:((cs.drop o).take n).length=n) (hv:MG agg ((cs.drop o).take n)=v) (hagg:agg=true\/n=1)
  (h:K v):jP P N ρ w ⟨d,.load t x,ty,pos,aft,g⟩ K:=
 iQ hx ht (hS.at hk o n) hn hv hagg h
theorem Ft {zz:List Value} {t':TypeId} (hx:ev N ρ x= .pointer (some ⟨b,o,none⟩)) (ht:da P t=some (1,false,zz)) (hS:St w0 w H) (hk:H[k]?=some (b,t',cs))
  (hv:cs[o]?=some v) (h:K v):jP P N ρ w ⟨d,.load t x,ty,pos,aft,g⟩ K:=
 iQ hx ht (At.one (u:=v) (by rw[cell_of_row w b o _ t' _ (hS.get hk)];simpa using hv)) rfl rfl (.inr rfl) h
theorem aO {α:Type} {enc:α->List Value} {L:List α} {i n:Nat} {agg:Bool} {zz:List Value} {vs:Value} (dd:α) (hx:ev N ρ x= .pointer (some ((mx vs).add (i*n)))) (ht:da P t=some (n,agg,zz))
  (hS:Sl enc n w vs L) (hi:i<L.length) (hn:(enc (L.getD i dd)).length=n) (hv:MG agg (enc (L.getD i dd))=v) (hagg:agg=true\/n=1)
  (h:K v):jP P N ρ w ⟨d,.load t x,ty,pos,aft,g⟩ K:=
 iQ hx ht (hS.at hi dd) hn hv hagg h
def splice (cs:List Value) (o:Nat) (new:List Value):List Value:=cs.take o++new++cs.drop (o+new.length)
theorem cO {n:Nat} {agg:Bool} {zz:List Value} {t':TypeId} {new:List Value} (hx:ev N ρ x= .pointer (some ⟨b,o,none⟩)) (hy:ev N ρ y=v) (ht:da P t=some (n,agg,zz)) (hS:St w0 w H) (hk:H[k]?=some (b,t',cs))
  (hv:v.cells.toList=new) (hn:new.length=n) (hfit:o+n<=cs.length) (h1:new.all (·.oneCell')=true)
  (h:∀w',St w0 w' (H.set k (b,t',splice cs o new))->K2 undef w'):gZ P N ρ w ⟨d,.store t x y,ty,pos,aft,g⟩ K2:=by
 obtain⟨i,dd,zv,hi,hu,_,hs,_,_⟩:=jV ht;subst hs hv;have hst:=run_storeCells_at P b o t' v.cells.toList 0 cs.toArray w (hS.get hk) (by have:=hn;simp only[Array.length_toList]at this;simp only[Array.length_toList,List.size_toArray];omega) (λu hu=>(List.all_eq_true.1 h1) u hu);refine t8 (w':=w.setRow b (splice cs o v.cells.toList).toArray) ?_ (h _ (hS.setRow hk _));have hsz:v.cells.size=i.size:=by simpa using hn
 simp only[Nat.add_zero]at hst;simp[execOp,hx,hy,Instr.storeAt,Instr.sureAddr,storeVar,sizeOf,typeInfo,hi,hsz,hst,splice]
theorem D3 (cs:List Value) (o:Nat) (u:Value) (h:o<cs.length):splice cs o [u]=cs.set o u:=by
 unfold splice;rw[List.set_eq_take_append_cons_drop,if_pos h];simp
theorem gl {zz:List Value} {t':TypeId} (hx:ev N ρ x= .pointer (some ⟨b,o,none⟩)) (hy:ev N ρ y=v) (ht:da P t=some (1,false,zz)) (hS:St w0 w H) (hk:H[k]?=some (b,t',cs))
  (hfit:o<cs.length) (h1:v.oneCell'=true)
  (h:∀w',St w0 w' (H.set k (b,t',cs.set o v))->K2 undef w'):gZ P N ρ w ⟨d,.store t x y,ty,pos,aft,g⟩ K2:=by
 have hv:v.cells.toList=[v]:=by cases v<;>first|rfl|cases h1
 refine cO hx hy ht hS hk hv rfl oO (by simp[h1]) (λw' hS'=> ?_);rw[D3 cs o v hfit]at hS';exact h w' hS'
theorem di {n:Nat} {agg:Bool} {zz:List Value} (ht:da P t=some (n,agg,zz)) (hS:St w0 w H)
  (h:∀b w',St w0 w' ((b,t,zz)::H)->Below w.heap.size w w'->K2 (.pointer (some ⟨b,0,none⟩)) w'):gZ P N ρ w ⟨d,.alloc t,ty,pos,aft,g⟩ K2:=by
 obtain⟨i,dd,zv,hi,hu,hz,hs,_,hc⟩:=jV ht;refine fK ?_ (h w.heap.size _ (hS.alloc zz t) (iV w _));simp[execOp,Instr.alloc,zeroValue,typeInfo,hi,hz,newVar,newRow,hc]
theorem bY {new:List Value} (hx:ev N ρ x=v) (hv:v.cells.toList=new) (hS:St w0 w H)
  (h:∀b w',St w0 w' ((b,t,new)::H)->Below w.heap.size w w'->K2 (.pointer (some ⟨b,0,none⟩)) w'):gZ P N ρ w ⟨d,.box t x,ty,pos,aft,g⟩ K2:=by
 subst hv;refine fK ?_ (h w.heap.size _ (hS.alloc v.cells.toList t) (iV w _));simp[execOp,hx,Instr.box,newVar,newRow]
theorem tD {sz by_ n:Nat} {zz:List Value} {kl kc:IntKind} {ml mc:Int} (hx:ev N ρ x= .int kl ml) (hy:ev N ρ y= .int kc mc) (ht:sinfo P t=some (e,sz,by_,zz)) (hml:ml=(n:Int)) (hmc:mc=(n:Int))
  (h1:by_*n<=281474976710656) (h2:n<=9223372036854775807) (hS:St w0 w H)
  (h:∀b w',St w0 w' ((b,e,rep n zz)::H)->Below w.heap.size w w'->K2 (.slice (some ⟨b,0,none⟩) n n) w'):
  gZ P N ρ w ⟨d,.makeSlice t x y,ty,pos,aft,g⟩ K2:=by
 obtain⟨hu,ii,zv,hi1,hz,hsz,hby,hc,hzl⟩:=dJ ht;subst hml hmc;have hr:=run_make (P:=P) w t e ii zv hu hi1 hz kl kc (n:Int) (n:Int) oO (Int.le_refl _) (by rw[hby,<-Int.natCast_mul];omega) oO;simp only[Int.toNat_natCast]at hr;rw[hc,hsz,<-hzl,Cz]at hr;refine fK ?_ (h w.heap.size _ (hS.alloc (rep n zz) e) (iV w _));simp[execOp,hx,hy,hr]
theorem KI {sz by_ n:Nat} {zz:List Value} {kl kc:IntKind} {ml mc:Int} (hx:ev N ρ x= .int kl ml) (hy:ev N ρ y= .int kc mc) (ht:sinfo P t=some (e,sz,by_,zz)) (hml:ml=0) (hmc:mc=(n:Int))
  (h1:by_*n<=281474976710656) (h2:n<=9223372036854775807) (hS:St w0 w H)
  (h:∀b w',St w0 w' ((b,e,rep n zz)::H)->Below w.heap.size w w'->K2 (.slice (some ⟨b,0,none⟩) 0 n) w'):
  gZ P N ρ w ⟨d,.makeSlice t x y,ty,pos,aft,g⟩ K2:=by
 obtain⟨hu,ii,zv,hi1,hz,hsz,hby,hc,hzl⟩:=dJ ht;subst hml hmc;have hr:=run_make (P:=P) w t e ii zv hu hi1 hz kl kc 0 (n:Int) (Int.le_refl _) oO (by rw[hby,<-Int.natCast_mul];omega) oO;simp only[Int.toNat_natCast,Int.toNat_zero]at hr;rw[hc,hsz,<-hzl,Cz]at hr;refine fK ?_ (h w.heap.size _ (hS.alloc (rep n zz) e) (iV w _));simp[execOp,hx,hy,hr]
theorem bR {parts:List (Nat×Operand)} {pv:List (Nat×Value)} {cells:List Value} (hp:(parts.map λp=>(p.1,ev N ρ p.2))=pv) (hb:P.built t pv=some cells.toArray)
  (h:K (.agg cells.toArray)):dp P N ρ ⟨d,.build t parts.toArray,ty,pos,aft,g⟩ K:=by
 subst hp;refine⟨_,λw=> ?_,h⟩;have hr:=run_build (P:=P) w t (parts.toArray.map λ(i,x)=>(i,ev N ρ x)) cells.toArray (by simpa using hb);simp only[execOp,Sem.run_bind,hr,Result.andThen_ok];rfl
theorem dI {len sz by_:Nat} {zz:List Value} {parts:List (Nat×Operand)} {vs:List Value} {cells:List Value} (hp:(parts.map λp=>(p.1,ev N ρ p.2))=(vs.zipIdx 0).map λx=>(x.2,x.1))
  (ht:sinfo P t=some (e,sz,by_,zz)) (hlen:vs.length=len) (h0:0<len) (hsz0:0<sz) (hsm:len*sz<=16777216) (hvs:∀v∈vs,v.cells.size=sz) (hc:(vs.flatMap λv=>v.cells.toList)=cells) (hS:St w0 w H)
  (h:∀b w',St w0 w' ((b,e,cells)::H)->Below w.heap.size w w'->K2 (.slice (some ⟨b,0,none⟩) len len) w'):
  gZ P N ρ w ⟨d,.buildSlice t len parts.toArray,ty,pos,aft,g⟩ K2:=by
 obtain⟨hu,ii,zv,hi1,hz,hsz,hby,hcz,hzl⟩:=dJ ht;subst hc hsz;have hpos:0<len*ii.size:=Nat.mul_pos h0 hsz0;have hr:=run_buildSlice (P:=P) w t e len (parts.toArray.map λ(i,x)=>(i,ev N ρ x)) (vs.flatMap λv=>v.cells.toList).toArray ii zv hu hi1 hz oO oO
  (by(have h1:(parts.toArray.map λ(i,x)=>(i,ev N ρ x)).toList=(vs.zipIdx 0).map λx=>(x.2,x.1):=by simpa using hp);rw[h1];exact Go.Great.fill_whole hsz0 vs _ hvs (by simp[hlen]))
 refine fK ?_ (h w.heap.size _ (hS.alloc _ e) (iV w _));simp only[execOp,Sem.run_bind,hr,Result.andThen_ok];rfl
def Gs (e:TypeId) (size:Nat) (v:Value) (n:Nat) (X:List Value) (L:List bQ):Prop:=
 X.length=n*size/\((v= .slice none 0 0/\n=0/\L=[])\/∃b cap spare,v= .slice (some ⟨b,0,none⟩) n cap/\L=[(b,e,X++spare)]/\n<=cap/\cap<=Go.maxLen/\(X++spare).length=cap*size)
theorem Gs.nil (e:TypeId) (size:Nat):Gs e size (.slice none 0 0) 0 [] []:=⟨by simp,.inl ⟨rfl,rfl,rfl⟩⟩
theorem Gs.own {e:TypeId} {size n:Nat} {v:Value} {X:List Value} {L:List bQ} (hG:Gs e size v n X L) (hS:St w0 w (L++H)):w.ownsRow w0.heap.size e size v n X/\∀b,v.ownBlock=some b->∀e'∈H,e'.1≠b:=by
 obtain⟨hX,⟨rfl,rfl,rfl⟩|⟨b,cap,spare,rfl,rfl,h1,h2,h3⟩⟩:=hG
 ·have:X=[]:=List.eq_nil_of_length_eq_zero (by simpa using hX);subst this;exact⟨World.ownsRow_nil _ _ _ _,λb hb=>by cases hb⟩
 ·refine⟨⟨hX,.inr ⟨b,cap,(X++spare).toArray,rfl,(hS.own (b,e,X++spare) (by simp)).1,(hS.own (b,e,X++spare) (by simp)).2,h1,h2,by simpa using h3,by simp[<-hX]⟩⟩,λb' hb' e' he' heq=> ?_⟩;have hnd:=hS.nd;simp only[List.cons_append,List.nil_append,List.map_cons,List.nodup_cons]at hnd;simp only[Value.ownBlock,Option.some.injEq]at hb';subst hb';exact hnd.1 (List.mem_map.2 ⟨e',he',heq⟩)
theorem NE {size bytes n m c:Nat} {zz:List Value} {X news:List Value} {L:List bQ} {xv:Value} {ad:Addr} (hx:ev N ρ x=v) (hy:ev N ρ y=xv) (ht:sinfo P t=some (e,size,bytes,zz)) (hsz:0<size)
  (hG:Gs e size v n X L) (hS:St w0 w (L++H)) (hxv:xv= .slice (some ad) m c) (hl:news.length=m*size) (hnews:At w ad news) (h1:∀u∈news,u.oneCell'=true)
  (h63:n+m<=9223372036854775807) (hb:(n+m)*bytes<=140737488355328)
  (h:∀v' L' w',Gs e size v' (n+m) (X++news) L'->St w0 w' (L'++H)->(∀i,i<w.heap.size->v.ownBlock≠some i->w'.heap[i]?=w.heap[i]?)->w.heap.size<=w'.heap.size->
   K2 v' w'):
  gZ P N ρ w ⟨d,.call ⟨.builtin .append,#[x,y],#[t,t]⟩,ty,pos,aft,g⟩ K2:=by
 obtain⟨hu,ii,zv,hi1,hz,hsize,hby,hcz,hzl⟩:=dJ ht;obtain⟨hown,hdis⟩:=hG.own hS;obtain⟨v',w1,hr,hown',hgrow,_,hlies⟩:=run_append_own_at (P:=P) w w0.heap.size t ty e ii zv size bytes hu hi1 hz hsize hby (by rw[hcz];simpa using hzl) hsz v n X hown ad m c news hl hnews h1 (by unfold Go.maxLen;omega) hb hS.ab.size;subst hxv;have hback:∃L',Gs e size v' (n+m) (X++news) L'/\St w0 w1 (L'++H):=by
  have hfar:∀e'∈H,w1.heap[e'.1]?=w.heap[e'.1]?:=λe' he'=>hgrow.block _ (hS.lt (by simp[he'])) (λheq=>hdis e'.1 (by rw[<-heq]) e' he' rfl);have hbel:Below w0.heap.size w0 w1:=hS.ab.grown hgrow hS.ab.size (λk hk=>(hown.lt k hk).1);have hndH:(H.map (·.1)).Nodup:=by
   have:=hS.nd;rw[List.map_append]at this;exact(List.nodup_append.1 this).2.1
  obtain⟨hXl,⟨rfl,h0⟩|⟨gb,cap,cur,rfl,hgb,hh,hnc,hcm,hcs,htake⟩⟩:=hown'
  ·refine⟨[],⟨hXl,.inl ⟨rfl,h0,rfl⟩⟩,⟨hbel,λe' he'=>⟨(hS.own e' (by simp at he';simp[he'])).1,?_⟩,by simpa using hndH⟩⟩;simp only[List.nil_append]at he';rw[hfar e' he'];exact(hS.own e' (by simp[he'])).2
  ·have hsplit:cur.toList=(X++news)++cur.toList.drop ((n+m)*size):=by
    rw[<-htake,List.take_append_drop]
   have hcell:w1.heap[gb]?=some (.cells ((X++news)++cur.toList.drop ((n+m)*size)).toArray e (0,0)):=by
    rw[<-hsplit,hh,Array.toArray_toList]
   refine⟨[(gb,e,(X++news)++cur.toList.drop ((n+m)*size))],⟨hXl,.inr ⟨gb,cap,_,rfl,rfl,hnc,hcm,by rw[<-hsplit];simpa using hcs⟩⟩,⟨hbel,λe' he'=> ?_,?_⟩⟩
   ·simp only[List.cons_append,List.nil_append,List.mem_cons]at he';rcases he' with rfl|he'
    ·exact⟨hgb,hcell⟩
    ·refine⟨(hS.own e' (by simp[he'])).1,?_⟩;rw[hfar e' he'];exact(hS.own e' (by simp[he'])).2
   ·simp only[List.cons_append,List.nil_append,List.map_cons,List.nodup_cons];refine⟨λhm=> ?_,hndH⟩;obtain⟨e',he',hee⟩:=List.mem_map.1 hm;rcases hlies with hob|hob
    ·exact hdis gb hob.symm e' he' hee
    ·have:=hS.lt (e:=e') (by simp[he']);have hgs:gb=w.heap.size:=by simpa[Value.ownBlock]using hob
     have hee':e'.1=gb:=hee;omega
 obtain⟨L',hG',hS'⟩:=hback;refine fK ?_ (h v' L' w1 hG' hS' (λi hi hne=>hgrow.block i hi (λheq=>hne heq.symm)) hgrow.size);simp[execOp,resolve,invoke,builtin,hx,hy,hr]
end
theorem me (n:Int):IntKind.u32.wrap n=n%4294967296:=IntKind.wrap_u32 n
theorem pU (n:Int):IntKind.u64.wrap n=n%18446744073709551616:=by simp[IntKind.wrap,IntKind.bits,IntKind.signed]
theorem Jg (n:Int):IntKind.u8.wrap n=n%256:=IntKind.wrap_u8 n
theorem G8 (n:Int):IntKind.u16.wrap n=n%65536:=by simp[IntKind.wrap,IntKind.bits,IntKind.signed]
theorem MY {k:IntKind} (m:Int) (c:Nat) (hc:c<=k.bits):m.fdiv (2^(min ((c:Int)).toNat k.bits))=m/2^c:=by
 rw[Int.toNat_natCast,Nat.min_eq_left hc];exact Int.fdiv_eq_ediv_of_nonneg _ (Int.le_of_lt (Int.pow_pos dD))
theorem km {k:IntKind} (hk:k.signed=false) (m n:Nat) (hm:m<2^k.bits) (hn:n<2^k.bits):iF .or k m n=((m|||n:Nat):Int):=by
 have hlt:m|||n<2^k.bits:=Nat.or_lt_two_pow hm hn;have h:((m|||n:Nat):Int)%2^k.bits=((m|||n:Nat):Int):=Int.emod_eq_of_lt oO (by exact_mod_cast hlt);simp only[iF,BitVec.ofInt_natCast,BitVec.toNat_or,BitVec.toNat_ofNat,Nat.mod_eq_of_lt hm,Nat.mod_eq_of_lt hn,IntKind.wrap,hk,Bool.false_and,h];simp
theorem Af {k:IntKind} (hk:k.signed=false) (m n:Nat) (hm:m<2^k.bits) (hn:n<2^k.bits):iF .and k m n=((m&&&n:Nat):Int):=by
 have hlt:m&&&n<2^k.bits:=Nat.lt_of_le_of_lt Nat.and_le_left hm;have h:((m&&&n:Nat):Int)%2^k.bits=((m&&&n:Nat):Int):=Int.emod_eq_of_lt oO (by exact_mod_cast hlt);simp only[iF,BitVec.ofInt_natCast,BitVec.toNat_and,BitVec.toNat_ofNat,Nat.mod_eq_of_lt hm,Nat.mod_eq_of_lt hn,IntKind.wrap,hk,Bool.false_and,h];simp
def Kr (k:IntKind) (L:List Nat):List Value:=L.map λx:Nat=>Value.int k (x:Int)
def uk (k:IntKind) (x:Nat):List Value:=[Value.int k (x:Int)]
theorem FW (k:IntKind) (L:List Nat):Kr k L=L.flatMap (uk k):=by
 induction L with
 |nil=>rfl
 |cons x L ih=>rw[List.flatMap_cons,<-ih];rfl
theorem JQ (k:IntKind) (L:List Nat):(Kr k L).length=L.length:=by simp[Kr]
theorem Oj (k:IntKind) (L:List Nat) {i:Nat} (h:i<L.length):(Kr k L)[i]?=some (.int k (L.getD i 0:Nat)):=by simp[Kr,List.getD,h]
theorem Ox (k:IntKind) (L:List Nat) (i x:Nat):(Kr k L).set i (.int k (x:Int))=Kr k (L.set i x):=by simp[Kr,List.map_set]
theorem Oo (k:IntKind) (n:Nat):rep n [.int k 0]=Kr k (List.replicate n 0):=by
 induction n with
 |zero=>rfl
 |succ n ih=>rw[pg,ih];rfl
theorem Gg (k:IntKind) (L M:List Nat):Kr k L++Kr k M=Kr k (L++M):=by simp[Kr]
def ua (v:Value) (size lo hi:Nat):Value:=
 match v with
 | .slice a _ c=> .slice (if c=lo then a else a.map (·.add (lo*size))) (hi-lo) (c-lo)
 |v=>v
theorem GY {w:World} {α:Type} {enc:α->List Value} {size:Nat} {v:Value} {L:List α} (h:Sl enc size w v L) {lo hi:Nat} (hlt:lo<L.length):mx (ua v size lo hi)=(mx v).add (lo*size):=by
 obtain⟨a,cap,rfl,h1,_,hn⟩:=h.form;cases a with
 |none=>have:=hn rfl;omega
 |some a=>simp[ua,mx,show¬cap=lo by omega]
theorem qY (a:Addr) (m n:Nat) (h:a.spot=none):(a.add m).add n=a.add (m+n):=by
 obtain⟨b,o,s⟩:=a;subst h;rw[add_lit,add_lit,add_lit,Nat.add_assoc]
theorem Sl.spot {w:World} {α:Type} {enc:α->List Value} {size:Nat} {v:Value} {L:List α} (h:Sl enc size w v L) (hu:∀x,(enc x).length=size) (hs:0<size) (hl:0<L.length):(mx v).spot=none:=by
 have h0:=h.elt 0 hl;rw[Nat.zero_mul,add_zero]at h0;have hpos:0<(enc L[0]).length:=by rw[hu];exact hs
 have:=h0 0 _ (List.getElem?_eq_getElem hpos);rw[add_zero]at this;exact World.cell?_spot this
theorem Sl.sub {w:World} {α:Type} {enc:α->List Value} {size:Nat} {v:Value} {L:List α} (h:Sl enc size w v L) (hu:∀x,(enc x).length=size) (hs:0<size) {lo hi:Nat} (h1:lo<=hi) (h2:hi<=L.length):
  Sl enc size w (ua v size lo hi) ((L.drop lo).take (hi-lo)):=by
 have hlen:((L.drop lo).take (hi-lo)).length=hi-lo:=by simp;omega
 refine⟨?_,λi hi' j u hj=> ?_⟩
 ·obtain⟨a,cap,rfl,g1,g2,g3⟩:=h.form;refine⟨_,_,by rw[hlen];rfl,by rw[hlen];omega,oO,λhn=> ?_⟩;split at hn
  ·omega
  ·cases a with
   |none=>have:=g3 rfl;omega
   |some a=>simp at hn
 ·rw[hlen]at hi';have hlt:lo<L.length:=oO;rw[GY h hlt,qY _ _ _ (h.spot hu hs oO),<-Nat.add_mul];refine h.elt (lo+i) oO j u ?_;rw[<-hj];simp
section
variable {w0 w : World} {H : List bQ} {b k : Nat} {t : TypeId} {kk : IntKind} {L : List Nat}
theorem tB (k:IntKind):∀x,(uk k x).length=1:=λ_=>rfl
theorem St.C9 (h:St w0 w H) (hk:H[k]?=some (b,t,Kr kk L)) {n cap:Nat} (hn:n<=L.length) (h1:n<=cap) (h2:cap<=9223372036854775807):Sl (uk kk) 1 w (.slice (some ⟨b,0,none⟩) n cap) (L.take n):=by
 have hl:(L.take n).length=n:=by simp;omega
 have:=h.sl (enc:=uk kk) (size:=1) (L:=L.take n) (spare:=Kr kk (L.drop n)) (cap:=cap) hk (by rw[<-FW,Gg,List.take_append_drop]) (tB kk) (by rw[hl];exact h1) (by unfold Go.maxLen;omega);rwa[hl]at this
end
section
variable {P : Program} {N : Nat} {ρ : Nat → Value} {w0 w w' : World} {Q : Exit → Act → World → Prop} {ops : Array Oper} {rest : List Oper}
  {d : Option Tmp} {ty : TypeId} {pos : String} {aft : Array Edge} {g : Option (Nat × Bool)} {x y z : Operand} {t e : TypeId} {H : List bQ} {k b o : Nat} {cs : List Value} {v : Value} {K : Value → Prop} {K2 : Value → World → Prop} {kk : IntKind} {L : List Nat}
theorem fz {i:Nat} {zz:List Value} {t':TypeId} (hx:ev N ρ x= .pointer (some ⟨b,o,none⟩)) (ht:da P t=some (1,false,zz)) (hS:St w0 w H) (hk:H[k]?=some (b,t',Kr kk L)) (ho:o=i) (hi:i<L.length)
  (h:K (.int kk (L.getD i 0:Nat))):jP P N ρ w ⟨d,.load t x,ty,pos,aft,g⟩ K:=by
 subst ho;exact Ft hx ht hS hk (Oj kk L hi) h
theorem hJ {i a:Nat} {m:Int} {zz:List Value} {t':TypeId} (hx:ev N ρ x= .pointer (some ⟨b,o,none⟩)) (hy:ev N ρ y= .int kk m) (hm:m=(a:Int)) (ht:da P t=some (1,false,zz)) (hS:St w0 w H) (hk:H[k]?=some (b,t',Kr kk L)) (ho:o=i) (hi:i<L.length)
  (h:∀w',St w0 w' (H.set k (b,t',Kr kk (L.set i a)))->K2 undef w'):gZ P N ρ w ⟨d,.store t x y,ty,pos,aft,g⟩ K2:=by
 subst ho hm;refine gl hx hy ht hS hk (by rw[JQ];exact hi) rfl (λw' hS'=> ?_);rw[Ox]at hS';exact h w' hS'
theorem iI {by_ n:Nat} {kl kc:IntKind} {ml mc:Int} (hx:ev N ρ x= .int kl ml) (hy:ev N ρ y= .int kc mc) (ht:sinfo P t=some (e,1,by_,[.int kk 0])) (hml:ml=(n:Int)) (hmc:mc=(n:Int))
  (h1:by_*n<=281474976710656) (h2:n<=9223372036854775807) (hS:St w0 w H)
  (h:∀b w',St w0 w' ((b,e,Kr kk (List.replicate n 0))::H)->Below w.heap.size w w'->K2 (.slice (some ⟨b,0,none⟩) n n) w'):
  gZ P N ρ w ⟨d,.makeSlice t x y,ty,pos,aft,g⟩ K2:=by
 refine tD hx hy ht hml hmc h1 h2 hS (λb w' hS' hB=> ?_);rw[Oo]at hS';exact h b w' hS' hB
theorem sJ {α:Type} {enc:α->List Value} {size by_:Nat} {zz:List Value} {L:List α} {hi:Nat} {kh:IntKind} {mh:Int} (hx:ev N ρ x=v) (hh:ev N ρ z= .int kh mh) (hS:Sl enc size w v L)
  (hmh:mh=(hi:Int)) (h2:hi<=L.length) (ht:sinfo P t=some (e,size,by_,zz)) (h:K (ua v size 0 hi)):dp P N ρ ⟨d,.slice t x none (some z) none,ty,pos,aft,g⟩ K:=by
 obtain⟨hu,ii,zv,hi1,_,hsz,_⟩:=dJ ht;obtain⟨a,cap,rfl,g1,_⟩:=hS.form;subst hmh hsz;refine⟨_,λw=> ?_,h⟩;have a2:hi<=cap:=oO;simp[execOp,hx,hh,Instr.sliceAt,Instr.slice,Instr.sliceBounds,Instr.sliceBound,asIntOf,run_underlying hu,sizeOf,typeInfo,hi1,a2,ua]
theorem Lh {α:Type} {enc:α->List Value} {size by_:Nat} {zz:List Value} {L:List α} {lo:Nat} {kl:IntKind} {ml:Int} (hx:ev N ρ x=v) (hl:ev N ρ y= .int kl ml) (hS:Sl enc size w v L)
  (hml:ml=(lo:Int)) (h1:lo<=L.length) (ht:sinfo P t=some (e,size,by_,zz)) (h:K (ua v size lo L.length)):dp P N ρ ⟨d,.slice t x (some y) none none,ty,pos,aft,g⟩ K:=by
 obtain⟨hu,ii,zv,hi1,_,hsz,_⟩:=dJ ht;obtain⟨a,cap,rfl,g1,_⟩:=hS.form;subst hml hsz;refine⟨_,λw=> ?_,h⟩;simp[execOp,hx,hl,Instr.sliceAt,Instr.slice,Instr.sliceBounds,Instr.sliceBound,asIntOf,run_underlying hu,sizeOf,typeInfo,hi1,h1,ua]
theorem zA {size by_ n cap:Nat} {zz:List Value} {hi:Nat} {kh:IntKind} {mh:Int} (hx:ev N ρ x= .slice (some ⟨b,o,none⟩) n cap) (hh:ev N ρ z= .int kh mh)
  (hmh:mh=(hi:Int)) (h2:hi<=cap) (ht:sinfo P t=some (e,size,by_,zz)) (h:K (.slice (some ⟨b,o,none⟩) hi cap)):dp P N ρ ⟨d,.slice t x none (some z) none,ty,pos,aft,g⟩ K:=by
 obtain⟨hu,ii,zv,hi1,_,hsz,_⟩:=dJ ht;subst hmh hsz;refine⟨_,λw=> ?_,h⟩;have:(if cap=0 then some (⟨b,o,none⟩:Addr)else some ((⟨b,o,none⟩:Addr).add 0))=some ⟨b,o,none⟩:=by rw[add_zero];split<;>rfl
 simp[execOp,hx,hh,Instr.sliceAt,Instr.slice,Instr.sliceBounds,Instr.sliceBound,asIntOf,run_underlying hu,sizeOf,typeInfo,hi1,h2,add_zero]
theorem OC {size by_ n cap:Nat} {zz:List Value} {lo hi:Nat} {kl kh:IntKind} {ml mh:Int} (hx:ev N ρ x= .slice (some ⟨b,o,none⟩) n cap) (hl:ev N ρ y= .int kl ml) (hh:ev N ρ z= .int kh mh)
  (hml:ml=(lo:Int)) (hmh:mh=(hi:Int)) (h1:lo<=hi) (h2:hi<=cap) (h3:lo<cap) (ht:sinfo P t=some (e,size,by_,zz)) (h:K (.slice (some ⟨b,o+lo*size,none⟩) (hi-lo) (cap-lo))):
  dp P N ρ ⟨d,.slice t x (some y) (some z) none,ty,pos,aft,g⟩ K:=by
 obtain⟨hu,ii,zv,hi1,_,hsz,_⟩:=dJ ht;subst hml hmh hsz;refine⟨_,λw=> ?_,h⟩;simp[execOp,hx,hl,hh,Instr.sliceAt,Instr.slice,Instr.sliceBounds,Instr.sliceBound,asIntOf,run_underlying hu,sizeOf,typeInfo,hi1,h1,h2,show¬cap=lo by omega,add_lit]
def ry (L:List Nat):ByteArray:=⟨(L.map UInt8.ofNat).toArray⟩
theorem foldl_push (L:List Nat):∀s:ByteArray,(L.map λx:Nat=>(x:Int)).foldl (λr n=>r.push (UInt8.ofNat n.toNat)) s=⟨s.data++(L.map UInt8.ofNat).toArray⟩:=by
 induction L with
 |nil=>intro s;cases s;simp
 |cons a L ih=>
  intro s;simp only[List.map_cons,List.foldl_cons];rw[ih];cases s
  simp[ByteArray.push]
theorem NA {el:TypeId} {cap n:Nat} {a:Addr} {L:List Nat} (hx:ev N ρ x= .slice (some a) n cap) (ht:P.underlying t=some (.slice el)/\P.underlying el=some (.int .u8)/\P.underlying e=some .string) (hn:L.length=n) (ha:At w a (Kr .u8 L))
  (h:K (.string (ry L))):jP P N ρ w ⟨d,.convert t e x,ty,pos,aft,g⟩ K:=by
 refine⟨_,λw' hb=> ?_,h⟩;have ha':=ha.ab hb;have hl:=run_loadCells_list (P:=P) w' a (Kr .u8 L) ha';rw[JQ,hn]at hl;have hl2:(loadCells a n).run P w'= .ok ((L.map λx:Nat=>(x:Int)).map (Value.int .u8)).toArray w':=by rw[hl];simp[Kr]
 have:=run_bytesToString (P:=P) w' a n cap (L.map λx:Nat=>(x:Int)) hl2;rw[foldl_push]at this;simp[execOp,hx,run_convert_bytes_string w' t e el (some a) n cap ht.1 ht.2.1 ht.2.2,this,ry]
end
inductive Md where
 |pure|read|aG|free
 deriving DecidableEq
section
variable {P : Program} {ops : Array Oper}
def j5 (ops:Array Oper):Nat->Nat->Nat->Bool
 |0,_,_=>false
 |n+1,i,h=>match ops[i]?with
  |some o=>o.after.any λe=>Region.binds .any e&&(Nat.beq e.on h||j5 ops n e.on h)
  |none=>false
def closed (ops:Array Oper) (listed:Array Bool):Prop:=∀i o,ops[i]?=some o->listed.getD i true=true->∀e∈o.after,Region.binds .any e=true->listed.getD e.on false=true
theorem uh {listed:Array Bool} (hc:closed ops listed):∀n i h,(∀o,ops[i]?=some o->∀e∈o.after,Region.binds .any e=true->listed.getD e.on false=true)->j5 ops n i h=true->listed.getD h false=true:=by
 intro n;induction n with
 |zero=>intro i h _ ht;cases ht
 |succ n ih=>
  intro i h hall ht;unfold j5 at ht;cases ho:ops[i]?with
  |none=>rw[ho]at ht;cases ht
  |some o=>
   rw[ho]at ht;simp only[Array.any_eq_true',Bool.and_eq_true,Bool.or_eq_true]at ht;obtain⟨e,he,hb,h1|h1⟩:=ht
   ·have:=hall o ho e he hb;rwa[Nat.eq_of_beq_eq_true h1]at this
   ·have hl:=hall o ho e he hb;refine ih e.on h (λo' ho' e' he' hb'=>hc e.on o' ho' ?_ e' he' hb') h1;have hlt:e.on<listed.size:=by
     rcases Nat.lt_or_ge e.on listed.size with h2|h2
     ·exact h2
     ·simp[Array.getD,Nat.not_lt.2 h2]at hl
    simp only[Array.getD,hlt,dite_true]at hl⊢;exact hl
def du (P:Program) (ops:Array Oper) (m:Md) (o:Oper) (a:Act) (w:World) (K:Act->World->Prop):Prop:=
 if Region.wanted o (yielded ops a.tmps)then
  match m with
  | .pure=>∃v,(∀w',(execOp a.eval o).run P w'= .ok (.value v) w')/\K (a.put o.dst v) w
  | .read=>∃v,(∀w',Below w.heap.size w w'->(execOp a.eval o).run P w'= .ok (.value v) w')/\K (a.put o.dst v) w
  | .aG=>Bn P (λv w'=>Below w.heap.size w w'/\K (a.put o.dst v) w') ((execOp a.eval o).run P w)
  | .free=>Bn P (λv w'=>K (a.put o.dst v) w') ((execOp a.eval o).run P w)
 else K (a.put o.dst undef) w
def wr (P:Program) (ops:Array Oper) (Kend:Act->World->Prop):List (Nat×Md)->Act->World->Prop
 | [],a,w=>Kend a w
 |(i,m)::σ,a,w=>match ops[i]?with
  |some o=>du P ops m o a w (wr P ops Kend σ)
  |none=>False
theorem dY {m:Md} {o:Oper} {a:Act} {w:World} {K K':Act->World->Prop} (hk:∀a w,K a w->K' a w) (h:du P ops m o a w K):du P ops m o a w K':=by
 unfold du at*;split
 ·rename_i hw;simp only[hw,if_true]at h;cases m with
  |pure=>obtain⟨v,h1,h2⟩:=h;exact⟨v,h1,hk _ _ h2⟩
  |read=>obtain⟨v,h1,h2⟩:=h;exact⟨v,h1,hk _ _ h2⟩
  |aG=>exact gk (λv w h=>⟨h.1,hk _ _ h.2⟩) h
  |free=>exact gk (λv w h=>hk _ _ h) h
 ·rename_i hw;simp only[hw]at h;exact hk _ _ h
theorem kL {Q:Exit->Act->World->Prop} {i:Nat} {m:Md} {o:Oper} {a:Act} {w:World} {K:Act->World->Prop} (hi:ops[i]?=some o) (h:du P ops m o a w K):wpOp P ops Q i K a w:=by
 unfold du at h;unfold wpOp;simp only[hi];split
 ·rename_i hw;simp only[hw,if_true]at h;refine .inl ?_;unfold Oper.wp;have hv:∀ {K':Value->World->Prop},(∀v w',K' v w'->K (a.put o.dst v) w')->Bn P K' ((execOp a.eval o).run P w)->o.upon P a K Q ((execOp a.eval o).run P w):=by
   intro K' hk' hh;generalize (execOp a.eval o).run P w=r at hh;cases r with
   |halt x w'=>exact hh.elim
   |ok n w'=>
    cases n with
    |value v=>rw[Oper.upon_value];exact hk' _ _ hh
    |skip=>rw[Oper.upon_skip];exact hk' _ _ hh
    |enter f args=>
     rw[Oper.upon_enter];refine Calls.mono hh ?_;rintro e w1 ⟨v,rfl,hR⟩;exact hk' _ _ hR
    |_=>exact hh.elim
  cases m with
  |pure=>obtain⟨v,h1,h2⟩:=h;rw[h1 w,Oper.upon_value];exact h2
  |read=>obtain⟨v,h1,h2⟩:=h;rw[h1 w (Below.refl _ _),Oper.upon_value];exact h2
  |aG=>exact hv (λv w' hh=>hh.2) h
  |free=>exact hv (λv w' hh=>hh) h
 ·rename_i hw;simp only[hw]at h;exact h
theorem iY {m:Md} {o:Oper} {a:Act} {w:World} {K:Act->World->Prop} (hw:¬Region.wanted o (yielded ops a.tmps)=true):du P ops m o a w K=K (a.put o.dst undef) w:=by unfold du;rw[if_neg hw]
theorem fv {o:Oper} {a:Act} {w:World} {K:Act->World->Prop} (hw:Region.wanted o (yielded ops a.tmps)=true):
 du P ops .pure o a w K=∃v,(∀w',(execOp a.eval o).run P w'= .ok (.value v) w')/\K (a.put o.dst v) w:=by unfold du;rw[if_pos hw]
theorem kH {o:Oper} {a:Act} {w:World} {K:Act->World->Prop} (hw:Region.wanted o (yielded ops a.tmps)=true):
 du P ops .read o a w K=∃v,(∀w',Below w.heap.size w w'->(execOp a.eval o).run P w'= .ok (.value v) w')/\K (a.put o.dst v) w:=by unfold du;rw[if_pos hw]
theorem jL {o:Oper} {a:Act} {w:World} {K:Act->World->Prop} (hw:Region.wanted o (yielded ops a.tmps)=true):
 du P ops .aG o a w K=Bn P (λv w'=>Below w.heap.size w w'/\K (a.put o.dst v) w') ((execOp a.eval o).run P w):=by unfold du;rw[if_pos hw]
theorem ky {o:Oper} {a:Act} {w:World} {K:Act->World->Prop} (hw:Region.wanted o (yielded ops a.tmps)=true):
 du P ops .free o a w K=Bn P (λv w'=>K (a.put o.dst v) w') ((execOp a.eval o).run P w):=by unfold du;rw[if_pos hw]
def fw (ops:Array Oper) (i:Nat×Md) (j:Nat×Md):Bool:=
 match ops[i.1]?,ops[j.1]?with
 |some oi,some oj=>Oper.apart ops oi oj&&(match i.2,j.2 with
  | .pure,_=>true
  |_,.pure=>true
  | .read,.read=>true
  | .read,.aG=>true
  |_,_=>false)
 |_,_=>false
def gG (ops:Array Oper) (n:Nat):List (Nat×Md)->Bool
 | []=>true
 |i::σ=>(σ.all λj=> !Nat.beq i.1 j.1&&(j5 ops n j.1 i.1||fw ops i j))&&gG ops n σ
theorem nt {n:Nat} {x:Nat×Md}:∀ {σ τ:List (Nat×Md)},gG ops n (σ++x::τ)=true->gG ops n (σ++τ)=true
 | [],τ,h=>by simp only[List.nil_append,gG,Bool.and_eq_true]at h⊢;exact h.2
 |y::σ,τ,h=>by
  simp only[List.cons_append,gG,Bool.and_eq_true,List.all_append,List.all_cons]at h⊢;exact⟨⟨h.1.1,h.1.2.2⟩,nt h.2⟩
theorem sG {K:Value->World->Prop} {r:Result Next} (h:Bn P K r):∃v w,K v w:=by
 cases r with
 |halt x w'=>exact h.elim
 |ok n w'=>
  cases n with
  |value v=>exact⟨v,w',h⟩
  |skip=>exact⟨undef,w',h⟩
  |enter f args=>
   obtain⟨e,w1,fr,⟨v,_,hK⟩,_⟩:=h [];exact⟨v,w1,hK⟩
  |_=>exact h.elim
theorem oV {m:Md} {o:Oper} {a:Act} {w:World} {K K':Act->World->Prop} (hk:∀v w',(m≠ .free->Below w.heap.size w w')->K (a.put o.dst v) w'->K' (a.put o.dst v) w') (h:du P ops m o a w K):du P ops m o a w K':=by
 unfold du at*;split
 ·rename_i hw;rw[if_pos hw]at h;cases m with
  |pure=>obtain⟨v,h1,h2⟩:=h;exact⟨v,h1,hk _ _ (λ_=>Below.refl _ _) h2⟩
  |read=>obtain⟨v,h1,h2⟩:=h;exact⟨v,h1,hk _ _ (λ_=>Below.refl _ _) h2⟩
  |aG=>exact gk (λv w h=>⟨h.1,hk _ _ (λ_=>h.1) h.2⟩) h
  |free=>exact gk (λv w h=>hk _ _ (λh=>absurd rfl h) h) h
 ·rename_i hw;rw[if_neg hw]at h;exact hk _ _ (λ_=>Below.refl _ _) h
theorem BZ {i j:Nat} {mi mj:Md} {oi oj:Oper} (hi:ops[i]?=some oi) (hj:ops[j]?=some oj) (hsi:∀cs b,oi.op≠ .select cs b) (hsj:∀cs b,oj.op≠ .select cs b)
  (hok:fw ops (i,mi) (j,mj)=true) {K:Act->World->Prop} {a:Act} {w:World}
  (h:du P ops mi oi a w (λa w=>du P ops mj oj a w K)):du P ops mj oj a w (λa w=>du P ops mi oi a w K):=by
 unfold fw at hok;simp only[hi,hj,Bool.and_eq_true]at hok;obtain⟨hap,hm⟩:=hok;obtain⟨h1,h2,h3⟩:=Oper.apart_spec hap;have wj:∀u,Region.wanted oj (yielded ops (a.put oi.dst u).tmps)=Region.wanted oj (yielded ops a.tmps):=λu=>wanted_put oj a oi.dst u h1;have wi:∀u,Region.wanted oi (yielded ops (a.put oj.dst u).tmps)=Region.wanted oi (yielded ops a.tmps):=λu=>wanted_put oi a oj.dst u h3;have ej:∀u,execOp (a.put oi.dst u).eval oj=execOp a.eval oj:=λu=>execOp_put oj hsj a oi.dst u h1;have ei:∀u,execOp (a.put oj.dst u).eval oi=execOp a.eval oi:=λu=>execOp_put oi hsi a oj.dst u h3;have cm:∀u v,(a.put oi.dst u).put oj.dst v=(a.put oj.dst v).put oi.dst u:=λu v=>Act.put_comm a u v h2;have jback:∀u w,du P ops mj oj (a.put oi.dst u) w K->du P ops mj oj a w (λa' w'=>K (a'.put oi.dst u) w'):=by
  intro u w h;by_cases hw:Region.wanted oj (yielded ops a.tmps)=true
  ·have hw':Region.wanted oj (yielded ops (a.put oi.dst u).tmps)=true:=by rw[wj u];exact hw
   cases mj with
   |pure=>rw[fv hw']at h;rw[fv hw];obtain⟨v,g1,g2⟩:=h;rw[cm]at g2;exact⟨v,λw'=>by rw[<-ej u];exact g1 w',g2⟩
   |read=>rw[kH hw']at h;rw[kH hw];obtain⟨v,g1,g2⟩:=h;rw[cm]at g2;exact⟨v,λw' hb=>by rw[<-ej u];exact g1 w' hb,g2⟩
   |aG=>rw[jL hw',ej u]at h;rw[jL hw];exact gk (λv w' g=>⟨g.1,by rw[<-cm];exact g.2⟩) h
   |free=>rw[ky hw',ej u]at h;rw[ky hw];exact gk (λv w' g=>by rw[<-cm];exact g) h
  ·have hw':¬Region.wanted oj (yielded ops (a.put oi.dst u).tmps)=true:=by rw[wj u];exact hw
   rw[iY hw',cm]at h;rw[iY hw];exact h
 have wi':Region.wanted oi (yielded ops a.tmps)=true->∀u,Region.wanted oi (yielded ops (a.put oj.dst u).tmps)=true:=λh u=>by rw[wi u];exact h
 have wj':Region.wanted oj (yielded ops a.tmps)=true->∀u,Region.wanted oj (yielded ops (a.put oi.dst u).tmps)=true:=λh u=>by rw[wj u];exact h
 have wjn:¬Region.wanted oj (yielded ops a.tmps)=true->∀u,¬Region.wanted oj (yielded ops (a.put oi.dst u).tmps)=true:=λh u=>by rw[wj u];exact h
 by_cases hwi:Region.wanted oi (yielded ops a.tmps)=true
 case neg=>
  rw[iY hwi]at h;refine oV (λv w' _ hK=> ?_) (jback undef w h);rw[iY (by rw[wi v];exact hwi)];exact hK
 case pos=>
  cases mi with
  |pure=>
   rw[fv hwi]at h;obtain⟨v,g1,g2⟩:=h;refine oV (λu w' _ hK=> ?_) (jback v w g2);rw[fv (wi' hwi u)];exact⟨v,λw''=>by rw[ei u];exact g1 w'',hK⟩
  |read=>
   rw[kH hwi]at h;obtain⟨v,g1,g2⟩:=h;have hmj:mj≠ .free:=by rintro rfl;cases hm
   refine oV (λu w' hb hK=> ?_) (jback v w g2);have hb':=hb hmj;rw[kH (wi' hwi u)];exact⟨v,λw'' hb''=>by rw[ei u];exact g1 w'' (hb'.trans (hb''.mono hb'.size)),hK⟩
  |aG=>
   have hmj:mj= .pure:=by cases mj<;>first|rfl|cases hm
   subst hmj;rw[jL hwi]at h;by_cases hwj:Region.wanted oj (yielded ops a.tmps)=true
   ·obtain⟨v0,w0,_,hb⟩:=sG h;rw[fv (wj' hwj v0)]at hb;obtain⟨vj,g1,_⟩:=hb;rw[fv hwj];refine⟨vj,λw'=>by rw[<-ej v0];exact g1 w',?_⟩;rw[jL (wi' hwi vj),ei vj];refine gk (λv w1 hr=> ?_) h;obtain⟨hbl,hr⟩:=hr;rw[fv (wj' hwj v)]at hr;obtain⟨v',g1',g2'⟩:=hr;have e1:=g1 w1;have e2:=g1' w1;rw[ej v0]at e1;rw[ej v,e1]at e2;obtain rfl:vj=v':=by simpa using e2
    exact⟨hbl,by rw[<-cm];exact g2'⟩
   ·rw[iY hwj,jL (wi' hwi undef),ei undef];refine gk (λv w1 hr=> ?_) h;obtain⟨hbl,hr⟩:=hr;rw[iY (wjn hwj v),cm]at hr;exact⟨hbl,hr⟩
  |free=>
   have hmj:mj= .pure:=by cases mj<;>first|rfl|cases hm
   subst hmj;rw[ky hwi]at h;by_cases hwj:Region.wanted oj (yielded ops a.tmps)=true
   ·obtain⟨v0,w0,hb⟩:=sG h;rw[fv (wj' hwj v0)]at hb;obtain⟨vj,g1,_⟩:=hb;rw[fv hwj];refine⟨vj,λw'=>by rw[<-ej v0];exact g1 w',?_⟩;rw[ky (wi' hwi vj),ei vj];refine gk (λv w1 hr=> ?_) h;rw[fv (wj' hwj v)]at hr;obtain⟨v',g1',g2'⟩:=hr;have e1:=g1 w1;have e2:=g1' w1;rw[ej v0]at e1;rw[ej v,e1]at e2;obtain rfl:vj=v':=by simpa using e2
    rw[<-cm];exact g2'
   ·rw[iY hwj,ky (wi' hwi undef),ei undef];refine gk (λv w1 hr=> ?_) h;rw[iY (wjn hwj v),cm]at hr;exact hr
def oI (ops:Array Oper):Prop:=∀(i:Nat) (o:Oper) (cs:Array SelectCase) (b:Bool),ops[i]?=some o->o.op≠Op.select cs b
theorem wU {Kend:Act->World->Prop} (hs:oI ops) {i:Nat} {m:Md} {oi:Oper} (hi:ops[i]?=some oi) {post:List (Nat×Md)}:
  ∀(pre:List (Nat×Md)) (a:Act) (w:World),(∀y∈pre,fw ops y (i,m)=true)->wr P ops Kend (pre++(i,m)::post) a w->du P ops m oi a w (wr P ops Kend (pre++post))
 | [],a,w,_,h=>by simpa[wr,hi]using h
 |(y,my)::pre,a,w,hp,h=>by
  simp only[List.cons_append,wr]at h;cases hy:ops[y]?with
  |none=>rw[hy]at h;exact h.elim
  |some oy=>
   rw[hy]at h;simp only at h;have h':du P ops my oy a w (λa w=>du P ops m oi a w (wr P ops Kend (pre++post))):=
    dY (λa w hh=>wU hs hi pre a w (λz hz=>hp z (List.mem_cons_of_mem _ hz)) hh) h
   have:=BZ hy hi (λcs b=>hs y oy cs b hy) (λcs b=>hs i oi cs b hi) (hp (y,my) (List.mem_cons_self ..)) h';refine dY (λa w hh=> ?_) this;simp only[List.cons_append,wr,hy];exact hh
def lG (ops:Array Oper):List (Nat×Md)->Bool
 | []=>true
 |i::σ=>(match ops[i.1]?with
  |some o=>o.after.all λe=> !Region.binds .any e||(Nat.blt e.on ops.size&& !Nat.beq e.on i.1&&σ.all λj=> !Nat.beq e.on j.1)
  |none=>false)&&lG ops σ
theorem og {x:Nat×Md}:∀ {σ τ:List (Nat×Md)},lG ops (σ++x::τ)=true->lG ops (σ++τ)=true
 | [],τ,h=>by simp only[List.nil_append,lG,Bool.and_eq_true]at h⊢;exact h.2
 |y::σ,τ,h=>by
  simp only[List.cons_append,lG,Bool.and_eq_true]at h⊢;refine⟨?_,og h.2⟩;have h1:=h.1;cases ho:ops[y.1]?with
  |none=>rw[ho]at h1;cases h1
  |some o=>
   rw[ho]at h1;simp only[Array.all_eq_true']at h1⊢;intro e he;have:=h1 e he;simp only[Bool.or_eq_true,Bool.and_eq_true,List.all_append,List.all_cons]at this⊢;rcases this with h2|h2
   ·exact .inl h2
   ·exact .inr ⟨h2.1,h2.2.1,h2.2.2.2⟩
theorem oT {i j:Nat} (h:(!Nat.beq i j)=true):i≠j:=by
 rintro rfl;simp at h
theorem uv {Q:Exit->Act->World->Prop} {Kend:Act->World->Prop} (hs:oI ops) (hQ:∀a w,Kend a w->Q .normal a w) (n:Nat):
  ∀(fuel:Nat) (σ:List (Nat×Md)) (listed:Array Bool) (a:Act) (w:World),σ.length<=fuel->listed.size=ops.size->closed ops listed->
   (∀i,listed.getD i true=false↔∃m,(i,m)∈σ)->gG ops n σ=true->lG ops σ=true->wr P ops Kend σ a w->wpAny P .any ops Q fuel listed a w:=by
 have hempty:∀(listed:Array Bool),(∀i,listed.getD i true=false↔∃m,(i,m)∈([]:List (Nat×Md)))->Region.ready .any ops listed=[]:=by
  intro listed hl;refine List.eq_nil_iff_forall_not_mem.2 λi hi=> ?_;have:=(hl i).1 (mem_ready.1 hi).1;obtain⟨m,hm⟩:=this;cases hm
 intro fuel;induction fuel with
 |zero=>
  intro σ listed a w hlen _ _ hl _ _ h;have:σ=[]:=List.eq_nil_of_length_eq_zero oO;subst this;exact⟨hempty listed hl,hQ _ _ h⟩
 |succ fuel ih=>
  intro σ listed a w hlen hsz hc hl hp ht h;refine⟨λhr=> ?_,λi hi=> ?_⟩
  ·--nothing is ready:nothing is left
   cases σ with
   |nil=>exact hQ _ _ h
   |cons x σ=>
    exfalso;have hx:x.1∈Region.ready .any ops listed:=by
     refine mem_ready.2 ⟨(hl x.1).2 ⟨x.2,List.mem_cons_self ..⟩,?_⟩;simp only[lG,Bool.and_eq_true]at ht;cases ho:ops[x.1]?with
     |none=>rw[ho]at ht;cases ht.1
     |some o=>
      rw[ho]at ht;refine⟨o,rfl,λe he hb=> ?_⟩;have:=Array.all_eq_true'.1 ht.1 e he;simp only[hb,Bool.not_true,Bool.false_or,Bool.and_eq_true]at this;obtain⟨⟨g1,g2⟩,g3⟩:=this;rw[Nat.blt_eq]at g1;have hnot:¬∃m,(e.on,m)∈x::σ:=by
       rintro⟨m,hm⟩;rcases List.mem_cons.1 hm with rfl|hm
       ·exact oT g2 rfl
       ·exact oT (List.all_eq_true.1 g3 _ hm) rfl
      have hne:listed.getD e.on true≠false:=λhf=>hnot ((hl e.on).1 hf);have hlt:e.on<listed.size:=oO;simp only[Array.getD,hlt,dite_true]at hne⊢;simpa using hne
    rw[hr]at hx;cases hx
  ·obtain⟨hun,oi,hoi,hdeps⟩:=mem_ready.1 hi;obtain⟨m,hm⟩:=(hl i).1 hun;obtain⟨pre,post,rfl⟩:=List.append_of_mem hm;have hnd:∀y∈pre,y.1≠i/\(j5 ops n i y.1=true\/fw ops y (i,m)=true):=by
    clear ih h hl hlen ht hm;induction pre with
    |nil=>intro y hy;cases hy
    |cons z pre ihp=>
     simp only[List.cons_append,gG,Bool.and_eq_true,List.all_append,List.all_cons]at hp;intro y hy;rcases List.mem_cons.1 hy with rfl|hy
     ·have h1:=hp.1.2.1;rw[Bool.or_eq_true]at h1;exact⟨oT h1.1,h1.2⟩
     ·exact ihp hp.2 y hy
   have hpost:∀y∈post,i≠y.1:=by
    clear ih h hl hlen ht hm hnd;induction pre with
    |nil=>
     simp only[List.nil_append,gG,Bool.and_eq_true]at hp;intro y hy;have:=List.all_eq_true.1 hp.1 y hy;simp only[Bool.and_eq_true]at this;exact oT this.1
    |cons z pre ihp=>
     simp only[List.cons_append,gG,Bool.and_eq_true]at hp;exact ihp hp.2
   have hsw:∀y∈pre,fw ops y (i,m)=true:=λy hy=>by
    rcases(hnd y hy).2 with h1|h1
    ·have h2:=uh hc n i y.1 (λo ho e he hb=>by rw[hoi]at ho;obtain rfl:=Option.some.inj ho;exact hdeps e he hb) h1;have h3:listed.getD y.1 true=false:=(hl y.1).2 ⟨y.2,by simp[hy]⟩;exfalso;rcases Nat.lt_or_ge y.1 listed.size with hlt|hlt
     ·simp only[Array.getD,hlt,dite_true]at h2 h3;rw[h2]at h3;cases h3
     ·simp[Array.getD,Nat.not_lt.2 hlt]at h2
    ·exact h1
   refine kL hoi (dY (λa w hh=> ?_) (wU hs hoi pre a w hsw h));have hilt:i<listed.size:=by
    rcases Nat.lt_or_ge i listed.size with h2|h2
    ·exact h2
    ·simp[Array.getD,Nat.not_lt.2 h2]at hun
   refine ih (pre++post) (listed.setIfInBounds i true) a w (by simp at hlen⊢;omega) (by simpa using hsz) ?_ ?_ (nt hp) (og ht) hh
   ·intro j o hj hjl e he hb;by_cases hji:j=i
    ·subst hji;rw[hoi]at hj;obtain rfl:=Option.some.inj hj;exact getD_set_true (hdeps e he hb)
    ·rw[getD_set_ne true (Ne.symm hji)]at hjl;exact getD_set_true (hc j o hj hjl e he hb)
   ·intro j;by_cases hji:j=i
    ·subst hji;constructor
     ·intro hf;simp[Array.getD,hilt]at hf
     ·rintro⟨m',hm'⟩;rcases List.mem_append.1 hm' with h1|h1
      ·exact absurd rfl (hnd _ h1).1
      ·exact absurd rfl (hpost _ h1)
    ·rw[getD_set_ne true (Ne.symm hji),hl j];constructor
     ·rintro⟨m',hm'⟩;refine⟨m',?_⟩;rcases List.mem_append.1 hm' with h1|h1
      ·simp[h1]
      ·rcases List.mem_cons.1 h1 with h2|h2
       ·exact absurd (congrArg Prod.fst h2) hji
       ·simp[h2]
     ·rintro⟨m',hm'⟩;refine⟨m',?_⟩;rcases List.mem_append.1 hm' with h1|h1
      ·simp[h1]
      ·simp[h1]
def zO (ops:Array Oper) (σ:List (Nat×Md)):Bool:=
 Nat.ble σ.length ops.size&&(List.range ops.size).all (λi=>σ.any λx=>Nat.beq x.1 i)&&σ.all (λx=>Nat.blt x.1 ops.size)&&gG ops ops.size σ&&lG ops σ&&
 ops.all λo=>match o.op with| .select .. =>false|_=>true
end
structure Wr (P:Program) (ops:Array Oper) (Kend:Act->World->Prop) (σ:List (Nat×Md)) (N:Nat) (ρ:Nat->Value) (w:World):Prop where
 out:wr P ops Kend σ (act N ρ) w
section
variable {P : Program} {N : Nat} {ρ : Nat → Value} {w0 w : World} {Q : Exit → Act → World → Prop} {ops : Array Oper} {H : List bQ} {Kend : Act → World → Prop} {i : Nat} {o : Oper} {σ : List (Nat × Md)}
theorem bk {id:Nat} {l:List Oper} (σ:List (Nat×Md)) (hm:P.follows .mixedOrders=true) (hchk:zO l.toArray σ=true) (hS:St w0 w H)
  (h:∀w',St w0 w' H->Below w.heap.size w w'->Wr P l.toArray (Q .normal) σ N ρ w'):(Code.region id l.toArray true).wp P Q (act N ρ) w:=by
 simp only[zO,Bool.and_eq_true]at hchk;obtain⟨⟨⟨⟨⟨h1,h2⟩,h3⟩,h4⟩,h5⟩,h6⟩:=hchk;have hs:oI l.toArray:=by
  intro i o cs b hi hsel;have:=Array.all_eq_true'.1 h6 o (Array.mem_of_getElem? hi);rw[hsel]at this;cases this
 have hbd:Below w.heap.size w {w with drawn:=w.drawn+1}:=(Below.refl _ w).drew;refine wp_region_any hm (uv hs (λ_ _ h=>h) l.toArray.size _ σ _ _ _ (Nat.le_of_ble_eq_true h1) (by simp) ?_ ?_ h4 h5 (h _ (hS.aG hbd) hbd).out)
 ·intro j o _ hl;by_cases hj:j<l.toArray.size
  ·rw[Array.getD,dif_pos (by simpa using hj)]at hl;simp at hl
  ·rename_i hjo;rw[Array.getElem?_eq_none oO]at hjo;cases hjo
 ·intro j;constructor
  ·intro hf;have hj:j<l.toArray.size:=by
    rcases Nat.lt_or_ge j l.toArray.size with hlt|hlt
    ·exact hlt
    ·simp at hlt;simp[Array.getD,Nat.not_lt.2 hlt]at hf
   have:=List.all_eq_true.1 h2 j (by simpa using hj);obtain⟨x,hx,hb⟩:=List.any_eq_true.1 this;exact⟨x.2,by rw[<-Nat.eq_of_beq_eq_true hb];exact hx⟩
  ·rintro⟨m,hm'⟩;have:=List.all_eq_true.1 h3 _ hm';rw[Nat.blt_eq]at this;simp at this;simp[Array.getD,this]
theorem sA (h:Kend (act N ρ) w):Wr P ops Kend [] N ρ w:=⟨h⟩
theorem bP {d:Option Tmp} {p:Op} {ty:TypeId} {pos:String} {aft:Array Edge} {g:Option (Nat×Bool)} (ho:ops[i]?=some ⟨d,p,ty,pos,aft,g⟩) (hg:gd ops N ρ g=true) (h:dp P N ρ ⟨d,p,ty,pos,aft,g⟩ λv=>Wr P ops Kend σ N (lH ρ d v) w):Wr P ops Kend ((i,.pure)::σ) N ρ w:=by
 constructor;simp only[wr,ho,du];rw[if_pos (gB ops N ρ ⟨d,p,ty,pos,aft,g⟩ hg),gg];obtain⟨v,h1,h2⟩:=h;exact⟨v,h1,by rw[gR];exact h2.out⟩
theorem eY {d:Option Tmp} {p:Op} {ty:TypeId} {pos:String} {aft:Array Edge} {g:Option (Nat×Bool)} (ho:ops[i]?=some ⟨d,p,ty,pos,aft,g⟩) (hg:gd ops N ρ g=true) (h:jP P N ρ w ⟨d,p,ty,pos,aft,g⟩ λv=>Wr P ops Kend σ N (lH ρ d v) w):Wr P ops Kend ((i,.read)::σ) N ρ w:=by
 constructor;simp only[wr,ho,du];rw[if_pos (gB ops N ρ ⟨d,p,ty,pos,aft,g⟩ hg),gg];obtain⟨v,h1,h2⟩:=h;exact⟨v,h1,by rw[gR];exact h2.out⟩
theorem tK {d:Option Tmp} {p:Op} {ty:TypeId} {pos:String} {aft:Array Edge} {g:Option (Nat×Bool)} (ho:ops[i]?=some ⟨d,p,ty,pos,aft,g⟩) (hg:gd ops N ρ g=true) (h:gZ P N ρ w ⟨d,p,ty,pos,aft,g⟩ λv w'=>Below w.heap.size w w'/\Wr P ops Kend σ N (lH ρ d v) w'):Wr P ops Kend ((i,.aG)::σ) N ρ w:=by
 constructor;simp only[wr,ho,du];rw[if_pos (gB ops N ρ ⟨d,p,ty,pos,aft,g⟩ hg),gg];simp only[gR];exact gk (λv w h=>⟨h.1,h.2.out⟩) h.out
theorem OO {d:Option Tmp} {p:Op} {ty:TypeId} {pos:String} {aft:Array Edge} {g:Option (Nat×Bool)} (ho:ops[i]?=some ⟨d,p,ty,pos,aft,g⟩) (hg:gd ops N ρ g=true) (h:gZ P N ρ w ⟨d,p,ty,pos,aft,g⟩ λv w'=>Wr P ops Kend σ N (lH ρ d v) w'):Wr P ops Kend ((i,.free)::σ) N ρ w:=by
 constructor;simp only[wr,ho,du];rw[if_pos (gB ops N ρ ⟨d,p,ty,pos,aft,g⟩ hg),gg];simp only[gR];exact gk (λv w h=>Wr.out h) h.out
theorem fD {m:Md} {d:Option Tmp} {p:Op} {ty:TypeId} {pos:String} {aft:Array Edge} {g:Option (Nat×Bool)} (ho:ops[i]?=some ⟨d,p,ty,pos,aft,g⟩) (hg:Nn ops N ρ g=true) (h:Wr P ops Kend σ N (lH ρ d undef) w):Wr P ops Kend ((i,m)::σ) N ρ w:=by
 constructor;simp only[wr,ho,du];rw[if_neg (by rw[vZ ops N ρ ⟨d,p,ty,pos,aft,g⟩ hg];decide),gR];exact h.out
end
section
variable {P : Program} {N : Nat} {ρ : Nat → Value} {w0 w : World} {H : List bQ} {k b : Nat} {t : TypeId} {cs : List Value}
theorem Ay {fn:Func} {t u v:Nat} {R:Value->World->Prop} {x y z:Value} (hr:fn.results= #[.tmp t,.tmp u,.tmp v]) (hx:ev N ρ (.tmp t)=x) (hy:ev N ρ (.tmp u)=y) (hz:ev N ρ (.tmp v)=z) (h:R (.tuple #[x,y,z]) w):
  bodyPost P fn (λe w'=>∃v,e= .returned v/\R v w') .ret (act N ρ) w:=
 bodyPost_ret (results_tmp3 hr _ _ _) rfl ⟨_,rfl,by rw[fI,fI,fI,hx,hy,hz];exact h⟩
theorem St.cast {H':List bQ} (h:St w0 w H) (e:H=H'):St w0 w H':=e▸h
theorem St.loadVar {n:Nat} {zz:List Value} {ty:TypeId} (hS:St w0 w H) (hk:H[k]?=some (b,t,cs)) (ht:da P ty=some (n,true,zz)) (hn:cs.length=n):
  (Go.loadVar ty ⟨b,0,none⟩).run P w= .ok (.agg cs.toArray) w:=by
 obtain⟨i,dd,zv,hi,hu,_,hs,hag,_⟩:=jV ht;exact run_loadVar_row w b t ty cs.toArray (0,0) dd (hS.get hk) hu (by cases dd<;>first|rfl|cases hag) (by rw[hi];simp[hs,hn])
theorem dx {fn:Func} {p n:Nat} {ty:TypeId} {zz:List Value} {R:Value->World->Prop} (hr:fn.results= #[.cell p ty]) (hp:ev N ρ (.tmp p)= .pointer (some ⟨b,0,none⟩)) (ht:da P ty=some (n,true,zz))
  (hS:St w0 w H) (hk:H[k]?=some (b,t,cs)) (hn:cs.length=n) (h:R (.agg cs.toArray) w):
  bodyPost P fn (λe w'=>∃v,e= .returned v/\R v w') .ret (act N ρ) w:=by
 refine bodyPost_ret (v:= .agg cs.toArray) ?_ rfl ⟨_,rfl,h⟩;obtain⟨i,dd,zv,hi,hu,_,hs,hag,_⟩:=jV ht;exact results_cell_row hr _ w b t cs.toArray (0,0) dd (by rw[fI,hp]) (hS.get hk) hu (by cases dd<;>first|rfl|cases hag) (by rw[hi];simp[hs,hn])
theorem eV {fn:Func} {p u n:Nat} {ty:TypeId} {zz:List Value} {y:Value} {R:Value->World->Prop} (hr:fn.results= #[.cell p ty,.tmp u]) (hp:ev N ρ (.tmp p)= .pointer (some ⟨b,0,none⟩)) (hy:ev N ρ (.tmp u)=y) (ht:da P ty=some (n,true,zz))
  (hS:St w0 w H) (hk:H[k]?=some (b,t,cs)) (hn:cs.length=n) (h:R (.tuple #[.agg cs.toArray,y]) w):
  bodyPost P fn (λe w'=>∃v,e= .returned v/\R v w') .ret (act N ρ) w:=by
 refine bodyPost_ret (v:= .tuple #[.agg cs.toArray,y]) ?_ rfl ⟨_,rfl,h⟩;rw[results_cell_tmp hr,fI,fI,hp,hy];have hl:=hS.loadVar hk ht hn;simp only[asAddr,Sem.run_pure,Result.andThen_ok];rw[hl];simp[Result.andThen]
end
theorem St.join {w0 w1 w2:World} {H0 H1:List bQ} (h0:St w0 w1 H0) (h1:St w1 w2 H1):St w0 w2 (H1++H0):=by
 refine⟨h0.ab.trans (h1.ab.mono h0.ab.size),λe he=> ?_,?_⟩
 ·rcases List.mem_append.1 he with h|h
  ·exact⟨Nat.le_trans h0.ab.size (h1.own e h).1,(h1.own e h).2⟩
  ·exact⟨(h0.own e h).1,by rw[h1.ab.block _ (h0.lt h)];exact(h0.own e h).2⟩
 ·rw[List.map_append,List.nodup_append];refine⟨h1.nd,h0.nd,?_⟩;rintro a ha b hb rfl;obtain⟨x,hx,rfl⟩:=List.mem_map.1 ha;obtain⟨y,hy,hyx⟩:=List.mem_map.1 hb;have:=(h1.own x hx).1;have:=h0.lt hy;omega
def Gl {α:Type} (enc:α->List Value) (e:TypeId) (size:Nat) (v:Value) (X:List α) (L:List bQ):Prop:=Gs e size v X.length (X.flatMap enc) L
section
variable {α : Type} {enc : α → List Value} {e : TypeId} {size : Nat} {w0 w : World} {H L : List bQ} {X : List α} {v : Value}
theorem Gl.nil (enc:α->List Value) (e:TypeId) (size:Nat):Gl enc e size (.slice none 0 0) [] []:=Gs.nil e size
theorem Gl.sl (hG:Gl enc e size v X L) (hS:St w0 w (H++L)) (hu:∀x,(enc x).length=size):Sl enc size w v X:=by
 obtain⟨hX,⟨rfl,h0,_⟩|⟨b,cap,spare,rfl,rfl,h1,h2,h3⟩⟩:=hG
 ·obtain rfl:X=[]:=List.eq_nil_of_length_eq_zero h0;exact Sl.nil _ _ _
 ·exact(hS.perm List.perm_append_comm).sl (k:=0) (b:=b) (t:=e) (cs:=X.flatMap enc++spare) rfl rfl hu h1 h2
theorem Gl.Kx {z:List Value} {n b:Nat} (hz:z.length=size) (hn:n<=9223372036854775807):Gl enc e size (.slice (some ⟨b,0,none⟩) 0 n) [] [(b,e,rep n z)]:=by
 refine⟨by simp,.inr ⟨b,n,rep n z,rfl,rfl,Nat.zero_le _,by unfold Go.maxLen;omega,?_⟩⟩;simp[xL,hz]
theorem Gl.len (hG:Gl enc e size v X L):∃a cap,v= .slice a X.length cap:=by
 obtain⟨_,⟨rfl,h0,_⟩|⟨b,cap,spare,rfl,_⟩⟩:=hG
 ·exact⟨none,0,by rw[h0]⟩
 ·exact⟨_,_,rfl⟩
end
section
variable {P : Program} {N : Nat} {ρ : Nat → Value} {w0 w w' : World} {d : Option Tmp} {ty : TypeId} {pos : String} {aft : Array Edge} {g : Option (Nat × Bool)} {x y z : Operand} {t t' e : TypeId} {H L : List bQ} {b : Nat} {cs : List Value} {v : Value} {K2 : Value → World → Prop}
theorem dK {α:Type} {enc:α->List Value} {size bytes c:Nat} {zz:List Value} {X:List α} (xs:List α) {xv:Value} (hx:ev N ρ x=v) (hy:ev N ρ y=xv) (ht:sinfo P t=some (e,size,bytes,zz)) (hsz:0<size)
  (hG:Gl enc e size v X L) (hS:St w0 w ((b,t',cs)::(H++L))) (hxv:xv= .slice (some ⟨b,0,none⟩) xs.length c) (hcs:cs=xs.flatMap enc) (hu:∀x,(enc x).length=size) (h1:∀u∈cs,u.oneCell'=true)
  (h63:X.length+xs.length<=9223372036854775807) (hb:(X.length+xs.length)*bytes<=140737488355328)
  (h:∀v' L' w',Gl enc e size v' (X++xs) L'->St w0 w' (H++L')->w.heap.size<=w'.heap.size->K2 v' w'):
  gZ P N ρ w ⟨d,.call ⟨.builtin .append,#[x,y],#[t,t]⟩,ty,pos,aft,g⟩ K2:=by
 have hat:=hS.at (k:=0) (b:=b) (t:=t') (cs:=cs) rfl 0 cs.length;rw[List.drop_zero,List.take_length]at hat;refine NE hx hy ht hsz hG (hS.perm ((List.Perm.cons _ List.perm_append_comm).trans List.perm_middle.symm)) hxv (by rw[hcs,cQ hu]) hat h1 h63 hb (λv' L' w' hG' hS' _ hge=> ?_);refine h v' L' w' ?_ (((hS'.perm List.perm_middle).drop (List.sublist_cons_self _ _)).perm List.perm_append_comm) hge;unfold Gl;rw[List.length_append,List.flatMap_append,<-hcs];exact hG'
theorem Ph (k:IntKind) (xs:List Nat):∀u∈xs.flatMap (uk k),u.oneCell'=true:=by
 intro u hu;obtain⟨x,_,hx⟩:=List.mem_flatMap.1 hu;rw[List.mem_singleton.1 hx];rfl
theorem OL {el t'':TypeId} {X:List Nat} {K:Value->Prop} (hx:ev N ρ x=v) (ht:P.underlying t=some (.slice el)/\P.underlying el=some (.int .u8)/\P.underlying t''=some .string) (hG:Gl (uk .u8) e 1 v X L) (hS:St w0 w (H++L))
  (h:K (.string (ry X))):jP P N ρ w ⟨d,.convert t t'' x,ty,pos,aft,g⟩ K:=by
 obtain⟨hX,⟨rfl,h0,rfl⟩|⟨b,cap,spare,rfl,rfl,h1,h2,h3⟩⟩:=hG
 ·obtain rfl:X=[]:=List.eq_nil_of_length_eq_zero h0;refine⟨_,λw' hb=> ?_,h⟩;simp[execOp,hx,run_convert_bytes_string w' t t'' el none 0 0 ht.1 ht.2.1 ht.2.2,Conv.bytesToString,ry];rfl
 ·refine NA hx ht rfl ?_ h;have hat:=(hS.perm List.perm_append_comm).at (k:=0) (b:=b) (t:=e) (cs:=X.flatMap (uk .u8)++spare) rfl 0 (X.flatMap (uk .u8)).length;rw[List.drop_zero,List.take_left]at hat;rw[FW];exact hat
theorem Iu {α:Type} {enc:α->List Value} {sz by_ n:Nat} {zz:List Value} {kl kc:IntKind} {ml mc:Int} (hx:ev N ρ x= .int kl ml) (hy:ev N ρ y= .int kc mc) (ht:sinfo P t=some (e,sz,by_,zz)) (hml:ml=0) (hmc:mc=(n:Int))
  (h1:by_*n<=281474976710656) (h2:n<=9223372036854775807) (hS:St w0 w H)
  (h:∀v L w',Gl enc e sz v [] L->St w0 w' (H++L)->Below w.heap.size w w'->K2 v w'):
  gZ P N ρ w ⟨d,.makeSlice t x y,ty,pos,aft,g⟩ K2:=by
 obtain⟨_,_,_,_,_,_,_,_,hzl⟩:=dJ ht;exact KI hx hy ht hml hmc h1 h2 hS (λb w' hS' hB=>h _ [(b,e,rep n zz)] w' (Gl.Kx hzl h2) (hS'.perm (List.perm_append_comm (l₁:=[(b,e,rep n zz)]))) hB)
end
section
variable {α : Type} {enc : α → List Value} {size : Nat}
theorem zm (hu:∀x,(enc x).length=size) (L:List α) (i:Nat):(L.flatMap enc).drop (i*size)=(L.drop i).flatMap enc:=by
 induction L generalizing i with
 |nil=>simp
 |cons x L ih=>
  cases i with
  |zero=>simp
  |succ i=>
   rw[List.flatMap_cons,List.drop_append,hu,List.drop_eq_nil_of_le (by rw[hu,Nat.add_mul];omega),List.nil_append,List.drop_succ_cons,<-ih i];congr 1;rw[Nat.add_mul];omega
theorem nz (hu:∀x,(enc x).length=size) (L:List α) (i:Nat):(L.flatMap enc).take (i*size)=(L.take i).flatMap enc:=by
 induction L generalizing i with
 |nil=>simp
 |cons x L ih=>
  cases i with
  |zero=>simp
  |succ i=>
   rw[List.flatMap_cons,List.take_append,hu,List.take_of_length_le (by rw[hu,Nat.add_mul];omega),List.take_succ_cons,List.flatMap_cons,<-ih i];congr 2;rw[Nat.add_mul];omega
theorem yJ (hu:∀x,(enc x).length=size) (L:List α) (d:α) {i:Nat} (hi:i<L.length):((L.flatMap enc).drop (i*size)).take size=enc (L.getD i d):=by
 rw[zm hu,List.drop_eq_getElem_cons hi,List.flatMap_cons,List.take_append,List.take_of_length_le (by rw[hu];exact Nat.le_refl _),hu,Nat.sub_self,List.take_zero,List.append_nil];rw[List.getD_eq_getElem?_getD,List.getElem?_eq_getElem hi];rfl
theorem py (hu:∀x,(enc x).length=size) (L:List α) (x:α) {i:Nat} (hi:i<L.length):splice (L.flatMap enc) (i*size) (enc x)=(L.set i x).flatMap enc:=by
 unfold splice;rw[nz hu,hu,show i*size+size=(i+1)*size by rw[Nat.add_mul];omega,zm hu,List.set_eq_take_append_cons_drop,if_pos hi,List.flatMap_append,List.flatMap_cons,List.append_assoc]
theorem CF (z:α) (n:Nat):rep n (enc z)=(List.replicate n z).flatMap enc:=by
 induction n with
 |zero=>rfl
 |succ n ih=>rw[pg,ih];rfl
end
section
variable {w0 w : World} {H : List bQ} {b k : Nat} {t : TypeId}
theorem St.sle {α:Type} {enc:α->List Value} {size:Nat} {L:List α} (h:St w0 w H) (hk:H[k]?=some (b,t,L.flatMap enc)) (hu:∀x,(enc x).length=size) {n cap:Nat} (hn:n<=L.length) (h1:n<=cap) (h2:cap<=9223372036854775807):
  Sl enc size w (.slice (some ⟨b,0,none⟩) n cap) (L.take n):=by
 have hl:(L.take n).length=n:=by simp;omega
 have:=h.sl (enc:=enc) (size:=size) (L:=L.take n) (spare:=(L.drop n).flatMap enc) (cap:=cap) hk (by rw[<-List.flatMap_append,List.take_append_drop]) hu (by rw[hl];exact h1) (by unfold Go.maxLen;omega);rwa[hl]at this
end
section
variable {P : Program} {N : Nat} {ρ : Nat → Value} {w0 w w' : World}
  {d : Option Tmp} {ty : TypeId} {pos : String} {aft : Array Edge} {g : Option (Nat × Bool)} {x y z : Operand} {t t' e : TypeId} {H : List bQ} {k b o : Nat} {v : Value} {K : Value → Prop} {K2 : Value → World → Prop}
theorem M4 {α:Type} {enc:α->List Value} {size:Nat} {L:List α} {i:Nat} {zz:List Value} {agg:Bool} (dd:α) (hu:∀x,(enc x).length=size) (hx:ev N ρ x= .pointer (some ⟨b,o,none⟩)) (ht:da P t=some (size,agg,zz)) (hS:St w0 w H) (hk:H[k]?=some (b,t',L.flatMap enc))
  (ho:o=i*size) (hi:i<L.length) (hv:MG agg (enc (L.getD i dd))=v) (hagg:agg=true\/size=1) (h:K v):jP P N ρ w ⟨d,.load t x,ty,pos,aft,g⟩ K:=by
 subst ho;have hat:=hS.at hk (i*size) size;rw[yJ hu L dd hi]at hat;exact iQ hx ht hat (hu _) hv hagg h
theorem sa {α:Type} {enc:α->List Value} {size:Nat} {L:List α} {i:Nat} {zz:List Value} {agg:Bool} (u:α) (hu:∀x,(enc x).length=size) (hx:ev N ρ x= .pointer (some ⟨b,o,none⟩)) (hy:ev N ρ y=v) (ht:da P t=some (size,agg,zz)) (hS:St w0 w H) (hk:H[k]?=some (b,t',L.flatMap enc))
  (ho:o=i*size) (hi:i<L.length) (hv:v.cells.toList=enc u) (h1:(enc u).all (·.oneCell')=true)
  (h:∀w',St w0 w' (H.set k (b,t',(L.set i u).flatMap enc))->K2 undef w'):gZ P N ρ w ⟨d,.store t x y,ty,pos,aft,g⟩ K2:=by
 subst ho;refine cO hx hy ht hS hk hv (hu u) ?_ h1 (λw' hS'=> ?_)
 ·rw[cQ hu];have:(i+1)*size<=L.length*size:=Nat.mul_le_mul_right _ hi;rw[Nat.add_mul]at this;omega
 ·rw[py hu L u hi]at hS';exact h w' hS'
theorem de {α:Type} {enc:α->List Value} {size by_ n:Nat} {zz:List Value} {kl kc:IntKind} {ml mc:Int} (zd:α) (hx:ev N ρ x= .int kl ml) (hy:ev N ρ y= .int kc mc) (ht:sinfo P t=some (e,size,by_,zz)) (hz:zz=enc zd) (hml:ml=(n:Int)) (hmc:mc=(n:Int))
  (h1:by_*n<=281474976710656) (h2:n<=9223372036854775807) (hS:St w0 w H)
  (h:∀b w',St w0 w' ((b,e,(List.replicate n zd).flatMap enc)::H)->Below w.heap.size w w'->K2 (.slice (some ⟨b,0,none⟩) n n) w'):
  gZ P N ρ w ⟨d,.makeSlice t x y,ty,pos,aft,g⟩ K2:=by
 refine tD hx hy ht hml hmc h1 h2 hS (λb w' hS' hB=> ?_);rw[hz,CF]at hS';exact h b w' hS' hB
end
theorem Je {a:Addr} (h:a.spot=none) (n:Nat):(a.add n).spot=none:=by
 obtain⟨b,o,s⟩:=a;subst h;rw[add_lit]
theorem At.sub {w:World} {a:Addr} {cs:List Value} (hs:a.spot=none) (h:At w a cs) (k n:Nat):At w (a.add k) ((cs.drop k).take n):=by
 obtain⟨b,o,s⟩:=a;subst hs;rw[add_lit];exact h.seg k n
section
variable {P : Program} {N : Nat} {ρ : Nat → Value} {w : World}
  {d : Option Tmp} {ty : TypeId} {pos : String} {aft : Array Edge} {g : Option (Nat × Bool)} {x : Operand} {t : TypeId} {v : Value} {K : Value → Prop}
theorem dZ {α:Type} {enc:α->List Value} {size:Nat} {L:List α} (hS:Sl enc size w v L) (hu:∀x,(enc x).length=size) (hs:0<size) {i:Nat} (hi:i<L.length):((mx v).add (i*size)).spot=none:=
 Je (hS.spot hu hs oO) _
theorem fL {f off:Nat} {a:Addr} (hx:ev N ρ x= .pointer (some a)) (hs:a.spot=none) (hf:fT P t f=some off) (h:K (.pointer (some (a.add off)))):
  dp P N ρ ⟨d,.fieldAddr t x f,ty,pos,aft,g⟩ K:=by
 obtain⟨b,o,s⟩:=a;subst hs;rw[add_lit]at h;exact cx hx hf h
theorem fJ {α:Type} {enc:α->List Value} {size:Nat} {L:List α} {i off m:Nat} {agg:Bool} {zz:List Value} {vs:Value} (dd:α) (hx:ev N ρ x= .pointer (some (((mx vs).add (i*size)).add off))) (ht:da P t=some (m,agg,zz))
  (hS:Sl enc size w vs L) (hu:∀x,(enc x).length=size) (hs:0<size) (hi:i<L.length) (hn:(((enc (L.getD i dd)).drop off).take m).length=m) (hv:MG agg (((enc (L.getD i dd)).drop off).take m)=v) (hagg:agg=true\/m=1)
  (h:K v):jP P N ρ w ⟨d,.load t x,ty,pos,aft,g⟩ K:=
 iQ hx ht (At.sub (dZ hS hu hs hi) (hS.at hi dd) off m) hn hv hagg h
end
open Go
def cF (b:Nat):List Nat->Nat
 | []=>0
 |d::l=>d+b*cF b l
def mf (b n:Nat):List Nat:=
 if _h:n=0\/b<2 then []else n%b::mf b (n/b)
termination_by n
decreasing_by
  have h1 : n ≠ 0 := fun e => _h (.inl e)
  exact Nat.div_lt_self (by omega) (by omega)
theorem fq (b:Nat):mf b 0=[]:=by rw[mf];simp
theorem nB {b n:Nat} (hb:2<=b) (hn:0<n):mf b n=n%b::mf b (n/b):=by
 rw[mf,dif_neg oO]
theorem kS {b:Nat} (hb:2<=b) (n:Nat):cF b (mf b n)=n:=by
 induction n using Nat.strongRecOn with
 |_ n ih=>
  rcases Nat.eq_zero_or_pos n with rfl|hn
  ·rw[fq];rfl
  ·rw[nB hb hn,cF,ih _ (Nat.div_lt_self hn oO)];exact Nat.mod_add_div n b
theorem ru {b:Nat} (hb:2<=b) (n:Nat):∀d∈mf b n,d<b:=by
 induction n using Nat.strongRecOn with
 |_ n ih=>
  rcases Nat.eq_zero_or_pos n with rfl|hn
  ·rw[fq];intro d hd;cases hd
  ·rw[nB hb hn];intro d hd;rcases List.mem_cons.1 hd with rfl|hd
   ·exact Nat.mod_lt _ oO
   ·exact ih _ (Nat.div_lt_self hn oO) d hd
theorem mb {b:Nat} (l:List Nat) (h:∀d∈l,d<b):cF b l<b^l.length:=by
 induction l with
 |nil=>simp[cF]
 |cons d l ih=>
  have h1:=ih (λx hx=>h x (List.mem_cons_of_mem _ hx));have h2:=h d (List.mem_cons_self ..);rw[cF,List.length_cons,Nat.pow_succ,Nat.mul_comm (b^l.length) b];have:b*(cF b l+1)<=b*b^l.length:=Nat.mul_le_mul_left _ h1;rw[Nat.mul_add]at this;omega
theorem kP (b:Nat) (l m:List Nat):cF b (l++m)=cF b l+b^l.length*cF b m:=by
 induction l with
 |nil=>simp[cF]
 |cons d l ih=>
  rw[List.cons_append,cF,ih,cF,List.length_cons,Nat.pow_succ,Nat.mul_add,Nat.mul_comm (b^l.length) b,Nat.mul_assoc,Nat.add_assoc]
theorem sL (b n:Nat):cF b (List.replicate n 0)=0:=by
 induction n with
 |zero=>rfl
 |succ n ih=>rw[List.replicate_succ,cF,ih];simp
def trimmed (l:List Nat):Prop:=l.getLast?≠some 0
theorem kt {b:Nat} (hb:2<=b):∀(l:List Nat),trimmed l->l≠ []->0<cF b l
 | [],_,h=>absurd rfl h
 | [d],h,_=>by
  simp only[trimmed,List.getLast?_singleton,ne_eq,Option.some.injEq]at h;simp only[cF];omega
 |d::e::l,h,_=>by
  have h':trimmed (e::l):=by simpa[trimmed,List.getLast?_cons_cons]using h
  have:=kt hb (e::l) h' (by simp);rw[cF];have:0<b*cF b (e::l):=Nat.mul_pos oO this;omega
theorem pC {b:Nat} (hb:2<=b):∀(l:List Nat),(∀d∈l,d<b)->trimmed l->mf b (cF b l)=l
 | [],_,_=>by rw[cF,fq]
 |d::l,h,ht=>by
  have hd:=h d (List.mem_cons_self ..);have hpos:=kt hb (d::l) ht (by simp);have hl:trimmed l:=by
   cases l with
   |nil=>simp[trimmed]
   |cons e l=>simpa[trimmed,List.getLast?_cons_cons]using ht
  rw[nB hb hpos,cF];have h1:(d+b*cF b l)%b=d:=by rw[Nat.add_mul_mod_self_left];exact Nat.mod_eq_of_lt hd
  have h2:(d+b*cF b l)/b=cF b l:=by
   rw[Nat.add_mul_div_left _ _ oO,Nat.div_eq_of_lt hd,Nat.zero_add]
  rw[h1,h2,pC hb l (λx hx=>h x (List.mem_cons_of_mem _ hx)) hl]
theorem ob {b:Nat} (hb:2<=b) (l:List Nat) (n:Nat) (h:∀d∈l,d<b) (hn:n<=l.length) (hz:∀i,n<=i->i<l.length->l.getD i 0=0) (hl:n=0\/l.getD (n-1) 0≠0):
  l.take n=mf b (cF b l):=by
 have hsplit:l=l.take n++List.replicate (l.length-n) 0:=by
  conv=>lhs;rw[<-List.take_append_drop n l]
  congr 1;apply List.ext_getElem
  ·simp
  ·intro i h1 h2;simp only[List.getElem_drop,List.getElem_replicate];have:=hz (n+i) oO (by simp at h1;omega);rwa[List.getD_eq_getElem?_getD,List.getElem?_eq_getElem (by simp at h1;omega)]at this
 have hv:cF b l=cF b (l.take n):=by
  conv=>lhs;rw[hsplit]
  rw[kP,sL];simp
 rw[hv,pC hb _ (λd hd=>h d (List.mem_of_mem_take hd))];unfold trimmed;rcases hl with rfl|hl
 ·simp
 ·rcases Nat.eq_zero_or_pos n with rfl|hp
  ·simp
  ·rw[List.getLast?_eq_getElem?,List.length_take,Nat.min_eq_left hn,List.getElem?_take,if_pos oO];intro h0;rw[List.getD_eq_getElem?_getD,h0]at hl;exact hl rfl
theorem iO {b:Nat} (hb:2<=b):∀(k n:Nat),n<b^k->(mf b n).length<=k:=by
 intro k;induction k with
 |zero=>intro n hn;simp at hn;subst hn;rw[fq];simp
 |succ k ih=>
  intro n hn;rcases Nat.eq_zero_or_pos n with rfl|hp
  ·rw[fq];simp
  ·rw[nB hb hp,List.length_cons];have:=ih (n/b) (by rw[Nat.div_lt_iff_lt_mul oO];rw[Nat.pow_succ]at hn;exact hn);omega
theorem eo {b:Nat} (hb:2<=b) (n:Nat):n<b^(mf b n).length:=by
 have:=mb (mf b n) (ru hb n);rwa[kS hb]at this
theorem ft {b m n:Nat} (hb:2<=b) (h:m<=n):(mf b m).length<=(mf b n).length:=
 iO hb _ _ (Nat.lt_of_le_of_lt h (eo hb n))
theorem ks {b n k:Nat} (hb:2<=b) (h:k<(mf b n).length):b^k<=n:=by
 rcases Nat.lt_or_ge n (b^k)with h1|h1
 ·have:=iO hb k n h1;omega
 ·exact h1
theorem uu {b n:Nat} (hb:2<=b):mf b n=[]↔n=0:=by
 constructor
 ·intro h;have:=kS hb n;rw[h]at this;exact this.symm
 ·rintro rfl;exact fq b
def gf (s:ByteArray):List Nat:=s.data.toList.map UInt8.toNat
def val (s:ByteArray):Nat:=cF 256 (gf s).reverse
def bB (n:Nat):ByteArray:=ry (mf 256 n).reverse
theorem oU (l:List Nat) (h:∀d∈l,d<256):gf (ry l)=l:=by
 unfold gf ry;simp only[List.map_map];conv=>rhs;rw[<-List.map_id l]
 apply List.map_congr_left;intro d hd;simp only[Function.comp,id];rw[UInt8.toNat_ofNat'];exact Nat.mod_eq_of_lt (h d hd)
theorem Cm (s:ByteArray):ry (gf s)=s:=by
 cases s with
 |mk a=>
  unfold gf ry;simp only[List.map_map];congr 1;apply Array.ext';simp only;conv=>rhs;rw[<-List.map_id a.toList]
  apply List.map_congr_left;intro x _;simp
theorem tT (s:ByteArray):∀d∈gf s,d<256:=by
 intro d hd;obtain⟨x,_,rfl⟩:=List.mem_map.1 hd;exact x.toNat_lt
theorem iz (s:ByteArray):(gf s).length=s.size:=by unfold gf;rw[List.length_map,Array.length_toList];rfl
theorem bX (n:Nat):val (bB n)=n:=by
 unfold val bB;rw[oU _ (λd hd=>ru dD n d (List.mem_reverse.1 hd)),List.reverse_reverse,kS dD]
theorem xo {m n:Nat} (h:bB m=bB n):m=n:=by rw[<-bX m,h,bX]
theorem I9 (l:List Nat) (h:∀d∈l,d<256):val (ry l)=cF 256 l.reverse:=by unfold val;rw[oU l h]
theorem kI (n:Nat):(bB n).size=(mf 256 n).length:=by
 rw[<-iz,bB,oU _ (λd hd=>ru dD n d (List.mem_reverse.1 hd)),List.length_reverse]
theorem zE (s:ByteArray):val s<256^s.size:=by
 have:=mb (b:=256) (gf s).reverse (λd hd=>tT s d (List.mem_reverse.1 hd));rwa[List.length_reverse,iz]at this
theorem i3 (s:ByteArray):(bB (val s)).size<=s.size:=by rw[kI];exact iO dD _ _ (zE s)
theorem yw:bB 0=ByteArray.empty:=by unfold bB;rw[fq];rfl
theorem x8 {n:Nat}:bB n=ByteArray.empty↔n=0:=by
 rw[<-yw];exact⟨λh=>xo h,λh=>by rw[h]⟩
theorem oW:bB 1=⟨#[1]⟩:=by
 unfold bB;rw[nB dD dD,show 1/256=0 from rfl,fq];rfl
abbrev ap:Nat:=4294967296
def bH (n:Nat):List Nat:=mf ap n
theorem cK {n k:Nat} (h:n<256^k):(bB n).size<=k:=by rw[kI];exact iO dD _ _ h
theorem iZ (n:Nat):n<256^(bB n).size:=by rw[kI];exact eo dD n
theorem db {m n:Nat} (h:m<=n):(bB m).size<=(bB n).size:=cK (Nat.lt_of_le_of_lt h (iZ n))
theorem cS (m n:Nat):(bB (m*n)).size<=(bB m).size+(bB n).size:=by
 refine cK ?_;rw[Nat.pow_add];have h1:=iZ m;have h2:=iZ n;exact Nat.mul_lt_mul_of_lt_of_le h1 (Nat.le_of_lt h2) (Nat.lt_of_le_of_lt (Nat.zero_le _) h2)
theorem np (m n:Nat):(bB (m+n)).size<=max (bB m).size (bB n).size+1:=by
 refine cK ?_;have h1:m<256^max (bB m).size (bB n).size:=Nat.lt_of_lt_of_le (iZ m) (Nat.pow_le_pow_right dD (Nat.le_max_left _ _));have h2:n<256^max (bB m).size (bB n).size:=Nat.lt_of_lt_of_le (iZ n) (Nat.pow_le_pow_right dD (Nat.le_max_right _ _));rw[Nat.pow_succ];omega
theorem iD:(bB 1).size=1:=by rw[oW];rfl
theorem ns {n:Nat} (h:0<n):1<=(bB n).size:=by
 have:=db (m:=1) (n:=n) h;rwa[iD]at this
theorem qC:val ⟨#[1]⟩=1:=by rw[<-oW,bX]
theorem fR {n:Nat}:bB n=⟨#[]⟩↔n=0:=x8
theorem KK:val ⟨#[]⟩=0:=rfl
structure RR where
 neg:Bool
 num:ByteArray
 den:ByteArray
 deriving DecidableEq
def ae (r:RR):List Value:=[.bool r.neg,.string r.num,.string r.den]
def cw (r:RR):Value:= .agg #[.bool r.neg,.string r.num,.string r.den]
theorem aK:∀r,(ae r).length=3:=λ_=>rfl
def sg (b:Bool) (n:Nat):Int:=if b then-(n:Int)else n
theorem y7 (b:Bool) (n:Nat):(sg b n).natAbs=n:=by unfold sg;split<;>simp
def aj (q:Rat):RR:=⟨decide (q.num<0),bB q.num.natAbs,if q.den=1 then⟨#[]⟩else bB q.den⟩
def dv (s:ByteArray):Nat:=if s=⟨#[]⟩then 1 else val s
def GS (r:RR):Rat:=mkRat (sg r.neg (val r.num)) (dv r.den)
def EK (r:RR):Prop:=aj (GS r)=r
instance (r:RR):Decidable (EK r):=inferInstanceAs (Decidable (aj (GS r)=r))
def toQ (r:RR):Rat:=if EK r then GS r else 0
def fx (r:RR):RR:=aj (toQ r)
theorem MU {d:Nat} (h:d≠0):dv (if d=1 then⟨#[]⟩else bB d)=d:=by
 unfold dv;by_cases h1:d=1
 ·simp[h1]
 ·rw[if_neg h1,if_neg (by rw[fR];exact h),bX]
theorem CI (q:Rat):GS (aj q)=q:=by
 unfold GS aj;simp only;rw[MU q.den_nz,bX];have:sg (decide (q.num<0)) q.num.natAbs=q.num:=by
  unfold sg;by_cases h:q.num<0<;>simp[h]<;>omega
 rw[this,Rat.mkRat_self]
theorem EV (q:Rat):EK (aj q):=by unfold EK;rw[CI]
@[simp] theorem toQ_ofQ (q:Rat):toQ (aj q)=q:=by unfold toQ;rw[if_pos (EV q),CI]
theorem zF {r:RR} (h:EK r):aj (toQ r)=r:=by unfold toQ;rw[if_pos h];exact h
theorem O5 {r:RR} (h:EK r):fx r=r:=zF h
theorem gm:aj 0=⟨false,⟨#[]⟩,⟨#[]⟩⟩:=by
 unfold aj;simp only[Rat.zero_num,Rat.zero_den,if_true];rw[show(0:Int).natAbs=0 from rfl,fR.2 rfl];rfl
theorem zM {r:RR} (h:¬EK r):toQ r=0:=by unfold toQ;rw[if_neg h]
theorem N2 {r:RR} (h:¬EK r):fx r=⟨false,⟨#[]⟩,⟨#[]⟩⟩:=by unfold fx;rw[zM h,gm]
theorem li {q:Rat}:(aj q).num=⟨#[]⟩↔q=0:=by
 show bB q.num.natAbs=_↔_;rw[fR,Int.natAbs_eq_zero,Rat.num_eq_zero]
theorem xV {b:Bool} {n d:Nat} (hn:0<n) (hd:d≠0) (hc:Nat.gcd n d=1):aj (mkRat (sg b n) d)=⟨b,bB n,if d=1 then⟨#[]⟩else bB d⟩:=by
 have e:(⟨sg b n,d,hd,by rw[y7];exact hc⟩:Rat)=mkRat (sg b n) d:=Rat.mk_eq_mkRat ..;rw[<-e];unfold aj;simp only[y7];have:decide (sg b n<0)=b:=by
  unfold sg;cases b
  ·simp
  ·simp;omega
 rw[this]
theorem yS {b:Bool} {n d g:Nat} (hd:d≠0) (hg:g=Nat.gcd n d):mkRat (sg b n) d=mkRat (sg b (n/g)) (d/g):=by
 have hgp:0<g:=by rw[hg];exact Nat.gcd_pos_of_pos_right _ oO
 have h1:g*(n/g)=n:=Nat.mul_div_cancel' (by rw[hg];exact Nat.gcd_dvd_left _ _);have h2:g*(d/g)=d:=Nat.mul_div_cancel' (by rw[hg];exact Nat.gcd_dvd_right _ _);have h3:sg b n=(g:Int)*sg b (n/g):=by
  unfold sg;have:((n:Nat):Int)=(g:Int)*((n/g:Nat):Int):=by exact_mod_cast h1.symm
  split
  ·rw[this,Int.mul_neg]
  ·exact this
 conv=>lhs;rw[h3,<-h2]
 exact Rat.mkRat_mul_left oO
theorem La (r:RR):EK r↔bB (val r.num)=r.num/\bB (val r.den)=r.den/\
  (r.num=⟨#[]⟩->r.neg=false/\r.den=⟨#[]⟩)/\(r.num≠⟨#[]⟩->r.den=⟨#[]⟩\/(r.den≠⟨#[1]⟩/\Nat.gcd (val r.num) (val r.den)=1)):=by
 constructor
 ·intro h;obtain⟨q,rfl⟩:∃q,r=aj q:=⟨_,h.symm⟩;have hnum:val (aj q).num=q.num.natAbs:=bX _;refine⟨by rw[hnum];rfl,?_,?_,?_⟩
  ·show bB (val (if q.den=1 then _ else _))=if q.den=1 then _ else _
   split
   ·rw[KK];exact fR.2 rfl
   ·rw[bX]
  ·intro h0;have:q=0:=li.1 h0;subst this;rw[gm];exact⟨rfl,rfl⟩
  ·intro h0;by_cases h1:q.den=1
   ·left;show(if q.den=1 then _ else _)=_;rw[if_pos h1]
   ·right;have hden:(aj q).den=bB q.den:=by show(if q.den=1 then _ else _)=_;rw[if_neg h1]
    rw[hnum,hden,bX];exact⟨λh2=>h1 (by rw[<-bX q.den,h2,qC]),q.reduced⟩
 ·rintro⟨h1,h2,h3,h4⟩;by_cases h0:r.num=⟨#[]⟩
  ·obtain⟨g1,g2⟩:=h3 h0;have:r=aj 0:=by rw[gm];cases r;simp_all
   rw[this];exact EV 0
  ·have hn:0<val r.num:=by
    rcases Nat.eq_zero_or_pos (val r.num)with g|g
    ·rw[g,fR.2 rfl]at h1;exact absurd h1.symm h0
    ·exact g
   unfold EK GS;rcases h4 h0 with g|⟨g1,g2⟩
   ·have hd:dv r.den=1:=by unfold dv;rw[if_pos g]
    rw[hd,xV hn dD (Nat.gcd_one_right _),if_pos rfl,h1];cases r;simp_all
   ·by_cases hd0:r.den=⟨#[]⟩
    ·have hd:dv r.den=1:=by unfold dv;rw[if_pos hd0]
     rw[hd,xV hn dD (Nat.gcd_one_right _),if_pos rfl,h1];cases r;simp_all
    ·have hd:dv r.den=val r.den:=by unfold dv;rw[if_neg hd0]
     have hdn:val r.den≠0:=λg=>by rw[g,fR.2 rfl]at h2;exact hd0 h2.symm
     have hd1:val r.den≠1:=λg=>by rw[g,oW]at h2;exact g1 h2.symm
     rw[hd,xV hn hdn g2,if_neg hd1,h1,h2]
def L (q:Rat):Nat:=max (bB q.num.natAbs).size (bB q.den).size
def Lr (r:RR):Nat:=max 1 (max r.num.size r.den.size)
theorem P2 (q:Rat):1<=L q:=Nat.le_trans (ns (Nat.pos_of_ne_zero q.den_nz)) (Nat.le_max_right _ _)
theorem mz (q:Rat):(bB q.num.natAbs).size<=L q:=Nat.le_max_left _ _
theorem lN (q:Rat):(bB q.den).size<=L q:=Nat.le_max_right _ _
@[simp] theorem Lr_ofQ (q:Rat):Lr (aj q)=L q:=by
 unfold Lr L aj;simp only;have h1:=ns (Nat.pos_of_ne_zero q.den_nz);by_cases h:q.den=1
 ·rw[if_pos h,h,iD];show max 1 (max _ 0)=_;omega
 ·rw[if_neg h];omega
theorem fM:L 0=1:=by
 unfold L;rw[Rat.zero_num,Rat.zero_den,iD,show(0:Int).natAbs=0 from rfl,fR.2 rfl];rfl
theorem Oz (r:RR):1<=Lr r:=by unfold Lr;omega
theorem nN (r:RR):L (toQ r)<=Lr r:=by
 by_cases h:EK r
 ·rw[<-Lr_ofQ,zF h];exact Nat.le_refl _
 ·rw[zM h,fM];exact Oz r
theorem BA (r:RR):r.num.size<=Lr r:=by unfold Lr;omega
theorem CE (r:RR):r.den.size<=Lr r:=by unfold Lr;omega
theorem AT (n:Int) {d:Nat} (hd:d≠0) {k:Nat} (h1:(bB n.natAbs).size<=k) (h2:(bB d).size<=k):L (mkRat n d)<=k:=by
 have e1:(mkRat n d).num.natAbs<=n.natAbs:=by
  rw[Rat.num_mkRat,if_neg hd,Int.natAbs_ediv_of_dvd]
  ·exact Nat.div_le_self _ _
  ·exact Int.dvd_natAbs.1 (Int.natCast_dvd_natCast.2 (Nat.gcd_dvd_right _ _))
 have e2:(mkRat n d).den<=d:=by rw[Rat.den_mkRat,if_neg hd];exact Nat.div_le_self _ _
 unfold L;have:=db e1;have:=db e2;omega
theorem su (p q:Rat):L (p*q)<=L p+L q:=by
 rw[Rat.mul_def'];refine AT _ (Nat.mul_ne_zero p.den_nz q.den_nz) ?_ ?_
 ·rw[Int.natAbs_mul];have:=cS p.num.natAbs q.num.natAbs;have:=mz p;have:=mz q;omega
 ·have:=cS p.den q.den;have:=lN p;have:=lN q;omega
theorem t6 (p q:Rat):L (p+q)<=L p+L q+1:=by
 rw[Rat.add_def'];have a1:=mz p;have a2:=mz q;have a3:=lN p;have a4:=lN q;refine AT _ (Nat.mul_ne_zero p.den_nz q.den_nz) ?_ ?_
 ·have h:(p.num*q.den+q.num*p.den).natAbs<=p.num.natAbs*q.den+q.num.natAbs*p.den:=by
   refine Nat.le_trans (Int.natAbs_add_le _ _) ?_;rw[Int.natAbs_mul,Int.natAbs_mul,Int.natAbs_natCast,Int.natAbs_natCast];exact Nat.le_refl _
  have h1:=db h;have h2:=np (p.num.natAbs*q.den) (q.num.natAbs*p.den);have h3:=cS p.num.natAbs q.den;have h4:=cS q.num.natAbs p.den;omega
 ·have:=cS p.den q.den;omega
theorem vK (q:Rat):L (-q)=L q:=by unfold L;rw[Rat.neg_num,Rat.neg_den,Int.natAbs_neg]
theorem mw (p q:Rat):L (p-q)<=L p+L q+1:=by rw[Rat.sub_eq_add_neg,<-vK q];exact t6 p (-q)
theorem Px (q:Rat):L q⁻¹<=L q:=by
 by_cases h:q.num=0
 ·rw[Rat.num_eq_zero.1 h,Rat.inv_zero];exact Nat.le_refl _
 ·unfold L;rw[Rat.num_inv,Rat.den_inv,if_neg h,Int.natAbs_mul,Int.natAbs_natCast];have:q.num.sign.natAbs=1:=by rw[Int.natAbs_sign];simp[h]
  rw[this,Nat.one_mul,Nat.max_comm];exact Nat.le_refl _
theorem ri (p q:Rat):L (p/q)<=L p+L q:=by
 rw[Rat.div_def];have:=su p q⁻¹;have:=Px q;omega
theorem PL {q:Rat} {k:Nat} (h1:q.num.natAbs<256^k) (h2:q.den<256^k):L q<=k:=by
 unfold L;have:=cK h1;have:=cK h2;omega
theorem CR:L 1=1:=by
 have h1:L 1<=1:=PL dD dD;have:=P2 1;omega
theorem PW (n:Int) {k:Nat} (h:n.natAbs<256^k) (hk:1<=k):L (n:Rat)<=k:=by
 refine PL (by rw[Rat.num_intCast];exact h) ?_;rw[Rat.den_intCast];have:256^1<=256^k:=Nat.pow_le_pow_right dD hk;omega
def kz (q:Rat):Int:=if q.num=0 then 0 else if q.num<0 then-1 else 1
def lz (p q:Rat):Int:=if p<q then-1 else if q<p then 1 else 0
theorem MT {q:Rat}:q.num<0↔q<0:=by
 have:=Rat.lt_iff q 0;simp only[Rat.zero_num,Rat.zero_den,Int.zero_mul]at this;simpa using this.symm
theorem rN {q:Rat}:kz q<0↔q<0:=by
 rw[<-MT];unfold kz;split<;>(try split)<;>omega
theorem p9 {q:Rat}:kz q=0↔q=0:=by
 rw[<-Rat.num_eq_zero];unfold kz;split<;>(try split)<;>omega
theorem fh {q:Rat}:0<kz q↔0<q:=by
 have h1:=rN (q:=q);have h2:=p9 (q:=q);constructor
 ·intro h;rcases Rat.le_iff_lt_or_eq.1 (Rat.not_lt.1 (λg=>by have:=h1.2 g;omega:¬q<0))with g|g
  ·exact g
  ·exfalso;have:=h2.2 g.symm;omega
 ·intro h;have g1:¬kz q<0:=λg=>Rat.lt_irrefl (a:=(0:Rat)) (by have:=h1.1 g;grind);have g2:¬kz q=0:=λg=>by have:=h2.1 g;rw[this]at h;exact Rat.lt_irrefl h
  omega
theorem wS (q:Rat):kz q= -1\/kz q=0\/kz q=1:=by unfold kz;split<;>(try split)<;>simp
theorem EF {p q:Rat} (h:p<q):lz p q= -1:=by unfold lz;rw[if_pos h]
theorem EY {p q:Rat} (h:q<p):lz p q=1:=by unfold lz;rw[if_neg (by grind),if_pos h]
theorem E4 {p:Rat}:lz p p=0:=by unfold lz;rw[if_neg Rat.lt_irrefl,if_neg Rat.lt_irrefl]
theorem mA (p q:Rat):(p<q/\lz p q= -1)\/(p=q/\lz p q=0)\/(q<p/\lz p q=1):=by
 rcases Rat.le_total (a:=p) (b:=q)with h|h
 ·rcases Rat.le_iff_lt_or_eq.1 h with g|g
  ·exact .inl ⟨g,EF g⟩
  ·subst g;exact .inr (.inl ⟨rfl,E4⟩)
 ·rcases Rat.le_iff_lt_or_eq.1 h with g|g
  ·exact .inr (.inr ⟨g,EY g⟩)
  ·subst g;exact .inr (.inl ⟨rfl,E4⟩)
theorem wo {p q:Rat}:lz p q<0↔p<q:=by
 rcases mA p q with⟨h,e⟩|⟨h,e⟩|⟨h,e⟩<;>rw[e]
 ·exact⟨λ_=>h,λ_=>dD⟩
 ·subst h;exact⟨λh=>absurd h dD,λh=>absurd h Rat.lt_irrefl⟩
 ·exact⟨λh=>absurd h dD,λg=>absurd g (by grind)⟩
theorem IB {p q:Rat}:0<lz p q↔q<p:=by
 rcases mA p q with⟨h,e⟩|⟨h,e⟩|⟨h,e⟩<;>rw[e]
 ·exact⟨λh=>absurd h dD,λg=>absurd g (by grind)⟩
 ·subst h;exact⟨λh=>absurd h dD,λh=>absurd h Rat.lt_irrefl⟩
 ·exact⟨λ_=>h,λ_=>dD⟩
theorem E9 {p q:Rat}:lz p q<=0↔p<=q:=by rw[<-Int.not_lt,IB,Rat.not_lt]
theorem Fl {p q:Rat}:0<=lz p q↔q<=p:=by rw[<-Int.not_lt,wo,Rat.not_lt]
theorem wY (q:Rat):sg (decide (q.num<0)) q.num.natAbs=q.num:=by
 unfold sg;by_cases h:q.num<0<;>simp[h]<;>omega
theorem CO (q:Rat):mkRat (sg (decide (q.num<0)) q.num.natAbs) q.den=q:=by rw[wY,Rat.mkRat_self]
theorem rO (q:Rat) {e:Nat} (he:e≠0):mkRat (sg (decide (q.num<0)) (q.num.natAbs*e)) (q.den*e)=q:=by
 have h:sg (decide (q.num<0)) (q.num.natAbs*e)=q.num*(e:Int):=by
  conv=>rhs;rw[<-wY q]
  unfold sg;split
  ·rw[Int.natCast_mul,Int.neg_mul]
  ·rw[Int.natCast_mul]
 rw[h,Rat.mkRat_mul_right he,Rat.mkRat_self]
theorem vX (a b:Int) {D:Nat} (hD:D≠0):mkRat a D+mkRat b D=mkRat (a+b) D:=by
 rw[Rat.mkRat_add_mkRat _ _ hD hD,<-Int.add_mul,Rat.mkRat_mul_right hD]
theorem Pk (b:Bool) (X Y:Nat):sg b X+sg b Y=sg b (X+Y):=by unfold sg;split<;>(push_cast;omega)
theorem NT {b c:Bool} (h:b≠c) {X Y:Nat} (hle:Y<=X):sg b X+sg c Y=sg b (X-Y):=by
 cases b<;>cases c<;>first|exact absurd rfl h|(simp[sg];omega)
theorem KP {b c:Bool} (h:b≠c) {X Y:Nat} (hle:X<=Y):sg b X+sg c Y=sg c (Y-X):=by
 cases b<;>cases c<;>first|exact absurd rfl h|(simp[sg];omega)
theorem uo {p q:Rat}:(aj p).den=(aj q).den↔p.den=q.den:=by
 show(if p.den=1 then _ else _)=(if q.den=1 then _ else _)↔_;have h1:∀(d:Nat),d≠0->bB d≠⟨#[]⟩:=λd hd h=>hd (fR.1 h);by_cases hp:p.den=1
 ·by_cases hq:q.den=1
  ·simp[hp,hq]
  ·rw[if_pos hp,if_neg hq];exact⟨λh=>absurd h.symm (h1 _ q.den_nz),λh=>absurd (h.symm.trans hp) hq⟩
 ·by_cases hq:q.den=1
  ·rw[if_neg hp,if_pos hq];exact⟨λh=>absurd h (h1 _ p.den_nz),λh=>absurd (h.trans hq) hp⟩
  ·rw[if_neg hp,if_neg hq];exact⟨λh=>xo h,λh=>by rw[h]⟩
end Go.Sx
namespace Go.Proofs.YtoeiejliehgopaaGreatDoor
open Go Go.Sx
theorem eI:da Tryz.prog 3=some (1,false,[.int .i64 0]):=by kernel_rfl
theorem iN:da Tryz.prog 4=some (1,false,[.bool false]):=by kernel_rfl
theorem QT:da Tryz.prog 5=some (1,false,[.int .u8 0]):=by kernel_rfl
theorem mO:da Tryz.prog 9=some (1,false,[.string ⟨#[]⟩]):=by kernel_rfl
theorem PT:sinfo Tryz.prog 22=some (25,1,2,[.int .u16 0]):=by kernel_rfl
theorem PH:sinfo Tryz.prog 23=some (69,4,8,[.int .u16 0,.int .u16 0,.int .u16 0,.int .u16 0]):=by kernel_rfl
theorem Nc:sinfo Tryz.prog 24=some (70,3,6,[.int .u16 0,.int .u16 0,.int .u16 0]):=by kernel_rfl
theorem io:da Tryz.prog 25=some (1,false,[.int .u16 0]):=by kernel_rfl
theorem iL:sinfo Tryz.prog 26=some (51,5,88,[.bool false,.string ⟨#[]⟩,.string ⟨#[]⟩,.slice none 0 0,.slice none 0 0]):=by kernel_rfl
theorem jB:da Tryz.prog 26=some (1,false,[.slice none 0 0]):=by kernel_rfl
theorem oK:sinfo Tryz.prog 27=some (64,4,64,[.bool false,.string ⟨#[]⟩,.string ⟨#[]⟩,.slice none 0 0]):=by kernel_rfl
theorem mY:da Tryz.prog 27=some (1,false,[.slice none 0 0]):=by kernel_rfl
theorem nH:da Tryz.prog 29=some (2,true,[.slice none 0 0,.slice none 0 0]):=by kernel_rfl
theorem mX:fT Tryz.prog 29 0=some 0:=by kernel_rfl
theorem uJ:fT Tryz.prog 29 1=some 1:=by kernel_rfl
theorem Pw:Tryz.prog.built 29 []=some #[.slice none 0 0,.slice none 0 0]:=by kernel_rfl
theorem aB:da Tryz.prog 32=some (3,true,[.bool false,.string ⟨#[]⟩,.string ⟨#[]⟩]):=by kernel_rfl
theorem n7:fT Tryz.prog 32 0=some 0:=by kernel_rfl
theorem uX:fT Tryz.prog 32 1=some 1:=by kernel_rfl
theorem kf:fT Tryz.prog 32 2=some 2:=by kernel_rfl
theorem ix:Tryz.prog.built 32 []=some #[.bool false,.string ⟨#[]⟩,.string ⟨#[]⟩]:=by kernel_rfl
theorem bJ:sinfo Tryz.prog 34=some (32,3,40,[.bool false,.string ⟨#[]⟩,.string ⟨#[]⟩]):=by kernel_rfl
theorem dh:da Tryz.prog 34=some (1,false,[.slice none 0 0]):=by kernel_rfl
theorem cZ:sinfo Tryz.prog 35=some (34,1,24,[.slice none 0 0]):=by kernel_rfl
theorem gO:da Tryz.prog 35=some (1,false,[.slice none 0 0]):=by kernel_rfl
theorem iq:sinfo Tryz.prog 36=some (4,1,1,[.bool false]):=by kernel_rfl
theorem nW:da Tryz.prog 36=some (1,false,[.slice none 0 0]):=by kernel_rfl
theorem nT:da Tryz.prog 38=some (8,true,[.slice none 0 0,.slice none 0 0,.slice none 0 0,.slice none 0 0,.slice none 0 0,.slice none 0 0,.slice none 0 0,.slice none 0 0]):=by kernel_rfl
theorem Al:fT Tryz.prog 38 0=some 0:=by kernel_rfl
theorem vv:fT Tryz.prog 38 1=some 1:=by kernel_rfl
theorem vB:fT Tryz.prog 38 2=some 2:=by kernel_rfl
theorem uZ:fT Tryz.prog 38 3=some 3:=by kernel_rfl
theorem lV:fT Tryz.prog 38 4=some 4:=by kernel_rfl
theorem FQ:fT Tryz.prog 38 5=some 5:=by kernel_rfl
theorem vJ:fT Tryz.prog 38 6=some 6:=by kernel_rfl
theorem ou:fT Tryz.prog 38 7=some 7:=by kernel_rfl
theorem ga:sinfo Tryz.prog 46=some (3,1,8,[.int .i64 0]):=by kernel_rfl
theorem rA:da Tryz.prog 46=some (1,false,[.slice none 0 0]):=by kernel_rfl
theorem M9:sinfo Tryz.prog 47=some (46,1,24,[.slice none 0 0]):=by kernel_rfl
theorem kd:sinfo Tryz.prog 48=some (53,5,56,[.int .i64 0,.int .i64 0,.bool false,.string ⟨#[]⟩,.string ⟨#[]⟩]):=by kernel_rfl
theorem i6:da Tryz.prog 48=some (1,false,[.slice none 0 0]):=by kernel_rfl
theorem zr:sinfo Tryz.prog 49=some (82,1,24,[.slice none 0 0]):=by kernel_rfl
theorem ph:da Tryz.prog 49=some (1,false,[.slice none 0 0]):=by kernel_rfl
theorem mT:da Tryz.prog 51=some (5,true,[.bool false,.string ⟨#[]⟩,.string ⟨#[]⟩,.slice none 0 0,.slice none 0 0]):=by kernel_rfl
theorem zX:fT Tryz.prog 51 0=some 0:=by kernel_rfl
theorem gS:fT Tryz.prog 51 1=some 3:=by kernel_rfl
theorem vu:fT Tryz.prog 51 2=some 4:=by kernel_rfl
theorem PX:Tryz.prog.built 51 []=some #[.bool false,.string ⟨#[]⟩,.string ⟨#[]⟩,.slice none 0 0,.slice none 0 0]:=by kernel_rfl
theorem mU:da Tryz.prog 53=some (5,true,[.int .i64 0,.int .i64 0,.bool false,.string ⟨#[]⟩,.string ⟨#[]⟩]):=by kernel_rfl
theorem m9:fT Tryz.prog 53 0=some 0:=by kernel_rfl
theorem uY:fT Tryz.prog 53 1=some 1:=by kernel_rfl
theorem EU:fT Tryz.prog 53 2=some 2:=by kernel_rfl
theorem jf:sinfo Tryz.prog 62=some (66,2,16,[.int .i64 0,.int .i64 0]):=by kernel_rfl
theorem jT:da Tryz.prog 62=some (1,false,[.slice none 0 0]):=by kernel_rfl
theorem lJ:da Tryz.prog 64=some (4,true,[.bool false,.string ⟨#[]⟩,.string ⟨#[]⟩,.slice none 0 0]):=by kernel_rfl
theorem Fc:fT Tryz.prog 64 0=some 0:=by kernel_rfl
theorem kM:fT Tryz.prog 64 1=some 3:=by kernel_rfl
theorem jj:da Tryz.prog 66=some (2,true,[.int .i64 0,.int .i64 0]):=by kernel_rfl
theorem oz:fT Tryz.prog 66 0=some 0:=by kernel_rfl
theorem na:fT Tryz.prog 66 1=some 1:=by kernel_rfl
theorem qZ:da Tryz.prog 69=some (4,true,[.int .u16 0,.int .u16 0,.int .u16 0,.int .u16 0]):=by kernel_rfl
theorem qv:da Tryz.prog 70=some (3,true,[.int .u16 0,.int .u16 0,.int .u16 0]):=by kernel_rfl
theorem qy:sinfo Tryz.prog 80=some (83,1,24,[.slice none 0 0]):=by kernel_rfl
theorem rE:da Tryz.prog 80=some (1,false,[.slice none 0 0]):=by kernel_rfl
theorem oY:da Tryz.prog 82=some (1,true,[.slice none 0 0]):=by kernel_rfl
theorem zI:fT Tryz.prog 82 0=some 0:=by kernel_rfl
theorem oD:sinfo Tryz.prog 83=some (85,5,56,[.int .i64 0,.bool false,.bool false,.string ⟨#[]⟩,.string ⟨#[]⟩]):=by kernel_rfl
theorem r4:da Tryz.prog 83=some (1,false,[.slice none 0 0]):=by kernel_rfl
theorem oJ:da Tryz.prog 85=some (5,true,[.int .i64 0,.bool false,.bool false,.string ⟨#[]⟩,.string ⟨#[]⟩]):=by kernel_rfl
theorem pG:fT Tryz.prog 85 0=some 0:=by kernel_rfl
theorem z9:fT Tryz.prog 85 1=some 1:=by kernel_rfl
theorem u9:fT Tryz.prog 85 2=some 2:=by kernel_rfl
theorem wD:sinfo Tryz.prog 104=some (112,6,96,[.int .i64 0,.slice none 0 0,.slice none 0 0,.bool false,.string ⟨#[]⟩,.string ⟨#[]⟩]):=by kernel_rfl
theorem jM:da Tryz.prog 104=some (1,false,[.slice none 0 0]):=by kernel_rfl
theorem Ac:sinfo Tryz.prog 105=some (36,1,24,[.slice none 0 0]):=by kernel_rfl
theorem nm:da Tryz.prog 105=some (1,false,[.slice none 0 0]):=by kernel_rfl
theorem Bp:fT Tryz.prog 107 0=some 0:=by kernel_rfl
theorem BQ:fT Tryz.prog 107 1=some 2:=by kernel_rfl
theorem wQ:fT Tryz.prog 107 2=some 3:=by kernel_rfl
theorem kC:sinfo Tryz.prog 109=some (157,4,64,[.slice none 0 0,.bool false,.string ⟨#[]⟩,.string ⟨#[]⟩]):=by kernel_rfl
theorem mr:da Tryz.prog 109=some (1,false,[.slice none 0 0]):=by kernel_rfl
theorem to:sinfo Tryz.prog 110=some (160,2,48,[.slice none 0 0,.slice none 0 0]):=by kernel_rfl
theorem ov:da Tryz.prog 110=some (1,false,[.slice none 0 0]):=by kernel_rfl
theorem gK:da Tryz.prog 112=some (6,true,[.int .i64 0,.slice none 0 0,.slice none 0 0,.bool false,.string ⟨#[]⟩,.string ⟨#[]⟩]):=by kernel_rfl
theorem Cd:fT Tryz.prog 112 0=some 0:=by kernel_rfl
theorem CW:fT Tryz.prog 112 1=some 1:=by kernel_rfl
theorem C3:fT Tryz.prog 112 2=some 2:=by kernel_rfl
theorem Bu:fT Tryz.prog 112 3=some 3:=by kernel_rfl
theorem mM:da Tryz.prog 123=some (2,true,[.slice none 0 0,.slice none 0 0]):=by kernel_rfl
theorem CU:fT Tryz.prog 123 0=some 0:=by kernel_rfl
theorem CL:fT Tryz.prog 123 1=some 1:=by kernel_rfl
theorem cV:sinfo Tryz.prog 138=some (141,1,4,[.int .u32 0]):=by kernel_rfl
theorem ce:sinfo Tryz.prog 139=some (141,1,4,[.int .u32 0]):=by kernel_rfl
theorem bG:da Tryz.prog 141=some (1,false,[.int .u32 0]):=by kernel_rfl
theorem AS:sinfo Tryz.prog 155=some (207,4,48,[.int .i64 0,.bool false,.string ⟨#[]⟩,.string ⟨#[]⟩]):=by kernel_rfl
theorem nq:da Tryz.prog 155=some (1,false,[.slice none 0 0]):=by kernel_rfl
theorem lA:da Tryz.prog 157=some (4,true,[.slice none 0 0,.bool false,.string ⟨#[]⟩,.string ⟨#[]⟩]):=by kernel_rfl
theorem Ci:fT Tryz.prog 157 0=some 0:=by kernel_rfl
theorem ws:fT Tryz.prog 157 1=some 1:=by kernel_rfl
theorem jN:da Tryz.prog 160=some (2,true,[.slice none 0 0,.slice none 0 0]):=by kernel_rfl
theorem Bj:fT Tryz.prog 160 0=some 0:=by kernel_rfl
theorem wE:fT Tryz.prog 160 1=some 1:=by kernel_rfl
theorem Bw:fT Tryz.prog 167 0=some 0:=by kernel_rfl
theorem CD:fT Tryz.prog 167 1=some 1:=by kernel_rfl
theorem wq:sinfo Tryz.prog 189=some (5,1,1,[.int .u8 0]):=by kernel_rfl
theorem nl:da Tryz.prog 207=some (4,true,[.int .i64 0,.bool false,.string ⟨#[]⟩,.string ⟨#[]⟩]):=by kernel_rfl
theorem B6:fT Tryz.prog 207 0=some 0:=by kernel_rfl
theorem Bx:fT Tryz.prog 207 1=some 1:=by kernel_rfl
theorem j2:sinfo Tryz.prog 218=some (220,1,24,[.slice none 0 0]):=by kernel_rfl
theorem j3:sinfo Tryz.prog 220=some (223,2,24,[.bool false,.string ⟨#[]⟩]):=by kernel_rfl
theorem ku:da Tryz.prog 220=some (1,false,[.slice none 0 0]):=by kernel_rfl
theorem gN:da Tryz.prog 223=some (2,true,[.bool false,.string ⟨#[]⟩]):=by kernel_rfl
theorem sn:fT Tryz.prog 223 0=some 0:=by kernel_rfl
theorem pz:fT Tryz.prog 223 1=some 1:=by kernel_rfl
theorem OZ:Tryz.prog.built 223 []=some #[.bool false,.string ⟨#[]⟩]:=by kernel_rfl
open Go Go.RowKit Go.Sx
theorem jp {P : Program} {N : Nat} {ρ : Nat → Value} {w : World} {ops : Array Oper} {d : Option Tmp} {p : Op} {ty : TypeId} {pos : String} {aft : Array Edge} {Q : Exit → Act → World → Prop} {rest : List Oper} (h : dp P N ρ ⟨d, p, ty, pos, aft, none⟩ fun v => wl P ops Q rest N (lH ρ d v) w) : wl P ops Q (⟨d, p, ty, pos, aft, none⟩ :: rest) N ρ w := ax rfl h
theorem jq {P : Program} {N : Nat} {ρ : Nat → Value} {w : World} {ops : Array Oper} {d : Option Tmp} {p : Op} {ty : TypeId} {pos : String} {aft : Array Edge} {Q : Exit → Act → World → Prop} {rest : List Oper} (h : jP P N ρ w ⟨d, p, ty, pos, aft, none⟩ fun v => wl P ops Q rest N (lH ρ d v) w) : wl P ops Q (⟨d, p, ty, pos, aft, none⟩ :: rest) N ρ w := bW rfl h
theorem jh {P : Program} {N : Nat} {ρ : Nat → Value} {w : World} {ops : Array Oper} {d : Option Tmp} {p : Op} {ty : TypeId} {pos : String} {aft : Array Edge} {Q : Exit → Act → World → Prop} {rest : List Oper} (h : gZ P N ρ w ⟨d, p, ty, pos, aft, none⟩ fun v w' => wl P ops Q rest N (lH ρ d v) w') : wl P ops Q (⟨d, p, ty, pos, aft, none⟩ :: rest) N ρ w := fB rfl h
theorem jl {P : Program} {N : Nat} {ρ : Nat → Value} {w : World} {ops : Array Oper} {d : Option Tmp} {p : Op} {ty : TypeId} {pos : String} {aft : Array Edge} {i : Nat} {σ : List (Nat × Md)} {Kend : Act → World → Prop} (ho : ops[i]? = some ⟨d, p, ty, pos, aft, none⟩) (h : dp P N ρ ⟨d, p, ty, pos, aft, none⟩ fun v => Wr P ops Kend σ N (lH ρ d v) w) : Wr P ops Kend ((i, .pure) :: σ) N ρ w := bP ho rfl h
theorem jm {P : Program} {N : Nat} {ρ : Nat → Value} {w : World} {ops : Array Oper} {d : Option Tmp} {p : Op} {ty : TypeId} {pos : String} {aft : Array Edge} {i : Nat} {σ : List (Nat × Md)} {Kend : Act → World → Prop} (ho : ops[i]? = some ⟨d, p, ty, pos, aft, none⟩) (h : jP P N ρ w ⟨d, p, ty, pos, aft, none⟩ fun v => Wr P ops Kend σ N (lH ρ d v) w) : Wr P ops Kend ((i, .read) :: σ) N ρ w := eY ho rfl h
theorem jn {P : Program} {N : Nat} {ρ : Nat → Value} {w : World} {ops : Array Oper} {d : Option Tmp} {p : Op} {ty : TypeId} {pos : String} {aft : Array Edge} {i : Nat} {σ : List (Nat × Md)} {Kend : Act → World → Prop} (ho : ops[i]? = some ⟨d, p, ty, pos, aft, none⟩) (h : gZ P N ρ w ⟨d, p, ty, pos, aft, none⟩ fun v w' => Below w.heap.size w w' ∧ Wr P ops Kend σ N (lH ρ d v) w') : Wr P ops Kend ((i, .aG) :: σ) N ρ w := tK ho rfl h
theorem jx {P : Program} {N : Nat} {ρ : Nat → Value} {w : World} {ops : Array Oper} {d : Option Tmp} {p : Op} {ty : TypeId} {pos : String} {aft : Array Edge} {i : Nat} {σ : List (Nat × Md)} {Kend : Act → World → Prop} (ho : ops[i]? = some ⟨d, p, ty, pos, aft, none⟩) (h : gZ P N ρ w ⟨d, p, ty, pos, aft, none⟩ fun v w' => Wr P ops Kend σ N (lH ρ d v) w') : Wr P ops Kend ((i, .free) :: σ) N ρ w := OO ho rfl h
abbrev jo (i : Nat) : Nat × Md := (i, .pure)
abbrev ju (i : Nat) : Nat × Md := (i, .read)
abbrev jv (i : Nat) : Nat × Md := (i, .aG)
abbrev jw (i : Nat) : Nat × Md := (i, .free)
abbrev pB (b : Nat) : Value := .pointer (some ⟨b, 0, none⟩)
abbrev iB (m : Int) : Value := .int .i64 m
theorem ja {G' G : Prop} (h : G') (e : Jh G' → G := by intro h; (repeat (first | (with_reducible first | refine sF ?_ | refine pR ?_ | refine nk ?_ | refine nx ?_ | refine lP ?_ | refine ie ?_ | refine gE ?_ | refine gF ?_ | refine fX ?_ | refine fU rfl ?_ | refine rC ?_ | refine sA ?_))); exact h.1) : G := e ⟨h⟩
theorem jt {G' G : Prop} (h : G') (e : Jh G' → G := by intro h; (repeat (first | (with_reducible first | refine sF ?_ | refine pR ?_ | refine nk ?_ | refine nx ?_ | refine lP ?_ | refine ie ?_ | refine gE ?_ | refine gF ?_ | refine fX ?_ | refine fU rfl ?_ | refine rC ?_ | refine sA ?_ | refine Fq ?_ | refine xe ?_))); exact h.1) : G := e ⟨h⟩
theorem jr {G' G : Prop} (h : G') (e : Jh G' → G := by intro h; (repeat (first | (with_reducible first | refine sF ?_ | refine pR ?_ | refine nk ?_ | refine nx ?_ | refine lP ?_ | refine ie ?_ | refine gE ?_ | refine gF ?_ | refine fX ?_ | refine fU rfl ?_ | refine rC ?_ | refine sA ?_) | refine CJ ?_)); exact h.1) : G := e ⟨h⟩
theorem js {G' G : Prop} (h : G') (e : Jh G' → G := by intro h; (repeat (first | (with_reducible first | refine sF ?_ | refine pR ?_ | refine nk ?_ | refine nx ?_ | refine lP ?_ | refine ie ?_ | refine gE ?_ | refine gF ?_ | refine fX ?_ | refine fU rfl ?_ | refine rC ?_ | refine sA ?_ | refine Fq ?_ | refine xe ?_) | refine CJ ?_)); exact h.1) : G := e ⟨h⟩
theorem jb {G' G : Prop} (h : G') (e : Jh G' → G := by intro h; (repeat (first | (with_reducible first | refine sF ?_ | refine nk ?_ | refine nx ?_ | refine lP ?_ | refine ie ?_ | refine gE ?_ | refine gF ?_ | refine fX ?_ | refine fU rfl ?_ | refine rC ?_ | refine sA ?_))); exact h.1) : G := e ⟨h⟩
theorem jd {G' G : Prop} (h : G') (e : Jh G' → G := by intro h; (repeat (first | (with_reducible first | refine sF ?_ | refine nk ?_ | refine nx ?_ | refine lP ?_ | refine ie ?_ | refine gE ?_ | refine gF ?_ | refine fX ?_ | refine fU rfl ?_ | refine rC ?_ | refine sA ?_ | refine Fq ?_ | refine xe ?_))); exact h.1) : G := e ⟨h⟩
theorem jc {G' G : Prop} (h : G') (e : Jh G' → G := by intro h; (repeat (first | (with_reducible first | refine sF ?_ | refine nk ?_ | refine nx ?_ | refine lP ?_ | refine ie ?_ | refine gE ?_ | refine gF ?_ | refine fX ?_ | refine fU rfl ?_ | refine rC ?_ | refine sA ?_) | refine CJ ?_)); exact h.1) : G := e ⟨h⟩
theorem je {G' G : Prop} (h : G') (e : Jh G' → G := by intro h; (repeat (first | (with_reducible first | refine sF ?_ | refine nk ?_ | refine nx ?_ | refine lP ?_ | refine ie ?_ | refine gE ?_ | refine gF ?_ | refine fX ?_ | refine fU rfl ?_ | refine rC ?_ | refine sA ?_ | refine Fq ?_ | refine xe ?_) | refine CJ ?_)); exact h.1) : G := e ⟨h⟩
theorem Qj {H : List bQ} {x : Option bQ} (h : H[0]? = x) : H[0]? = x := h
theorem PB {H : List bQ} {x : Option bQ} (h : H[1]? = x) : H[1]? = x := h
theorem P5 {H : List bQ} {x : Option bQ} (h : H[2]? = x) : H[2]? = x := h
theorem Qr {H : List bQ} {x : Option bQ} (h : H[3]? = x) : H[3]? = x := h
theorem PP {H : List bQ} {x : Option bQ} (h : H[4]? = x) : H[4]? = x := h
theorem Qo {H : List bQ} {x : Option bQ} (h : H[5]? = x) : H[5]? = x := h
theorem QB {H : List bQ} {x : Option bQ} (h : H[6]? = x) : H[6]? = x := h
theorem Qb {H : List bQ} {x : Option bQ} (h : H[7]? = x) : H[7]? = x := h
theorem J0 {G' G : Prop} (h : G') (e : Jh G' → G := by intro h; (repeat (first | (with_reducible first | refine sF ?_ | refine pR ?_ | refine nk ?_ | refine nx ?_ | refine lP ?_ | refine ie ?_ | refine gE ?_ | refine gF ?_ | refine fX ?_ | refine fU rfl ?_ | refine rC ?_ | refine sA ?_ | refine xe ?_) | refine CJ ?_)); (first | ((with_reducible apply jp); first | ((with_reducible apply aI); (first | assumption | exact rfl)) | ((with_reducible apply f9); (first | assumption | exact rfl)) | ((with_reducible apply cx); (first | exact rfl | assumption); (with_reducible first | exact kM | exact mX | exact gS | exact uX | exact kf | exact n7 | exact oz | exact m9 | exact pG | exact pz | exact na | exact sn | exact uJ | exact lV | exact BQ | exact Bw | exact vu | exact wE | exact ou | exact C3 | exact ws | exact zI | exact vB | exact uZ | exact Bp | exact z9 | exact CL | exact u9 | exact uY | exact vJ | exact CW | exact vv | exact wQ | exact FQ | exact Ci | exact CU | exact Fc | exact CD | exact Bj | exact Bu | exact Al | exact zX | exact EU | exact Bx | exact Cd | exact B6)) | ((with_reducible apply oE); (first | exact rfl | assumption); (first | exact rfl | assumption)) | ((with_reducible apply oB); (first | exact rfl | assumption); exact rfl) | ((with_reducible apply gV); (first | exact rfl | assumption); exact ⟨_, by (with_reducible first | exact Tryz.underlying139 | exact Tryz.underlying189 | exact Tryz.underlying218 | exact Tryz.underlying220 | exact Tryz.underlying26 | exact Tryz.underlying27 | exact Tryz.underlying34 | exact Tryz.underlying35 | exact Tryz.underlying36 | exact Tryz.underlying46 | exact Tryz.underlying48 | exact Tryz.underlying49 | exact Tryz.underlying62 | exact Tryz.underlying80 | exact Tryz.underlying83)⟩) | ((with_reducible apply ia); (first | exact rfl | assumption); (first | exact rfl | assumption); (first | exact IntWalk.i64_in _ (by omega) | exact IntWalk.u64_in _ (by omega) | exact IntWalk.u32_in _ (by omega) | exact IntWalk.u8_in _ (by omega) | exact IntWalk.u16_in _ (by omega))) | ((with_reducible apply k9); (first | exact rfl | assumption); (first | exact rfl | assumption); (first | exact IntWalk.i64_in _ (by omega) | exact IntWalk.u64_in _ (by omega) | exact IntWalk.u32_in _ (by omega) | exact IntWalk.u8_in _ (by omega) | exact IntWalk.u16_in _ (by omega))) | ((with_reducible apply i7); (first | exact rfl | assumption); (first | exact rfl | assumption)) | ((with_reducible apply Ct); (first | exact rfl | assumption); (first | exact rfl | assumption)) | ((with_reducible apply mJ); (first | exact rfl | assumption)) | ((with_reducible apply Nw); (first | exact rfl | assumption); (first | exact rfl | assumption)) | ((with_reducible apply mQ); (first | exact rfl | assumption); (first | exact rfl | assumption)) | ((with_reducible apply rR); (first | exact rfl | assumption); (first | exact rfl | assumption)) | ((with_reducible apply bF); (first | exact rfl | assumption); (with_reducible first | exact Tryz.underlying3 | exact Tryz.underlying94 | exact Tryz.underlying99); exact ⟨_, by (with_reducible first | exact Tryz.underlying141 | exact Tryz.underlying25 | exact Tryz.underlying3 | exact Tryz.underlying5)⟩; (first | exact IntWalk.i64_in _ (by omega) | exact IntWalk.u64_in _ (by omega) | exact IntWalk.u32_in _ (by omega) | exact IntWalk.u8_in _ (by omega) | exact IntWalk.u16_in _ (by omega))) | ((with_reducible apply Jj); (first | exact rfl | assumption); (with_reducible first | exact Tryz.underlying9))) | ((with_reducible apply jq); ((with_reducible apply bT); (first | exact rfl | assumption); (with_reducible first | exact eI | exact aB | exact iN | exact dh | exact mO | exact gO | exact gK | exact gN | exact jT | exact io | exact jB | exact jj | exact lJ | exact i6 | exact jN | exact nH | exact mT | exact mU | exact nT | exact oJ | exact oY | exact lA | exact mr | exact mM | exact mY | exact nW | exact qv | exact jM | exact ph | exact nl | exact ov | exact rE | exact nm | exact rA | exact nq | exact qZ); assumption; (first | exact Qj rfl | exact PB rfl | exact P5 rfl | exact Qr rfl | exact PP rfl | exact Qo rfl | exact QB rfl | exact Qb rfl); exact rfl; exact rfl; (first | exact .inl rfl | exact .inr rfl))) | ((with_reducible apply jh); first | ((with_reducible apply di); (with_reducible first | exact eI | exact aB | exact iN | exact dh | exact mO | exact gO | exact gK | exact gN | exact jT | exact io | exact jB | exact jj | exact lJ | exact i6 | exact jN | exact nH | exact mT | exact mU | exact nT | exact oJ | exact oY | exact lA | exact mr | exact mM | exact mY | exact nW | exact qv | exact jM | exact ph | exact nl | exact ov | exact rE | exact nm | exact rA | exact nq | exact qZ); assumption) | ((with_reducible apply cO); (first | exact rfl | assumption); (first | exact rfl | assumption); (with_reducible first | exact eI | exact aB | exact iN | exact dh | exact mO | exact gO | exact gK | exact gN | exact jT | exact io | exact jB | exact jj | exact lJ | exact i6 | exact jN | exact nH | exact mT | exact mU | exact nT | exact oJ | exact oY | exact lA | exact mr | exact mM | exact mY | exact nW | exact qv | exact jM | exact ph | exact nl | exact ov | exact rE | exact nm | exact rA | exact nq | exact qZ); assumption; (first | exact Qj rfl | exact PB rfl | exact P5 rfl | exact Qr rfl | exact PP rfl | exact Qo rfl | exact QB rfl | exact Qb rfl); exact rfl; exact rfl; exact Nat.le_of_ble_eq_true rfl; exact rfl)) | ((with_reducible apply jl); exact rfl; first | ((with_reducible apply aI); (first | assumption | exact rfl)) | ((with_reducible apply f9); (first | assumption | exact rfl)) | ((with_reducible apply cx); (first | exact rfl | assumption); (with_reducible first | exact kM | exact mX | exact gS | exact uX | exact kf | exact n7 | exact oz | exact m9 | exact pG | exact pz | exact na | exact sn | exact uJ | exact lV | exact BQ | exact Bw | exact vu | exact wE | exact ou | exact C3 | exact ws | exact zI | exact vB | exact uZ | exact Bp | exact z9 | exact CL | exact u9 | exact uY | exact vJ | exact CW | exact vv | exact wQ | exact FQ | exact Ci | exact CU | exact Fc | exact CD | exact Bj | exact Bu | exact Al | exact zX | exact EU | exact Bx | exact Cd | exact B6)) | ((with_reducible apply oE); (first | exact rfl | assumption); (first | exact rfl | assumption)) | ((with_reducible apply oB); (first | exact rfl | assumption); exact rfl) | ((with_reducible apply gV); (first | exact rfl | assumption); exact ⟨_, by (with_reducible first | exact Tryz.underlying139 | exact Tryz.underlying189 | exact Tryz.underlying218 | exact Tryz.underlying220 | exact Tryz.underlying26 | exact Tryz.underlying27 | exact Tryz.underlying34 | exact Tryz.underlying35 | exact Tryz.underlying36 | exact Tryz.underlying46 | exact Tryz.underlying48 | exact Tryz.underlying49 | exact Tryz.underlying62 | exact Tryz.underlying80 | exact Tryz.underlying83)⟩) | ((with_reducible apply ia); (first | exact rfl | assumption); (first | exact rfl | assumption); (first | exact IntWalk.i64_in _ (by omega) | exact IntWalk.u64_in _ (by omega) | exact IntWalk.u32_in _ (by omega) | exact IntWalk.u8_in _ (by omega) | exact IntWalk.u16_in _ (by omega))) | ((with_reducible apply k9); (first | exact rfl | assumption); (first | exact rfl | assumption); (first | exact IntWalk.i64_in _ (by omega) | exact IntWalk.u64_in _ (by omega) | exact IntWalk.u32_in _ (by omega) | exact IntWalk.u8_in _ (by omega) | exact IntWalk.u16_in _ (by omega))) | ((with_reducible apply i7); (first | exact rfl | assumption); (first | exact rfl | assumption)) | ((with_reducible apply Ct); (first | exact rfl | assumption); (first | exact rfl | assumption)) | ((with_reducible apply mJ); (first | exact rfl | assumption)) | ((with_reducible apply Nw); (first | exact rfl | assumption); (first | exact rfl | assumption)) | ((with_reducible apply mQ); (first | exact rfl | assumption); (first | exact rfl | assumption)) | ((with_reducible apply rR); (first | exact rfl | assumption); (first | exact rfl | assumption)) | ((with_reducible apply bF); (first | exact rfl | assumption); (with_reducible first | exact Tryz.underlying3 | exact Tryz.underlying94 | exact Tryz.underlying99); exact ⟨_, by (with_reducible first | exact Tryz.underlying141 | exact Tryz.underlying25 | exact Tryz.underlying3 | exact Tryz.underlying5)⟩; (first | exact IntWalk.i64_in _ (by omega) | exact IntWalk.u64_in _ (by omega) | exact IntWalk.u32_in _ (by omega) | exact IntWalk.u8_in _ (by omega) | exact IntWalk.u16_in _ (by omega))) | ((with_reducible apply Jj); (first | exact rfl | assumption); (with_reducible first | exact Tryz.underlying9))) | ((with_reducible apply jm); exact rfl; ((with_reducible apply bT); (first | exact rfl | assumption); (with_reducible first | exact eI | exact aB | exact iN | exact dh | exact mO | exact gO | exact gK | exact gN | exact jT | exact io | exact jB | exact jj | exact lJ | exact i6 | exact jN | exact nH | exact mT | exact mU | exact nT | exact oJ | exact oY | exact lA | exact mr | exact mM | exact mY | exact nW | exact qv | exact jM | exact ph | exact nl | exact ov | exact rE | exact nm | exact rA | exact nq | exact qZ); assumption; (first | exact Qj rfl | exact PB rfl | exact P5 rfl | exact Qr rfl | exact PP rfl | exact Qo rfl | exact QB rfl | exact Qb rfl); exact rfl; exact rfl; (first | exact .inl rfl | exact .inr rfl))) | ((with_reducible apply jn); exact rfl; first | ((with_reducible apply di); (with_reducible first | exact eI | exact aB | exact iN | exact dh | exact mO | exact gO | exact gK | exact gN | exact jT | exact io | exact jB | exact jj | exact lJ | exact i6 | exact jN | exact nH | exact mT | exact mU | exact nT | exact oJ | exact oY | exact lA | exact mr | exact mM | exact mY | exact nW | exact qv | exact jM | exact ph | exact nl | exact ov | exact rE | exact nm | exact rA | exact nq | exact qZ); assumption) | ((with_reducible apply cO); (first | exact rfl | assumption); (first | exact rfl | assumption); (with_reducible first | exact eI | exact aB | exact iN | exact dh | exact mO | exact gO | exact gK | exact gN | exact jT | exact io | exact jB | exact jj | exact lJ | exact i6 | exact jN | exact nH | exact mT | exact mU | exact nT | exact oJ | exact oY | exact lA | exact mr | exact mM | exact mY | exact nW | exact qv | exact jM | exact ph | exact nl | exact ov | exact rE | exact nm | exact rA | exact nq | exact qZ); assumption; (first | exact Qj rfl | exact PB rfl | exact P5 rfl | exact Qr rfl | exact PP rfl | exact Qo rfl | exact QB rfl | exact Qb rfl); exact rfl; exact rfl; exact Nat.le_of_ble_eq_true rfl; exact rfl)) | ((with_reducible apply jx); exact rfl; first | ((with_reducible apply di); (with_reducible first | exact eI | exact aB | exact iN | exact dh | exact mO | exact gO | exact gK | exact gN | exact jT | exact io | exact jB | exact jj | exact lJ | exact i6 | exact jN | exact nH | exact mT | exact mU | exact nT | exact oJ | exact oY | exact lA | exact mr | exact mM | exact mY | exact nW | exact qv | exact jM | exact ph | exact nl | exact ov | exact rE | exact nm | exact rA | exact nq | exact qZ); assumption) | ((with_reducible apply cO); (first | exact rfl | assumption); (first | exact rfl | assumption); (with_reducible first | exact eI | exact aB | exact iN | exact dh | exact mO | exact gO | exact gK | exact gN | exact jT | exact io | exact jB | exact jj | exact lJ | exact i6 | exact jN | exact nH | exact mT | exact mU | exact nT | exact oJ | exact oY | exact lA | exact mr | exact mM | exact mY | exact nW | exact qv | exact jM | exact ph | exact nl | exact ov | exact rE | exact nm | exact rA | exact nq | exact qZ); assumption; (first | exact Qj rfl | exact PB rfl | exact P5 rfl | exact Qr rfl | exact PP rfl | exact Qo rfl | exact QB rfl | exact Qb rfl); exact rfl; exact rfl; exact Nat.le_of_ble_eq_true rfl; exact rfl)) | ((with_reducible apply bZ); exact rfl; exact decide_eq_true (by omega)) | ((with_reducible apply ct); exact rfl; exact decide_eq_false (by omega))); exact h.1) : G := e ⟨h⟩
theorem J1 {G' G : Prop} (h : G') (e : Jh G' → G := by intro h; (iterate 1 refine J0 ?_); exact h.1) : G := e ⟨h⟩
theorem J2 {G' G : Prop} (h : G') (e : Jh G' → G := by intro h; (iterate 2 refine J0 ?_); exact h.1) : G := e ⟨h⟩
theorem J3 {G' G : Prop} (h : G') (e : Jh G' → G := by intro h; (iterate 3 refine J0 ?_); exact h.1) : G := e ⟨h⟩
theorem J4 {G' G : Prop} (h : G') (e : Jh G' → G := by intro h; (iterate 4 refine J0 ?_); exact h.1) : G := e ⟨h⟩
theorem J5 {G' G : Prop} (h : G') (e : Jh G' → G := by intro h; (iterate 5 refine J0 ?_); exact h.1) : G := e ⟨h⟩
theorem J6 {G' G : Prop} (h : G') (e : Jh G' → G := by intro h; (iterate 6 refine J0 ?_); exact h.1) : G := e ⟨h⟩
theorem J7 {G' G : Prop} (h : G') (e : Jh G' → G := by intro h; (iterate 7 refine J0 ?_); exact h.1) : G := e ⟨h⟩
theorem J8 {G' G : Prop} (h : G') (e : Jh G' → G := by intro h; (iterate 8 refine J0 ?_); exact h.1) : G := e ⟨h⟩
theorem J9 {G' G : Prop} (h : G') (e : Jh G' → G := by intro h; (iterate 9 refine J0 ?_); exact h.1) : G := e ⟨h⟩
theorem Rq {G' G : Prop} (h : G') (e : Jh G' → G := by intro h; (iterate 10 refine J0 ?_); exact h.1) : G := e ⟨h⟩
theorem Ru {G' G : Prop} (h : G') (e : Jh G' → G := by intro h; (iterate 11 refine J0 ?_); exact h.1) : G := e ⟨h⟩
theorem V1 {G' G : Prop} (h : G') (e : Jh G' → G := by intro h; (iterate 1 refine J0 ?_); refine ja ?_; exact h.1) : G := e ⟨h⟩
theorem V2 {G' G : Prop} (h : G') (e : Jh G' → G := by intro h; (iterate 2 refine J0 ?_); refine ja ?_; exact h.1) : G := e ⟨h⟩
theorem V3 {G' G : Prop} (h : G') (e : Jh G' → G := by intro h; (iterate 3 refine J0 ?_); refine ja ?_; exact h.1) : G := e ⟨h⟩
theorem V4 {G' G : Prop} (h : G') (e : Jh G' → G := by intro h; (iterate 4 refine J0 ?_); refine ja ?_; exact h.1) : G := e ⟨h⟩
theorem V5 {G' G : Prop} (h : G') (e : Jh G' → G := by intro h; (iterate 5 refine J0 ?_); refine ja ?_; exact h.1) : G := e ⟨h⟩
theorem V6 {G' G : Prop} (h : G') (e : Jh G' → G := by intro h; (iterate 6 refine J0 ?_); refine ja ?_; exact h.1) : G := e ⟨h⟩
theorem V7 {G' G : Prop} (h : G') (e : Jh G' → G := by intro h; (iterate 7 refine J0 ?_); refine ja ?_; exact h.1) : G := e ⟨h⟩
theorem V9 {G' G : Prop} (h : G') (e : Jh G' → G := by intro h; (iterate 9 refine J0 ?_); refine ja ?_; exact h.1) : G := e ⟨h⟩
theorem RD {G' G : Prop} (h : G') (e : Jh G' → G := by intro h; (iterate 10 refine J0 ?_); refine ja ?_; exact h.1) : G := e ⟨h⟩
theorem Y1 {G' G : Prop} (h : G') (e : Jh G' → G := by intro h; (iterate 1 refine J0 ?_); refine jr ?_; exact h.1) : G := e ⟨h⟩
theorem Y4 {G' G : Prop} (h : G') (e : Jh G' → G := by intro h; (iterate 4 refine J0 ?_); refine jr ?_; exact h.1) : G := e ⟨h⟩
theorem Y5 {G' G : Prop} (h : G') (e : Jh G' → G := by intro h; (iterate 5 refine J0 ?_); refine jr ?_; exact h.1) : G := e ⟨h⟩
theorem drop_one (s:ByteArray) (k:Nat) (hk:k<s.size):(s.extract k s.size).extract 1 (s.extract k s.size).size=s.extract (k+1) s.size:=by
 have hsz:(s.extract k s.size).size=s.size-k:=by simp
 rw[hsz];apply ByteArray.ext;simp only[ByteArray.data_extract,Array.extract_extract];congr 1;omega
theorem C5 (s:ByteArray) (k:Nat):gf (s.extract k s.size)=(gf s).drop k:=by
 unfold gf;rw[ByteArray.data_extract,Array.toList_extract,List.extract,List.map_take,List.map_drop,List.take_of_length_le];have h:(s.data.toList.map UInt8.toNat).length=s.size:=iz s;rw[List.length_drop,h];omega
theorem wK (s:ByteArray) (i:Nat) (h:i<s.size):(gf s)[i]'(by rw[iz];exact h)=(s[i]).toNat:=by
 unfold gf;rw[List.getElem_map];rfl
theorem pL (s:ByteArray) (k:Nat) (hk:k<=s.size) (hz:∀i (_:i<k) (h:i<s.size),s[i]=0) (hn:k=s.size\/∃h:k<s.size,s[k]≠0):s.extract k s.size=bB (val s):=by
 have hl:(gf s).length=s.size:=iz s;have h1:=C5 s k;have h2:((gf s).drop k).reverse=mf 256 (val s):=by
  have h3:(gf s).reverse=((gf s).drop k).reverse++List.replicate k 0:=by
   have h5:(gf s).take k=List.replicate k 0:=by
    apply List.ext_getElem
    ·rw[List.length_take,List.length_replicate,hl];omega
    ·intro i g1 g2;rw[List.getElem_take,List.getElem_replicate];have hi:i<k:=by rw[List.length_replicate]at g2;exact g2
     rw[wK s i oO,hz i hi oO];rfl
   conv=>lhs;rw[<-List.take_append_drop k (gf s),List.reverse_append,h5,List.reverse_replicate]
  have h4:val s=cF 256 ((gf s).drop k).reverse:=by
   unfold val;rw[h3,kP,sL,Nat.mul_zero,Nat.add_zero]
  rw[h4,pC dD _ (λd hd=>tT s d (List.mem_of_mem_drop (List.mem_reverse.1 hd)))];unfold trimmed;rw[List.getLast?_reverse,List.head?_drop];rcases hn with rfl|⟨h,hne⟩
  ·rw[List.getElem?_eq_none oO];simp
  ·rw[List.getElem?_eq_getElem oO,wK s k h];intro h0;apply hne;have:(s[k]).toNat=0:=Option.some.inj h0;exact UInt8.toNat_inj.1 (by rw[this];rfl)
 rw[<-Cm (s.extract k s.size),h1,bB,<-h2,List.reverse_reverse]
theorem uA (s:ByteArray) (w:World) (hs:s.size<=9223372036854775807):
  dj Tryz.prog 149 #[.string s,.int .u8 0] w λv w'=>v= .string (bB (val s))/\w'=w:=by
 refine enter Tryz.func149 rfl Tryz.ntmps149 rfl ?_;refine V1 ?_;refine aQ (σ:=Nat) (λk ρ w'=>k<=s.size/\(∀i (_:i<k) (h:i<s.size),s[i]=0)/\ρ 0= .string (s.extract k s.size)/\ρ 1= .int .u8 0/\w'=w) (λk=>s.size-k) 0
  ⟨oO,λi h=>oO,congrArg Value.string (by rw[ByteArray.extract_zero_size]),rfl,rfl⟩ ?_
 rintro k ρ w' ⟨hk,hz,h0,h1,rfl⟩;have hsz:(s.extract k s.size).size=s.size-k:=by simp
 by_cases hlt:k<s.size
 ·have hpos:0<(s.extract k s.size).size:=oO;have hget:(s.extract k s.size)[0]=s[k]:=by rw[ByteArray.getElem_extract];rfl
  refine J4 ?_;refine ax (ai 8 kR rfl dT) (aI h0 (ax (ai 8 kR rfl dT) (pF (i:=0) rfl rfl oO oO Tryz.underlying9 (ax (ai 8 kR rfl dT) (aI h1 (ax (ai 8 kR rfl dT) (i7 rfl rfl (jp (aZ (vb rfl dT) rfl ?_)))))))));refine ja ?_;refine Rb _ rfl (λh=> ?_) (λh=> ?_)
  ·refine nk (nx (pR ?_));refine J1 ?_;refine jp (A1 (lo:=1) rfl rfl rfl oO Tryz.underlying9 ?_);refine V1 ?_;refine⟨k+1,_,rfl,⟨oO,λi hi hi'=> ?_,congrArg Value.string (drop_one s k hlt),h1,rfl⟩,oO⟩;rcases Nat.lt_or_ge i k with h2|h2
   ·exact hz i h2 hi'
   ·obtain rfl:i=k:=oO;rw[<-hget];exact UInt8.toNat_inj.1 (by have h:=h;simp at h;exact h)
  ·refine J2 ?_;refine jt ?_;refine bj rfl rfl ⟨congrArg Value.string (pL s k hk hz (.inr ⟨hlt,λh2=>h ?_⟩)),rfl⟩;rw[hget,h2];rfl
 ·refine J4 ?_;refine bI (ak 8 kR rfl dF) (bI (ak 8 kR rfl dF) (bI (ak 8 kR rfl dF) (bI (ak 8 kR rfl dF) (jp (aZ (vb rfl dF) rfl ?_)))));refine ja ?_;refine ct rfl (rfl) ?_;refine J2 ?_;refine jt ?_;exact bj rfl rfl ⟨congrArg Value.string (pL s k hk hz (.inl oO)),rfl⟩
theorem Co (s:ByteArray) (w:World) (hs:s.size<=9223372036854775807):
  dj Tryz.prog 110 #[.string s,.string ⟨#[0]⟩] w λv w'=>v= .string (bB (val s))/\w'=w:=by
 refine enter Tryz.func110 rfl Tryz.ntmps110 rfl ?_;refine V1 ?_;by_cases he:s=⟨#[]⟩
 ·refine J1 ?_;refine jp (lL rfl rfl ?_);refine J1 ?_;refine bI (ak 9 kR rfl (decide_eq_true he)) (bI (ak 9 kR rfl (decide_eq_true he)) (jp (aZ (vb rfl (decide_eq_true he)) rfl ?_)));refine ja ?_;refine bZ rfl (rfl) ?_;refine J2 ?_;refine jt ?_;refine bj rfl rfl ?_;refine⟨congrArg Value.string ?_,rfl⟩;rw[he];exact yw.symm
 ·have h0:¬((⟨#[0]⟩:ByteArray)=⟨#[]⟩):=by intro h;cases h
  refine J1 ?_;refine jp (lL rfl rfl ?_);refine J1 ?_;refine ax (ai 9 kR rfl (decide_eq_false he)) (aI rfl (ax (ai 9 kR rfl (decide_eq_false he)) (lL rfl rfl (jp (aZ (vb rfl (decide_eq_false he)) rfl ?_)))));refine ja ?_;refine ct rfl (decide_eq_false h0) ?_;refine J4 ?_;refine ax (ai 17 kR rfl rfl) (aI rfl (ax (ai 17 kR rfl rfl) (pF (i:=0) rfl rfl rfl dD Tryz.underlying9 (ax (ai 17 kR rfl rfl) (oE rfl rfl (jp (aZ (vb rfl rfl) rfl ?_)))))));refine ja ?_;refine bZ rfl (by decide+kernel) ?_;refine J2 ?_;refine jp (pF (i:=0) rfl rfl rfl dD Tryz.underlying9 (jh (ah Tryz.call149 rfl (uA s w hs) ?_)));rintro v w' ⟨rfl,rfl⟩;refine J1 ?_;refine jt ?_;refine bj rfl rfl ?_;exact⟨rfl,rfl⟩
theorem eQ (s:ByteArray) (w:World) (hs:s.size<=9223372036854775807):
  dj Tryz.prog 66 #[.string s] w λv w'=>v= .string (bB (val s))/\w'=w:=by
 refine enter Tryz.func66 rfl Tryz.ntmps66 rfl ?_;refine J2 ?_;refine jh (ah Tryz.call110 rfl (Co s w hs) ?_);rintro v w' ⟨rfl,rfl⟩;refine J1 ?_;refine jt ?_;refine bj rfl rfl ?_;exact⟨rfl,rfl⟩
theorem iR {m:Int} (r:Int) (h:m=r∧-9223372036854775808<=r/\r<=9223372036854775807):IntKind.i64.wrap m=r:=by
 obtain⟨rfl,h1⟩:=h;exact IntWalk.i64_in _ h1
theorem bV {m:Int} (r:Int) (h:m=r/\0<=r/\r<=18446744073709551615):IntKind.u64.wrap m=r:=by
 obtain⟨rfl,h1⟩:=h;exact IntWalk.u64_in _ h1
theorem ic {m:Int} (r:Int) (h:m=r/\0<=r/\r<=4294967295):IntKind.u32.wrap m=r:=by
 obtain⟨rfl,h1⟩:=h;exact IntWalk.u32_in _ h1
theorem kN (n:Nat):IntKind.u32.wrap (n:Int)=((n%4294967296:Nat):Int):=by rw[me];omega
theorem nw (n:Nat):IntKind.u8.wrap (n:Int)=((n%256:Nat):Int):=by rw[Jg];omega
theorem nM {k:IntKind} (m c:Nat) (r:Int) (hc:c<=k.bits) (hr:k.wrap ((m*2^c:Nat):Int)=r):k.wrap ((m:Int)*2^(min ((c:Int)).toNat k.bits))=r:=by
 rw[Int.toNat_natCast,Nat.min_eq_left hc,<-hr];push_cast;rfl
theorem i5 {k:IntKind} (m c:Nat) (hc:c<=k.bits):(m:Int).fdiv (2^(min ((c:Int)).toNat k.bits))=((m/2^c:Nat):Int):=by
 rw[MY (k:=k) (m:Int) c hc];push_cast;rfl
theorem St.RG {w0 w:World} {H:List bQ} {b k:Nat} {t:TypeId} {kk:IntKind} {L:List Nat} (h:St w0 w H) (hk:H[k]?=some (b,t,Kr kk L)):At w ⟨b,0,none⟩ (Kr kk L):=by
 have:=h.at hk 0 (Kr kk L).length;rwa[List.drop_zero,List.take_length]at this
theorem yx (L:List Nat):(ry L).size=L.length:=by
 show((L.map UInt8.ofNat).toArray).size=_;simp
def bO (b v j:Nat):Nat:=v/b^j%b
theorem jO {b:Nat} (hb:0<b) (v j:Nat):bO b v j<b:=Nat.mod_lt _ hb
def pad (b v n:Nat):List Nat:=(List.range n).map (bO b v)
@[simp] theorem pad_length (b v n:Nat):(pad b v n).length=n:=by simp[pad]
theorem fE (b v:Nat) {n j:Nat} (h:j<n):(pad b v n).getD j 0=bO b v j:=by simp[pad,List.getD,h]
theorem lE {b:Nat} (hb:0<b) (v n:Nat):∀d∈pad b v n,d<b:=by
 intro d hd;obtain⟨j,_,rfl⟩:=List.mem_map.1 hd;exact jO hb v j
theorem pq (b v n:Nat):pad b v (n+1)=(v%b)::pad b (v/b) n:=by
 unfold pad;rw[List.range_succ_eq_map,List.map_cons,List.map_map];congr 1
 ·simp[bO]
 ·apply List.map_congr_left;intro j _;simp[bO,Nat.div_div_eq_div_mul,Nat.pow_succ,Nat.mul_comm]
theorem wC {b:Nat} (n:Nat):∀v,cF b (pad b v n)=v%b^n:=by
 induction n with
 |zero=>intro v;simp[pad,cF,Nat.mod_one]
 |succ n ih=>
  intro v;rw[pq];show v%b+b*cF b (pad b (v/b) n)=_;rw[ih,Nat.pow_succ,Nat.mul_comm (b^n) b,Nat.mod_mul]
theorem ef {b v n:Nat} (h:v<b^n):cF b (pad b v n)=v:=by rw[wC,Nat.mod_eq_of_lt h]
theorem n9 {b:Nat} (hb:0<b):∀(L:List Nat) (_:∀d∈L,d<b) (j:Nat),bO b (cF b L) j=L.getD j 0
 | [],_,j=>by simp[bO,cF,Nat.zero_div,Nat.zero_mod]
 |d::L,h,0=>by
  show(d+b*cF b L)/b^0%b=d;rw[Nat.pow_zero,Nat.div_one,Nat.add_mul_mod_self_left,Nat.mod_eq_of_lt (h d (by simp))]
 |d::L,h,j+1=>by
  have ih:=n9 hb L (λd hd=>h d (by simp[hd])) j;show(d+b*cF b L)/b^(j+1)%b=_;rw[Nat.pow_succ,Nat.mul_comm (b^j) b,<-Nat.div_div_eq_div_mul,Nat.add_mul_div_left _ _ hb,Nat.div_eq_of_lt (h d (by simp)),Nat.zero_add];simpa[bO]using ih
theorem GO {b:Nat} (hb:2<=b) (v j:Nat):(mf b v).getD j 0=bO b v j:=by
 rw[<-n9 oO (mf b v) (ru hb v),kS hb]
theorem IV {b v:Nat} {L:List Nat} (h:∀j,j<L.length->L.getD j 0=bO b v j):L=pad b v L.length:=by
 apply List.ext_getElem
 ·simp
 ·intro j h1 h2;have:=h j h1;rw[List.getD_eq_getElem?_getD,List.getElem?_eq_getElem h1]at this;simp only[pad,List.getElem_map,List.getElem_range];exact this
theorem dt (v j:Nat):(bH v).getD j 0=bO ap v j:=GO dD v j
theorem pI (v:Nat):∀d∈bH v,d<ap:=ru dD v
theorem jR (v:Nat):cF ap (bH v)=v:=kS dD v
theorem BJ {v n:Nat} (h:v<ap^n):bH (cF ap (pad ap v n))=bH v:=by rw[ef h]
theorem ui (s:ByteArray) (i:Nat) (h:i<s.size):(s[s.size-1-i]).toNat=bO 256 (val s) i:=by
 unfold val;rw[n9 dD _ (λd hd=>tT s d (List.mem_reverse.1 hd))];have hl:=iz s;rw[List.getD_eq_getElem?_getD,List.getElem?_reverse (by rw[hl];exact h),hl];rw[List.getElem?_eq_getElem (by rw[hl];omega)];unfold gf;rw[List.getElem_map];rfl
theorem mod_pow_succ (b v i:Nat):v%b^(i+1)=v%b^i+b^i*bO b v i:=by
 rw[Nat.mod_pow_succ];rfl
theorem nv (a d r:Nat) (h:a<2^r):a|||d*2^r=a+d*2^r:=by
 have:=Nat.two_pow_add_eq_or_of_lt h d;rw[Nat.or_comm,Nat.mul_comm,<-this,Nat.add_comm]
theorem qF {b:Nat} (hb:0<b) (v x:Nat) {j k:Nat} (h:j<k):bO b (v+b^k*x) j=bO b v j:=by
 unfold bO;obtain⟨m,rfl⟩:∃m,k=j+(m+1):=⟨k-j-1,oO⟩;rw[Nat.pow_add,Nat.mul_assoc,Nat.add_mul_div_left _ _ (Nat.pow_pos hb),Nat.pow_succ,Nat.mul_comm (b^m) b,Nat.mul_assoc,Nat.add_mul_mod_self_left]
theorem Du {b:Nat} (hb:0<b) (v x k:Nat):bO b (v+b^k*x) k=(v/b^k+x)%b:=by
 unfold bO;rw[Nat.add_mul_div_left _ _ (Nat.pow_pos hb)]
theorem nc {b v j:Nat} (h:v<b^j):bO b v j=0:=by
 unfold bO;rw[Nat.div_eq_of_lt h,Nat.zero_mod]
theorem j4 {b v k:Nat} (hb:0<b) (h:v<b^(k+1)):bO b v k=v/b^k:=by
 unfold bO;exact Nat.mod_eq_of_lt ((Nat.div_lt_iff_lt_mul (Nat.pow_pos hb)).2 (by rwa[Nat.pow_succ,Nat.mul_comm]at h))
theorem si {b v n k x:Nat} (hb:2<=b) (hv:v<b^(k+1)) (hx:v+b^k*x<b^(k+1)):(pad b v n).set k (bO b v k+x)=pad b (v+b^k*x) n:=by
 have hb':0<b:=oO;rw[IV (b:=b) (v:=v+b^k*x) (L:=(pad b v n).set k (bO b v k+x)) ?_]
 ·simp
 ·intro j hj;have hj':j<n:=by simpa using hj
  rw[List.getD_eq_getElem?_getD,List.getElem?_set];split
  ·rename_i h;subst h;rw[if_pos (by simpa using hj'),Option.getD_some,j4 hb' hv,j4 hb' hx,Nat.add_mul_div_left _ _ (Nat.pow_pos hb')]
  ·rename_i h;rw[<-List.getD_eq_getElem?_getD,fE b v hj'];rcases Nat.lt_or_ge j k with h1|h1
   ·rw[qF hb' v x h1]
   ·have h2:b^(k+1)<=b^j:=Nat.pow_le_pow_right hb' oO;rw[nc oO,nc oO]
theorem zS (i:Nat):256^i=ap^(i/4)*2^(8*(i%4)):=by
 have h1:(256:Nat)=2^8:=rfl;have h2:ap=2^32:=rfl;rw[h1,h2,<-Nat.pow_mul,<-Nat.pow_mul,<-Nat.pow_add];congr 1;omega
theorem BS (v i n:Nat):(pad ap (v%256^i) n).set (i/4) (bO ap (v%256^i) (i/4)|||bO 256 v i*2^(8*(i%4)))=pad ap (v%256^(i+1)) n:=by
 have h0:v%256^i<ap^(i/4)*2^(8*(i%4)):=by rw[<-zS];exact Nat.mod_lt _ (Nat.pow_pos dD)
 have h1:256^(i+1)<=ap^(i/4+1):=by
  rw[show(256:Nat)=2^8 from rfl,show ap=2^32 from rfl,<-Nat.pow_mul,<-Nat.pow_mul];exact Nat.pow_le_pow_right dD oO
 have h2:v%256^(i+1)<256^(i+1):=Nat.mod_lt _ (Nat.pow_pos dD);have h5:v%256^i<=v%256^(i+1):=by rw[mod_pow_succ];omega
 have h3:v%256^(i+1)=v%256^i+ap^(i/4)*(bO 256 v i*2^(8*(i%4))):=by
  rw[mod_pow_succ];conv=>lhs;rw[show(256:Nat)^i*bO 256 v i=ap^(i/4)*2^(8*(i%4))*bO 256 v i by rw[<-zS]]
  rw[Nat.mul_assoc,Nat.mul_comm (2^(8*(i%4)))]
 have h4:bO ap (v%256^i) (i/4)<2^(8*(i%4)):=by
  rw[j4 dD oO];exact Nat.div_lt_of_lt_mul h0
 rw[nv _ _ _ h4,h3];exact si dD oO oO
theorem gD (b n:Nat):pad b 0 n=List.replicate n 0:=by
 apply List.ext_getElem
 ·simp
 ·intro j h1 h2;simp[pad,bO]
theorem kx {b:Nat} (hb:0<b) (v i:Nat):v%b^i<b^i:=Nat.mod_lt _ (Nat.pow_pos hb)
theorem xE {b:Nat} (hb:2<=b) (v i n:Nat):(pad b (v%b^i) n).set i (bO b v i)=pad b (v%b^(i+1)) n:=by
 have h1:=kx (b:=b) oO v i;have h2:=kx (b:=b) oO v (i+1);have h3:b^(i+1)=b^i*b:=Nat.pow_succ ..;have h4:b^i<=b^(i+1):=Nat.pow_le_pow_right oO oO;have h:=si (b:=b) (v:=v%b^i) (n:=n) (k:=i) (x:=bO b v i) hb oO (by rw[<-mod_pow_succ];exact h2);rw[nc h1,Nat.zero_add,<-mod_pow_succ]at h;exact h
theorem BF {α:Type} (L:List α) (i:Nat) (x:α) (h:i<L.length):L.reverse.set (L.length-1-i) x=(L.set i x).reverse:=by
 apply List.ext_getElem?;intro j;rcases Nat.lt_or_ge j L.length with hj|hj
 ·rw[List.getElem?_reverse (by simpa using hj),List.getElem?_set,List.getElem?_set,List.getElem?_reverse hj,List.length_set];by_cases h1:L.length-1-i=j
  ·have h2:i=L.length-1-j:=oO;rw[if_pos h1,if_pos h2,if_pos (by simp;omega),if_pos h]
  ·have h2:¬i=L.length-1-j:=oO;rw[if_neg h1,if_neg h2]
 ·rw[List.getElem?_eq_none (by simp;omega),List.getElem?_eq_none (by simp;omega)]
theorem Aw (v i:Nat):bO ap v (i/4)/2^(8*(i%4))%256=bO 256 v i:=by
 unfold bO;rw[zS,<-Nat.div_div_eq_div_mul];generalize v/ap^(i/4)=x;have h4:i%4=0\/i%4=1\/i%4=2\/i%4=3:=oO;rcases h4 with h|h|h|h<;>rw[h]<;>simp only[ap]<;>omega
theorem CA (v n:Nat):val (ry (pad 256 v n).reverse)=v%256^n:=by
 rw[I9 _ (λd hd=>lE dD _ _ d (List.mem_reverse.1 hd)),List.reverse_reverse,wC]
theorem qb (v:Value) (L:List Nat) (w:World) (hv:Sl (uk .u32) 1 w v L) (hL:∀d∈L,d<ap):
  dj Tryz.prog 112 #[v] w λr w'=>Sl (uk .u32) 1 w r (bH (cF ap L))/\w'=w:=by
 have hmax:=hv.maxLen;refine enter Tryz.func112 rfl Tryz.ntmps112 rfl ?_;refine J2 ?_;refine jp (aF rfl hv ⟨_,Tryz.underlying139⟩ ?_);refine V1 ?_;refine aQ (σ:=Nat) (λn ρ w'=>n<=L.length/\(∀i,n<=i->i<L.length->L.getD i 0=0)/\ρ 0=v/\ρ 3=iB n/\w'=w) (λn=>n) L.length
  ⟨Nat.le_refl _,λi h1 h2=>oO,rfl,rfl,rfl⟩ ?_
 rintro n ρ w' ⟨hn,hz,h0,h3,rfl⟩;have hdone:(n=0\/L.getD (n-1) 0≠0)->L.take n=bH (cF ap L):=λh=>ob (b:=ap) dD L n hL hn hz h;by_cases hpos:0<n
 ·by_cases hl:L.getD (n-1) 0=0
  ·refine J3 ?_;refine ax (ai 8 kR rfl dT) (aI h0 (ax (ai 8 kR rfl dT) (aI h3 (ax (ai 8 kR rfl dT) (k9 rfl rfl (IntWalk.i64_in _ oO) (ax (ai 8 kR rfl dT) (aH (i:=n-1) rfl rfl hv oO dO ce (bW (ai 8 kR rfl dT) (aO (i:=n-1) 0 rfl bG hv dO rfl rfl (.inr rfl) (ax (ai 8 kR rfl dT) (i7 rfl rfl (jp (aZ (vb rfl dT) rfl ?_)))))))))))));refine V4 ?_;refine⟨n-1,_,rfl,⟨oO,λi h1 h2=> ?_,h0,vi rfl oO,rfl⟩,oO⟩;rcases Nat.lt_or_ge i n with h4|h4
   ·rw[show i=n-1 by omega];exact hl
   ·exact hz i h4 h2
  ·refine J3 ?_;refine ax (ai 8 kR rfl dT) (aI h0 (ax (ai 8 kR rfl dT) (aI h3 (ax (ai 8 kR rfl dT) (k9 rfl rfl (IntWalk.i64_in _ oO) (ax (ai 8 kR rfl dT) (aH (i:=n-1) rfl rfl hv oO dO ce (bW (ai 8 kR rfl dT) (aO (i:=n-1) 0 rfl bG hv dO rfl rfl (.inr rfl) (ax (ai 8 kR rfl dT) (i7 rfl rfl (jp (aZ (vb rfl dT) rfl ?_)))))))))))));refine J3 ?_;refine jp (sJ (hi:=n) rfl rfl hv rfl hn ce ?_);refine J1 ?_;refine jt ?_;refine bj rfl rfl ?_;refine⟨?_,rfl⟩;rw[<-hdone (.inr hl)];exact hv.sub (tB _) dD (Nat.zero_le n) hn
 ·refine J3 ?_;refine bI (ak 8 kR rfl dF) (bI (ak 8 kR rfl dF) (bI (ak 8 kR rfl dF) (bI (ak 8 kR rfl dF) (bI (ak 8 kR rfl dF) (bI (ak 8 kR rfl dF) (jp (aZ (vb rfl dF) rfl ?_)))))));refine ja ?_;refine ct rfl (rfl) ?_;refine J2 ?_;refine jp (sJ (hi:=n) rfl rfl hv rfl hn ce ?_);refine J1 ?_;refine jt ?_;refine bj rfl rfl ?_;refine⟨?_,rfl⟩;rw[<-hdone (.inl oO)];exact hv.sub (tB _) dD (Nat.zero_le n) hn
theorem ji (s:ByteArray) (w:World) (hs:s.size<=70368744177664):
  dj Tryz.prog 69 #[.string s] w λr w'=>Sl (uk .u32) 1 w' r (bH (val s))/\Below w.heap.size w w':=by
 have hS:=St.init w;refine enter Tryz.func69 rfl Tryz.ntmps69 rfl ?_;refine J5 ?_;refine jp (kV rfl rfl oO (IntWalk.i64_quo _ _ oO) (jh (iI (n:=(s.size+3)/4) rfl rfl ce oO oO oO oO hS ?_)));intro b1 wz2 hS hBz2;refine V4 ?_;obtain⟨n,hn⟩:=jz ((s.size+3)/4);rw[<-hn,<-gD ap n,show 0=val s%256^0 by rw[Nat.pow_zero,Nat.mod_one]]at hS;refine aQ (σ:=Nat) (λi ρ w'=>i<=s.size/\ρ 0= .string s/\ρ 3= .slice (some ⟨b1,0,none⟩) n n/\ρ 12=iB s.size/\ρ 13=iB i/\St w w' [(b1,141,Kr .u32 (pad ap (val s%256^i) n))]) (λi=>s.size-i) 0
  ⟨Nat.zero_le _,rfl,by rw[hn];rfl,rfl,rfl,hS⟩ ?_
 clear hS;rintro i ρ w2 ⟨hi,h0,h3,h12,h13,hS⟩;refine V1 ?_;by_cases hlt:i<s.size
 ·refine V3 ?_;have hb:=ui s i hlt;have hl:=jO (b:=ap) dD (val s%256^i) (i/4);have hd:=jO (b:=256) dD (val s) i;have hg:(pad ap (val s%256^i) n).getD (i/4) 0=bO ap (val s%256^i) (i/4):=fE _ _ oO;have hp:2^(8*(i%4))<=2^24:=Nat.pow_le_pow_right dD oO;have hq:bO 256 (val s) i*2^(8*(i%4))<4294967296:=Nat.lt_of_le_of_lt (Nat.mul_le_mul (Nat.le_of_lt_succ hd) hp) dD;refine ja ?_;refine bk [jo 0,jo 1,jo 2,jo 3,ju 4,jo 5,jo 6,jo 7,jo 8,jo 9,jo 10,jo 11,jo 12,jo 13,jo 14,jo 15,jo 16,jo 17,jo 18,jw 19] kR kR hS ?_;intro wz3 hS hBz3;refine J2 ?_;refine jl rfl (kV rfl rfl oO (r:=((i/4:Nat):Int)) (by exact IntWalk.i64_quo _ _ oO) (jl rfl (bn (i:=i/4) rfl rfl oO dO ce (jm rfl (fz (k:=0) (i:=i/4) rfl bG hS rfl oO dO ?_)))));refine J6 ?_;refine jl rfl (pF (i:=s.size-1-i) rfl rfl oO oO Tryz.underlying9 (jl rfl (bF rfl Tryz.underlying141 ⟨_,Tryz.underlying5⟩ (r:=((bO 256 (val s) i:Nat):Int)) (by rw[hb];exact IntWalk.u32_in _ oO) ?_)));refine J1 ?_;refine jl rfl (iJ rfl rfl oO (r:=((i%4:Nat):Int)) (by rfl) (jl rfl (oH rfl rfl (r:=((8*(i%4):Nat):Int)) (by exact iR _ oO) (jl rfl (nL rfl rfl oO (nM _ _ _ (show _<=32 by omega) (ic _ ⟨rfl,oO,oO⟩)) (jl rfl (rV rfl rfl (km rfl _ _ (by rw[hg];exact hl) hq) (jl rfl (bn (i:=i/4) rfl rfl oO dO ce (jx rfl (hJ (k:=0) (i:=i/4) (a:=_) rfl rfl rfl bG hS rfl oO dO ?_)))))))))));intro wz4 hS;refine ja ?_;rw[hg,BS]at hS;refine V2 ?_;exact⟨i+1,_,rfl,⟨hlt,h0,h3,h12,vi rfl oO,hS⟩,oO⟩
 ·refine J1 ?_;refine jt ?_;obtain rfl:i=s.size:=oO;have hval:val s<256^s.size:=zE s;have h256:256^s.size<=ap^n:=by
   rw[show(256:Nat)=2^8 from rfl,show ap=2^32 from rfl,<-Nat.pow_mul,<-Nat.pow_mul];exact Nat.pow_le_pow_right dD oO
  rw[Nat.mod_eq_of_lt hval]at hS;have hsl:=hS.C9 (k:=0) rfl (n:=n) (cap:=n) (by simp) (Nat.le_refl _) oO;rw[List.take_of_length_le (by simp)]at hsl;refine J1 ?_;refine jh (ah Tryz.call112 rfl (qb _ _ _ hsl (lE dD _ _)) ?_);rintro r w3 ⟨hr,rfl⟩;refine J1 ?_;refine jt ?_;refine bj rfl rfl ?_;rw[BJ oO]at hr;exact⟨hr,hS.ab⟩
theorem oA (v:Value) (L:List Nat) (w:World) (hv:Sl (uk .u32) 1 w v L) (hL:∀d∈L,d<ap) (hs:L.length<=17592186044416):
  dj Tryz.prog 70 #[v] w λr w'=>r= .string (bB (cF ap L))/\Below w.heap.size w w':=by
 have hS:=St.init w;refine enter Tryz.func70 rfl Tryz.ntmps70 rfl ?_;refine J2 ?_;refine jp (aF rfl hv ⟨_,Tryz.underlying139⟩ (jp (oH rfl rfl (IntWalk.i64_in _ oO) (jh (iI (n:=4*L.length) rfl rfl wq oO oO oO oO hS ?_)))));intro b1 wz2 hS hBz2;refine V4 ?_;obtain⟨V,hV⟩:=jz (cF ap L);obtain⟨n,hn⟩:=jz (4*L.length);have h00:List.replicate (4*L.length) 0=(pad 256 (V%256^0) n).reverse:=by rw[Nat.pow_zero,Nat.mod_one,gD,List.reverse_replicate,hn]
 rw[h00]at hS;refine aQ (σ:=Nat) (λi ρ w'=>i<=n/\ρ 0=v/\ρ 3= .slice (some ⟨b1,0,none⟩) n n/\ρ 10=iB n/\ρ 11=iB i/\St w w' [(b1,5,Kr .u8 (pad 256 (V%256^i) n).reverse)]) (λi=>n-i) 0
  ⟨Nat.zero_le _,rfl,by rw[hn];rfl,vi rfl (by rw[hn]),rfl,hS⟩ ?_
 clear hS;rintro i ρ w3 ⟨hi,h0,h3,h10,h11,hS⟩;have hv2:=hv.ab hS.ab;refine V1 ?_;by_cases hlt:i<n
 ·refine V3 ?_;have hg:L.getD (i/4) 0=bO ap V (i/4):=by rw[hV,n9 dD _ hL]
  have hl:=jO (b:=ap) dD V (i/4);have hlen:(pad 256 (V%256^i) n).length=n:=pad_length _ _ _;refine J8 ?_;refine jp (kV rfl rfl oO (r:=((i/4:Nat):Int)) (by exact IntWalk.i64_quo _ _ oO) (jp (aH (i:=i/4) rfl rfl hv2 oO dO ce (jq (aO (i:=i/4) 0 rfl bG hv2 dO rfl rfl (.inr rfl) ?_)))));refine J1 ?_;refine jp (iJ rfl rfl oO (r:=((i%4:Nat):Int)) (by rfl) (jp (oH rfl rfl (r:=((8*(i%4):Nat):Int)) (by exact iR _ oO) (jp (iU rfl rfl oO (i5 _ _ (show _<=32 by omega)) (jp (bF rfl Tryz.underlying5 ⟨_,Tryz.underlying141⟩ (nw _) (jp (bn (i:=n-1-i) rfl rfl oO dO wq (jh (hJ (k:=0) (i:=n-1-i) (a:=_) rfl rfl rfl QT hS rfl oO dO ?_)))))))))));intro wz3 hS;refine ja ?_;have hset:=BF (pad 256 (V%256^i) n) i (bO 256 V i) oO;rw[hg,Aw,show n-1-i=(pad 256 (V%256^i) n).length-1-i by omega,hset,xE dD]at hS;refine V2 ?_;exact⟨i+1,_,rfl,⟨hlt,h0,h3,h10,vi rfl oO,hS⟩,oO⟩
 ·refine J1 ?_;refine jt ?_;obtain rfl:i=n:=oO;have hVlt:V<256^i:=by
   have:=mb L hL;rwa[<-hV,show ap=256^4 from rfl,<-Nat.pow_mul,<-hn]at this
  have hat:=St.RG hS (k:=0) rfl;have hsz:(ry (pad 256 (V%256^i) i).reverse).size<=9223372036854775807:=by rw[yx];simp;omega
  refine J1 ?_;refine jq (NA rfl ⟨Tryz.underlying189,Tryz.underlying5,Tryz.underlying9⟩ (by simp) hat (jh (ah Tryz.call66 rfl (eQ _ _ hsz) ?_)));rintro r w4 ⟨rfl,rfl⟩;refine J1 ?_;refine jt ?_;refine bj rfl rfl ?_;rw[CA,Nat.mod_mod,Nat.mod_eq_of_lt hVlt,hV];exact⟨rfl,hS.ab⟩
def lx (m n:Nat):Int:=if m<n then-1 else if n<m then 1 else 0
theorem pW (n:Nat):lx n n=0:=by simp[lx]
theorem ni {m n:Nat} (h:m<n):lx m n= -1:=by simp[lx,h]
theorem mZ {m n:Nat} (h:n<m):lx m n=1:=by simp[lx,h,show¬m<n by omega]
theorem gX (b m i:Nat):m/b^i=b*(m/b^(i+1))+bO b m i:=by
 unfold bO;rw[Nat.pow_succ,<-Nat.div_div_eq_div_mul];exact(Nat.div_add_mod _ _).symm
theorem kO {b m n i:Nat} (h:m/b^i<n/b^i):m<n:=by
 rcases Nat.lt_or_ge m n with h1|h1
 ·exact h1
 ·have:=Nat.div_le_div_right (c:=b^i) h1;omega
theorem mR {m n:Nat} (h:(bH m).length<(bH n).length):m<n:=by
 rcases Nat.lt_or_ge m n with h1|h1
 ·exact h1
 ·have:=ft (b:=ap) dD h1;unfold bH at h;omega
theorem FK (n:Int) (w:World):
  dj Tryz.prog 133 #[.int .i64 n] w λr w'=>r= .int .i64 (if n<0 then-1 else if 0<n then 1 else 0)/\w'=w:=by
 refine enter Tryz.func133 rfl Tryz.ntmps133 rfl ?_;refine V4 ?_;by_cases h1:n<0
 ·refine bZ rfl (decide_eq_true h1) ?_;refine J1 ?_;refine jt ?_;refine bj rfl rfl ?_;exact⟨vi rfl (by rw[if_pos h1]),rfl⟩
 ·refine ct rfl (decide_eq_false h1) ?_;refine V3 ?_;by_cases h2:0<n
  ·refine bZ rfl (decide_eq_true h2) ?_;refine J1 ?_;refine jt ?_;refine bj rfl rfl ?_;exact⟨vi rfl (by rw[if_neg h1,if_pos h2]),rfl⟩
  ·refine ct rfl (decide_eq_false h2) ?_;refine J1 ?_;refine jt ?_;refine bj rfl rfl ?_;exact⟨vi rfl (by rw[if_neg h1,if_neg h2]),rfl⟩
theorem JU {m n:Nat} (h:(bH m).length≠(bH n).length):(if((bH m).length:Int)-((bH n).length:Int)<0 then-1 else if 0<((bH m).length:Int)-((bH n).length:Int)then 1 else 0)=lx m n:=by
 rcases Nat.lt_or_ge (bH m).length (bH n).length with h1|h1
 ·rw[if_pos oO,ni (mR h1)]
 ·rw[if_neg oO,if_pos oO,mZ (mR oO)]
theorem xW (u v:Value) (m n:Nat) (w:World) (hu:Sl (uk .u32) 1 w u (bH m)) (hv:Sl (uk .u32) 1 w v (bH n)):
  dj Tryz.prog 118 #[u,v] w λr w'=>r= .int .i64 (lx m n)/\Below w.heap.size w w':=by
 have hlu:=hu.maxLen;have hlv:=hv.maxLen;have hS:=St.init w;refine enter Tryz.func118 rfl Tryz.ntmps118 rfl ?_;refine J2 ?_;refine jp (aF rfl (hu.ab hS.ab) ⟨_,Tryz.underlying139⟩ ?_);refine J1 ?_;refine jp (aF rfl (hv.ab hS.ab) ⟨_,Tryz.underlying139⟩ ?_);refine V1 ?_;by_cases hl:(bH m).length=(bH n).length
 ·refine ct rfl (decide_eq_false (by simp[hl])) ?_;refine J1 ?_;refine jp (aF rfl (hu.ab hS.ab) ⟨_,Tryz.underlying139⟩ ?_);refine V2 ?_;refine aQ (σ:=Nat) (λi ρ w'=>i<=(bH m).length/\m/ap^i=n/ap^i/\ρ 0=u/\ρ 1=v/\ρ 5=iB ((i:Int)-1)/\St w w' []) (λi=>i) (bH m).length
   ⟨Nat.le_refl _,?_,rfl,rfl,rfl,hS⟩ ?_
  ·have h1:m<ap^(bH m).length:=eo dD m;have h2:n<ap^(bH n).length:=eo dD n;rw[Nat.div_eq_of_lt h1,hl,Nat.div_eq_of_lt h2]
  clear hS;rintro i ρ w' ⟨hi,hq,h0,h1,h5,hS⟩;refine V2 ?_;by_cases hpos:0<i
  ·refine V1 ?_;have hlen:i-1<(bH m).length:=oO;refine ja ?_;refine bk [jo 0,jo 1,jo 2,ju 3,jo 4,jo 5,jo 6,ju 7,jo 8] kR kR hS ?_;intro wz1 hS hBz1;refine J2 ?_;refine jl rfl (aH (i:=i-1) rfl rfl (hu.ab hS.ab) oO dO ce (jm rfl (aO (i:=i-1) 0 rfl bG (hu.ab hS.ab) dO rfl rfl (.inr rfl) ?_)));refine J2 ?_;refine jl rfl (aH (i:=i-1) rfl rfl (hv.ab hS.ab) oO dO ce (jm rfl (aO (i:=i-1) 0 rfl bG (hv.ab hS.ab) dO rfl rfl (.inr rfl) ?_)));refine V1 ?_;rw[dt,dt];have hs1:=gX ap m (i-1);have hs2:=gX ap n (i-1);rw[show i-1+1=i by omega]at hs1 hs2;by_cases hne:bO ap m (i-1)=bO ap n (i-1)
   ·refine V4 ?_;exact⟨i-1,_,rfl,⟨oO,by rw[hs1,hs2,hq,hne],h0,h1,vi rfl oO,hS⟩,oO⟩
   ·refine V1 ?_;refine bk [jo 0,jo 1,jo 2,ju 3,jo 4,jo 5,jo 6,ju 7,jo 8] kR kR hS ?_;intro wz2 hS hBz2;refine J2 ?_;refine jl rfl (aH (i:=i-1) rfl rfl (hu.ab hS.ab) oO dO ce (jm rfl (aO (i:=i-1) 0 rfl bG (hu.ab hS.ab) dO rfl rfl (.inr rfl) ?_)));refine J2 ?_;refine jl rfl (aH (i:=i-1) rfl rfl (hv.ab hS.ab) oO dO ce (jm rfl (aO (i:=i-1) 0 rfl bG (hv.ab hS.ab) dO rfl rfl (.inr rfl) ?_)));refine V1 ?_;rw[dt,dt];by_cases hlt:bO ap m (i-1)<bO ap n (i-1)
    ·refine J2 ?_;refine jt ?_;refine bj rfl rfl ?_;refine⟨vi rfl (ni (kO (b:=ap) (i:=i-1) ?_)).symm,hS.ab⟩;rw[hs1,hs2,hq];omega
    ·refine J2 ?_;refine jt ?_;refine bj rfl rfl ?_;refine⟨vi rfl (mZ (kO (b:=ap) (i:=i-1) ?_)).symm,hS.ab⟩;rw[hs1,hs2,hq];omega
  ·refine J2 ?_;refine jt ?_;refine bj rfl rfl ?_;obtain rfl:i=0:=oO;rw[Nat.pow_zero,Nat.div_one,Nat.div_one]at hq;rw[hq];exact⟨vi rfl (by rw[pW]),hS.ab⟩
 ·refine J2 ?_;refine jp (aF rfl (hu.ab hS.ab) ⟨_,Tryz.underlying139⟩ ?_);refine J1 ?_;refine jp (aF rfl (hv.ab hS.ab) ⟨_,Tryz.underlying139⟩ ?_);refine J1 ?_;refine jh (ah Tryz.call133 rfl (FK _ _) ?_);rintro r w' ⟨rfl,rfl⟩;refine J1 ?_;refine jt ?_;refine bj rfl rfl ?_;exact⟨vi rfl (JU hl),hS.ab⟩
theorem nS:∀(a b:List UInt8),a.length=b.length->Lib.compareBytes a b=lx (cF 256 (a.map UInt8.toNat).reverse) (cF 256 (b.map UInt8.toNat).reverse)
 | [],[],_=>by simp[Lib.compareBytes,lx]
 |x::a,y::b,h=>by
  have hl:a.length=b.length:=by simpa using h
  have ih:=nS a b hl;rw[List.map_cons,List.map_cons,List.reverse_cons,List.reverse_cons,kP,kP];have h1:=mb (b:=256) (a.map UInt8.toNat).reverse (λd hd=>by obtain⟨u,_,rfl⟩:=List.mem_map.1 (List.mem_reverse.1 hd);exact u.toNat_lt);have h2:=mb (b:=256) (b.map UInt8.toNat).reverse (λd hd=>by obtain⟨u,_,rfl⟩:=List.mem_map.1 (List.mem_reverse.1 hd);exact u.toNat_lt);rw[List.length_reverse,List.length_map]at h1 h2;rw[List.length_reverse,List.length_reverse,List.length_map,List.length_map];rw[hl]at h1⊢;generalize cF 256 (a.map UInt8.toNat).reverse=m at h1 ih;generalize cF 256 (b.map UInt8.toNat).reverse=n at h2 ih;generalize 256^b.length=k at h1 h2;rw[Lib.compareBytes,ih];simp only[cF,Nat.mul_zero,Nat.add_zero,UInt8.lt_iff_toNat_lt];generalize x.toNat=p;generalize y.toNat=q;split
  ·rename_i hpq;have:k*(p+1)<=k*q:=Nat.mul_le_mul_left _ hpq;rw[Nat.mul_add]at this;rw[ni oO]
  ·split
   ·rename_i hpq;have:k*(q+1)<=k*p:=Nat.mul_le_mul_left _ hpq;rw[Nat.mul_add]at this;rw[mZ oO]
   ·obtain rfl:p=q:=oO;unfold lx;simp
theorem sM {m n:Nat} (h:(bB m).size=(bB n).size):Lib.compareBytes (bB m).data.toList (bB n).data.toList=lx m n:=by
 have h':(bB m).data.toList.length=(bB n).data.toList.length:=h;rw[nS _ _ h'];have h1:=bX m;have h2:=bX n;unfold val gf at h1 h2;rw[h1,h2]
theorem sW {m n:Nat} (h:(bB m).size<(bB n).size):m<n:=by
 rcases Nat.lt_or_ge m n with h1|h1
 ·exact h1
 ·have:=ft (b:=256) dD h1;rw[kI,kI]at h;omega
theorem xh {m n:Nat} (h:(bB m).size≠(bB n).size):(if((bB m).size:Int)-((bB n).size:Int)<0 then-1 else if 0<((bB m).size:Int)-((bB n).size:Int)then 1 else 0)=lx m n:=by
 rcases Nat.lt_or_ge (bB m).size (bB n).size with h1|h1
 ·rw[if_pos oO,ni (sW h1)]
 ·rw[if_neg oO,if_pos oO,mZ (sW oO)]
theorem I0 {N:Nat} {ρ:Nat->Value} {w:World} {K2:Value->World->Prop} {x y:Operand} {a b:ByteArray} {ats:Array TypeId} {d:Option Tmp} {ty:TypeId} {pos:String} {aft:Array Edge} {g:Option (Nat×Bool)}
  (hx:ev N ρ x= .string a) (hy:ev N ρ y= .string b) (h:K2 (.int .i64 (Lib.compareBytes a.data.toList b.data.toList)) w):
  gZ Tryz.prog N ρ w ⟨d,.call ⟨.value (.func 195),#[x,y],ats⟩,ty,pos,aft,g⟩ K2:=by
 refine fK (v:= .int .i64 (Lib.compareBytes a.data.toList b.data.toList)) (w':=w) ?_ h;have he:ev N ρ (.func 195)= .func (.func 195) #[] #[]:=rfl;simp only[execOp,resolve,he,Deferred.ofValue,invoke,List.map_toArray,List.map_cons,List.map_nil,hx,hy,Sem.run_bind,Sem.run_pure,Result.andThen_ok,Array.empty_append,Array.append_empty];rw[run_callFunc_extern Tryz.func195 kR kR kR (e:=Extern.BytealgCompare.compare) kR,Lib.run_compareString];rfl
theorem tf (a b:ByteArray) (w:World):
  dj Tryz.prog 169 #[.string a,.string b] w λr w'=>r= .int .i64 (Lib.compareBytes a.data.toList b.data.toList)/\w'=w:=by
 refine enter Tryz.func169 rfl Tryz.ntmps169 rfl ?_;refine J3 ?_;refine jh (I0 rfl rfl ?_);refine J1 ?_;refine jt ?_;refine bj rfl rfl ?_;exact⟨rfl,rfl⟩
theorem yc (a b:ByteArray) (w:World):
  dj Tryz.prog 134 #[.string a,.string b] w λr w'=>r= .int .i64 (Lib.compareBytes a.data.toList b.data.toList)/\w'=w:=by
 refine enter Tryz.func134 rfl Tryz.ntmps134 rfl ?_;refine J3 ?_;refine jh (ah Tryz.call169 rfl (tf _ _ _) ?_);rintro v w' ⟨rfl,rfl⟩;refine J1 ?_;refine jt ?_;refine bj rfl rfl ?_;exact⟨rfl,rfl⟩
theorem Dv (a b:ByteArray) (w:World) (ha:a.size<=9223372036854775807) (hb:b.size<=9223372036854775807):
  dj Tryz.prog 90 #[.string a,.string b] w λr w'=>r= .int .i64 (lx (val a) (val b))/\w'=w:=by
 refine enter Tryz.func90 rfl Tryz.ntmps90 rfl ?_;refine J2 ?_;refine jh (ah Tryz.call66 rfl (eQ _ _ ha) ?_);rintro v w' ⟨rfl,rfl⟩;refine J1 ?_;refine jh (ah Tryz.call66 rfl (eQ _ _ hb) ?_);rintro v w' ⟨rfl,rfl⟩;refine V2 ?_;have h1:=i3 a;have h2:=i3 b;refine V5 ?_;by_cases hl:(bB (val a)).size=(bB (val b)).size
 ·refine ct rfl (decide_eq_false (by simp[hl])) ?_;refine J2 ?_;refine jh (ah Tryz.call134 rfl (yc _ _ _) ?_);rintro v w' ⟨rfl,rfl⟩;refine J1 ?_;refine jt ?_;refine bj rfl rfl ?_;exact⟨vi rfl (sM hl),rfl⟩
 ·refine J6 ?_;refine jh (ah Tryz.call133 rfl (FK _ _) ?_);rintro r w' ⟨rfl,rfl⟩;refine J1 ?_;refine jt ?_;refine bj rfl rfl ?_;exact⟨vi rfl (xh hl),rfl⟩
def o9:ByteArray:=⟨((List.range 256).map λi=>UInt8.ofNat (Lib.bitLen i)).toArray⟩
theorem ot:o9.size=256:=by decide+kernel
theorem Gf:∀i:Fin 256,(o9[i.val]'(by rw[ot];exact i.isLt)).toNat=Lib.bitLen i.val:=by decide+kernel
theorem nU (i:Nat) (h:i<o9.size):(o9[i]).toNat=Lib.bitLen i:=Gf ⟨i,by rw[<-ot];exact h⟩
theorem Ip (x:Nat) (w:World) (h1:x<ap):
  dj Tryz.prog 181 #[.int .u32 x] w λr w'=>r= .int .i64 (Lib.bitLen x)/\w'=w:=by
 have hB:ap=4294967296:=rfl;have hT:256=o9.size:=ot.symm;refine enter Tryz.func181 rfl Tryz.ntmps181 rfl ?_;refine V3 ?_;by_cases g1:65536<=x
 ·refine J2 ?_;refine jp (iU rfl rfl oO (r:=((x/65536:Nat):Int)) (by exact i5 (k:= .u32) x 16 dD) ?_);refine V4 ?_;by_cases g2:256<=(x/65536)
  ·refine J2 ?_;refine jp (iU rfl rfl oO (r:=(((x/65536)/256:Nat):Int)) (by exact i5 (k:= .u32) _ 8 dD) ?_);refine V4 ?_;have h8:Lib.bitLen (((x/65536)/256)%256)<=8:=Lib.bitLen_le8 ⟨((x/65536)/256)%256,oO⟩;refine J2 ?_;refine jp (bF rfl Tryz.underlying5 ⟨_,Tryz.underlying141⟩ (r:=((((x/65536)/256)%256:Nat):Int)) (by exact nw _) (jp (pF (s:=o9) (i:=((x/65536)/256)%256) (congrArg Value.string (by decide+kernel)) rfl rfl oO Tryz.underlying9 (jp (bF rfl Tryz.underlying3 ⟨_,Tryz.underlying5⟩ (r:=((Lib.bitLen (((x/65536)/256)%256):Nat):Int)) (by rw[nU];exact iR _ ⟨rfl,oO,oO⟩) ?_)))));refine J2 ?_;refine jt ?_;refine bj rfl rfl ?_;have e:Lib.bitLen x=24+Lib.bitLen (((x/65536)/256)%256):=by rw[Lib.bitLen_shift24 x oO oO,show x/16777216=x/65536/256%256 by omega]
   exact⟨vi rfl oO,rfl⟩
  ·refine V1 ?_;have h8:Lib.bitLen ((x/65536)%256)<=8:=Lib.bitLen_le8 ⟨(x/65536)%256,oO⟩;refine J2 ?_;refine jp (bF rfl Tryz.underlying5 ⟨_,Tryz.underlying141⟩ (r:=(((x/65536)%256:Nat):Int)) (by exact nw _) (jp (pF (s:=o9) (i:=(x/65536)%256) (congrArg Value.string (by decide+kernel)) rfl rfl oO Tryz.underlying9 (jp (bF rfl Tryz.underlying3 ⟨_,Tryz.underlying5⟩ (r:=((Lib.bitLen ((x/65536)%256):Nat):Int)) (by rw[nU];exact iR _ ⟨rfl,oO,oO⟩) ?_)))));refine J2 ?_;refine jt ?_;refine bj rfl rfl ?_;have e:Lib.bitLen x=16+Lib.bitLen ((x/65536)%256):=by rw[Lib.bitLen_shift16 x oO oO,show x/65536%256=x/65536 by omega]
   exact⟨vi rfl oO,rfl⟩
 ·refine V3 ?_;by_cases g2:256<=x
  ·refine J2 ?_;refine jp (iU rfl rfl oO (r:=((x/256:Nat):Int)) (by exact i5 (k:= .u32) _ 8 dD) ?_);refine V4 ?_;have h8:Lib.bitLen ((x/256)%256)<=8:=Lib.bitLen_le8 ⟨(x/256)%256,oO⟩;refine J2 ?_;refine jp (bF rfl Tryz.underlying5 ⟨_,Tryz.underlying141⟩ (r:=(((x/256)%256:Nat):Int)) (by exact nw _) (jp (pF (s:=o9) (i:=(x/256)%256) (congrArg Value.string (by decide+kernel)) rfl rfl oO Tryz.underlying9 (jp (bF rfl Tryz.underlying3 ⟨_,Tryz.underlying5⟩ (r:=((Lib.bitLen ((x/256)%256):Nat):Int)) (by rw[nU];exact iR _ ⟨rfl,oO,oO⟩) ?_)))));refine J2 ?_;refine jt ?_;refine bj rfl rfl ?_;have e:Lib.bitLen x=8+Lib.bitLen ((x/256)%256):=by rw[Lib.bitLen_shift8 x oO oO,show x/256%256=x/256 by omega]
   exact⟨vi rfl oO,rfl⟩
  ·refine V1 ?_;have h8:Lib.bitLen (x%256)<=8:=Lib.bitLen_le8 ⟨x%256,oO⟩;refine J2 ?_;refine jp (bF rfl Tryz.underlying5 ⟨_,Tryz.underlying141⟩ (r:=((x%256:Nat):Int)) (by exact nw _) (jp (pF (s:=o9) (i:=x%256) (congrArg Value.string (by decide+kernel)) rfl rfl oO Tryz.underlying9 (jp (bF rfl Tryz.underlying3 ⟨_,Tryz.underlying5⟩ (r:=((Lib.bitLen (x%256):Nat):Int)) (by rw[nU];exact iR _ ⟨rfl,oO,oO⟩) ?_)))));refine J2 ?_;refine jt ?_;refine bj rfl rfl ?_;have e:Lib.bitLen x=0+Lib.bitLen (x%256):=by rw[Nat.zero_add,Nat.mod_eq_of_lt oO]
   exact⟨vi rfl oO,rfl⟩
theorem qx:∀(k x:Nat),x<2^k->k<=64->Lib.bitLen x<=k/\x<2^Lib.bitLen x/\(x≠0->0<Lib.bitLen x/\2^(Lib.bitLen x-1)<=x)
 |0,x,h,_=>by
  have:x=0:=by simpa using h
  subst this;exact⟨by decide+kernel,by decide+kernel,λh=>absurd rfl h⟩
 |k+1,x,h,hk=>by
  by_cases hx:x=0
  ·subst hx;have h0:Lib.bitLen 0=0:=by decide+kernel
   rw[h0];exact⟨oO,dD,λh=>absurd rfl h⟩
  ·have hlt:x<2^64:=Nat.lt_of_lt_of_le h (Nat.pow_le_pow_right dD hk);obtain⟨h1,h2,h3⟩:=qx k (x/2) (by rw[Nat.pow_succ]at h;omega) oO;rw[Lib.bitLen_half x hx hlt];refine⟨oO,?_,λ_=>⟨oO,?_⟩⟩
   ·rw[Nat.add_comm,Nat.pow_succ];omega
   ·rw[Nat.add_sub_cancel_left];by_cases h4:x/2=0
    ·rw[h4,show Lib.bitLen 0=0 by decide+kernel];omega
    ·obtain⟨h5,h6⟩:=h3 h4;have:2^Lib.bitLen (x/2)=2^(Lib.bitLen (x/2)-1)*2:=by rw[<-Nat.pow_succ];congr 1;omega
     omega
theorem sI (x:Nat) (w:World) (h0:0<x) (h1:x<ap):
  dj Tryz.prog 154 #[.int .u32 x] w λr w'=>(∃c:Nat,c<32/\x*2^c<ap/\ap<=2*(x*2^c)/\r= .int .i64 c)/\w'=w:=by
 have hB:ap=4294967296:=rfl;obtain⟨g1,g2,g3⟩:=qx 32 x oO dD;obtain⟨g4,g5⟩:=g3 oO;have hl:=Ip x w h1;refine enter Tryz.func154 rfl Tryz.ntmps154 rfl ?_;refine J2 ?_;refine jh (ah Tryz.call181 rfl (hl) ?_);rintro r w' ⟨rfl,rfl⟩;refine J2 ?_;refine jt ?_;refine bj rfl rfl ?_;refine⟨⟨32-Lib.bitLen x,oO,?_,?_,vi rfl oO⟩,rfl⟩
 ·have:x*2^(32-Lib.bitLen x)<2^Lib.bitLen x*2^(32-Lib.bitLen x):=Nat.mul_lt_mul_of_pos_right g2 (Nat.pow_pos dD);rw[<-Nat.pow_add,show Lib.bitLen x+(32-Lib.bitLen x)=32 by omega]at this;exact this
 ·have:2^(Lib.bitLen x-1)*2^(32-Lib.bitLen x)<=x*2^(32-Lib.bitLen x):=Nat.mul_le_mul_right _ g5;rw[<-Nat.pow_add,show Lib.bitLen x-1+(32-Lib.bitLen x)=31 by omega]at this;omega
theorem CC (x y c:Nat) (w:World) (hx:x<ap) (hy:y<ap) (hc:c<ap):
  dj Tryz.prog 117 #[.int .u32 x,.int .u32 y,.int .u32 c] w λr w'=>
   r= .tuple #[.int .u32 ((x+y+c)%ap:Nat),.int .u32 ((x+y+c)/ap:Nat)]/\w'=w:=by
 have hB:ap=4294967296:=rfl;refine enter Tryz.func117 rfl Tryz.ntmps117 rfl ?_;refine J9 ?_;refine jp (ia rfl rfl (r:=((x+y+c:Nat):Int)) (by exact bV _ oO) ?_);refine J2 ?_;refine jp (bF rfl Tryz.underlying141 ⟨_,Tryz.underlying99⟩ (kN _) ?_);refine J2 ?_;refine jp (iU rfl rfl dD (MY _ 32 dD) (jp (bF rfl Tryz.underlying141 ⟨_,Tryz.underlying99⟩ (r:=(((x+y+c)/ap:Nat):Int)) (by exact ic _ (by unfold ap at*;omega)) ?_)));refine J1 ?_;refine jt ?_;refine j6 rfl rfl rfl ?_;exact⟨rfl,rfl⟩
theorem Ad {k:IntKind} (hk:k.signed=false) (m n:Nat) (hm:m<2^k.bits) (hn:n<2^k.bits):iF .xor k m n=((m^^^n:Nat):Int):=by
 have hlt:m^^^n<2^k.bits:=Nat.xor_lt_two_pow hm hn;have h:((m^^^n:Nat):Int)%2^k.bits=((m^^^n:Nat):Int):=Int.emod_eq_of_lt oO (by exact_mod_cast hlt);simp only[iF,BitVec.ofInt_natCast,BitVec.toNat_xor,BitVec.toNat_ofNat,Nat.mod_eq_of_lt hm,Nat.mod_eq_of_lt hn,IntKind.wrap,hk,Bool.false_and,h];simp
theorem u7 (z:Nat) (hz:z<ap):z/2^31=(z.testBit 31).toNat:=by
 have hB:ap=4294967296:=rfl;rw[Nat.testBit_eq_decide_div_mod_eq];by_cases h:z/2^31%2=1
 ·rw[decide_eq_true h];show _=1;omega
 ·rw[decide_eq_false h];show _=0;omega
theorem Ek (x y b:Nat) (hx:x<ap) (hy:y<ap) (hb:b<=1):
  (((4294967295^^^x)&&&y)|||((4294967295^^^(x^^^y))&&&((x+2*ap-y-b)%ap)))/2^31=if x<y+b then 1 else 0:=by
 have hB:ap=4294967296:=rfl;obtain⟨D,hD⟩:=jz (x+2*ap-y-b);rw[<-hD];have hD2:D+y+b=x+2*ap:=oO;clear hD;have hd:D%ap<ap:=Nat.mod_lt _ oO;have h2:ap=2^32:=rfl;have hz:(((4294967295^^^x)&&&y)|||((4294967295^^^(x^^^y))&&&(D%ap)))<ap:=by
  rw[h2]at*;exact Nat.or_lt_two_pow (Nat.and_lt_two_pow _ hy) (Nat.and_lt_two_pow _ hd)
 rw[u7 _ hz];simp only[Nat.testBit_or,Nat.testBit_and,Nat.testBit_xor];rw[show Nat.testBit 4294967295 31=true by decide];have tx:=u7 x hx;have ty:=u7 y hy;have td:=u7 _ hd;revert tx ty td
 generalize x.testBit 31=p;generalize y.testBit 31=q;generalize (D%ap).testBit 31=r;intro tx ty td;rcases Nat.lt_or_ge x (y+b)with h|h
 ·rw[if_pos h];cases p<;>cases q<;>cases r<;>simp only[Bool.toNat,cond]at tx ty td<;>first|rfl|(exfalso;unfold ap at*;omega)
 ·rw[if_neg oO];cases p<;>cases q<;>cases r<;>simp only[Bool.toNat,cond]at tx ty td<;>first|rfl|(exfalso;unfold ap at*;omega)
theorem xH (x y b:Nat) (w:World) (hx:x<ap) (hy:y<ap) (hb:b<=1):
  dj Tryz.prog 161 #[.int .u32 x,.int .u32 y,.int .u32 b] w λr w'=>
   r= .tuple #[.int .u32 ((x+2*ap-y-b)%ap:Nat),.int .u32 (if x<y+b then 1 else 0:Nat)]/\w'=w:=by
 have hB:ap=4294967296:=rfl;have hd:(x+2*ap-y-b)%ap<ap:=Nat.mod_lt _ oO;have h2:ap=2^IntKind.u32.bits:=rfl;have hxy:x^^^y<2^32:=Nat.xor_lt_two_pow oO oO;have hnx:4294967295^^^x<2^32:=Nat.xor_lt_two_pow dD oO;have hnxy:4294967295^^^(x^^^y)<2^32:=Nat.xor_lt_two_pow dD hxy;have ha1:(4294967295^^^x)&&&y<2^32:=Nat.and_lt_two_pow _ oO;have ha2:(4294967295^^^(x^^^y))&&&((x+2*ap-y-b)%ap)<2^32:=Nat.and_lt_two_pow _ oO;refine enter Tryz.func161 rfl Tryz.ntmps161 rfl ?_;refine J4 ?_;refine jp (k9 rfl rfl (me _) ?_);refine J1 ?_;refine jp (k9 rfl rfl (r:=(((x+2*ap-y-b)%ap:Nat):Int)) (by rw[me];unfold ap at*;omega) ?_);refine J2 ?_;refine jp (Nz rfl (Ad rfl 4294967295 x dD hx) ?_);refine J1 ?_;refine jp (yT rfl rfl (Af rfl _ _ hnx hy) ?_);refine J2 ?_;refine jp (PZ rfl rfl (Ad rfl x y hx hy) (jp (Nz rfl (Ad rfl 4294967295 _ dD hxy) ?_)));refine J1 ?_;refine jp (yT rfl rfl (Af rfl _ _ hnxy hd) (jp (rV rfl rfl (km rfl _ _ ha1 ha2) (jp (iU rfl rfl dD (i5 _ 31 dD) ?_)))));refine J1 ?_;refine jt ?_;refine j6 rfl rfl rfl ?_;rw[Ek x y b hx hy hb];exact⟨rfl,rfl⟩
end Go.Proofs.YtoeiejliehgopaaGreatDoor
