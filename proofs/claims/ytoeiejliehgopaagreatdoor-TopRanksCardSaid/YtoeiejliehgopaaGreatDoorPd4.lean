import Derived.Test.YtoeiejliehgopaaGreatDoorPd3
import Derived.ProofKit
import Derived.OpenShut
import Derived.LaidMore
import Derived.Lay
import Derived.ChangeSlices
import Derived.Carry
import Derived.WideShapes
import Derived.Test.YtoeiejliehgopaaGreatDoorTie
import Derived.SevenTiedAt
import Derived.Stop.Joined
set_option maxRecDepth 20000
set_option maxHeartbeats 8000000
namespace Go.Sx
open Go Go.RowKit
section
variable {P : Program} {ops : Array Oper} {Kend : Act → World → Prop} {n x : Nat} {ox : Oper}
def AJ (P:Program) (ops:Array Oper) (Kend:Act->World->Prop) (n x:Nat) (ox:Oper):List (Nat×Md)->Act->World->Prop
 | [],a,w=>du P ops .aG ox a w Kend
 |(y,m)::σ,a,w=>du P ops .aG ox a w (wr P ops Kend ((y,m)::σ))/\(j5 ops n y x=false->match ops[y]?with
  |some oy=>du P ops m oy a w (AJ P ops Kend n x ox σ)
  |none=>False)
theorem C6 {σ:List (Nat×Md)} {a:Act} {w:World} (h:AJ P ops Kend n x ox σ a w):du P ops .aG ox a w (wr P ops Kend σ):=by
 cases σ with
 |nil=>exact dY (λa w h=>h) h
 |cons y σ=>exact h.1
theorem tC {y:Nat} {m:Md} {oy:Oper} {σ:List (Nat×Md)} {a:Act} {w:World} (hs:oI ops) (hx:ops[x]?=some ox) (hy:ops[y]?=some oy) (hsw:fw ops (y,m) (x,.aG)=true)
  (h:du P ops m oy a w (AJ P ops Kend n x ox σ)):AJ P ops Kend n x ox ((y,m)::σ) a w:=by
 refine⟨?_,λ_=>by rw[hy];exact h⟩;have h1:du P ops m oy a w (λa w=>du P ops .aG ox a w (wr P ops Kend σ)):=dY (λa w g=>C6 g) h;refine dY (λa w g=> ?_) (BZ hy hx (λcs b=>hs y oy cs b hy) (λcs b=>hs x ox cs b hx) hsw h1);simp only[wr,hy];exact g
theorem En {o:Oper} {a:Act} {w:World} {K K':Act->World->Prop} (h:du P ops .pure o a w K) (h':du P ops .pure o a w K'):du P ops .pure o a w (λa w=>K a w/\K' a w):=by
 by_cases hw:Region.wanted o (yielded ops a.tmps)=true
 ·rw[fv hw]at h h'⊢;obtain⟨v,g1,g2⟩:=h;obtain⟨v',g1',g2'⟩:=h';have e1:=g1 w;have e2:=g1' w;rw[e1]at e2;obtain rfl:v=v':=by simpa using e2
  exact⟨v,g1,g2,g2'⟩
 ·rw[iY hw]at h h'⊢;exact⟨h,h'⟩
theorem yH (hs:oI ops) (hx:ops[x]?=some ox) {i:Nat} {m:Md} {oi:Oper} (hi:ops[i]?=some oi) (hix:j5 ops n i x=false) {post:List (Nat×Md)}:
  ∀(pre:List (Nat×Md)) (a:Act) (w:World),(∀y∈pre,fw ops y (i,m)=true)->(∀y∈pre,(m= .pure/\fw ops (x,.aG) (i,m)=true)\/(j5 ops n y.1 x=false/\fw ops y (x,.aG)=true))->
   AJ P ops Kend n x ox (pre++(i,m)::post) a w->du P ops m oi a w (AJ P ops Kend n x ox (pre++post))
 | [],a,w,_,_,h=>by
  have:=h.2 hix;rw[hi]at this;exact this
 |(y,my)::pre,a,w,hp,hf,h=>by
  obtain⟨h1,h2⟩:=h;have hp':∀z∈pre,fw ops z (i,m)=true:=λz hz=>hp z (List.mem_cons_of_mem _ hz);have hf':=λz hz=>hf z (List.mem_cons_of_mem _ hz);have hyi:=hp (y,my) (List.mem_cons_self ..);cases hy:ops[y]?with
  |none=>
   unfold fw at hyi;simp only[hy]at hyi;cases hyi
  |some oy=>
   have hB:j5 ops n y x=false->du P ops m oi a w (λa w=>du P ops my oy a w (AJ P ops Kend n x ox (pre++post))):=λhd=>by
    have g:=h2 hd;rw[hy]at g;exact BZ hy hi (λcs b=>hs y oy cs b hy) (λcs b=>hs i oi cs b hi) hyi (dY (λa w g=>yH hs hx hi hix pre a w hp' hf' g) g)
   rcases hf (y,my) (List.mem_cons_self ..)with⟨rfl,hsx⟩|⟨hd,hsy⟩
   ·have hA:du P ops .pure oi a w (λa w=>du P ops .aG ox a w (wr P ops Kend ((y,my)::(pre++post)))):=
     BZ hx hi (λcs b=>hs x ox cs b hx) (λcs b=>hs i oi cs b hi) hsx (dY (λa w g=>wU hs hi ((y,my)::pre) a w hp g) h1)
    by_cases hd:j5 ops n y x=false
    ·refine dY (λa w g=> ?_) (En hA (hB hd));exact⟨g.1,λ_=>by rw[hy];exact g.2⟩
    ·exact dY (λa w g=>⟨g,λq=>absurd q hd⟩) hA
   ·exact dY (λa w g=>tC hs hx hy hsy g) (hB hd)
def kg (ops:Array Oper) (n x:Nat):List (Nat×Md)->Bool
 | []=>true
 |y::σ=> !Nat.beq y.1 x&&(σ.all λi=>j5 ops n i.1 x||j5 ops n i.1 y.1||((match i.2 with| .pure=>true|_=>false)&&fw ops (x,.aG) i)||(!j5 ops n y.1 x&&fw ops y (x,.aG)))&&kg ops n x σ
theorem qn {z:Nat×Md}:∀ {σ τ:List (Nat×Md)},kg ops n x (σ++z::τ)=true->kg ops n x (σ++τ)=true
 | [],τ,h=>by simp only[List.nil_append,kg,Bool.and_eq_true]at h⊢;exact h.2
 |y::σ,τ,h=>by
  simp only[List.cons_append,kg,Bool.and_eq_true,List.all_append,List.all_cons]at h⊢;exact⟨⟨h.1.1,h.1.2.1,h.1.2.2.2⟩,qn h.2⟩
theorem t5 {i:Nat} {m:Md}:∀ {pre post:List (Nat×Md)},kg ops n x (pre++(i,m)::post)=true->∀y∈pre,y.1≠x/\(j5 ops n i x=true\/j5 ops n i y.1=true\/(m= .pure/\fw ops (x,.aG) (i,m)=true)\/(j5 ops n y.1 x=false/\fw ops y (x,.aG)=true))
 | [],_,_,y,hy=>by cases hy
 |z::pre,post,h,y,hy=>by
  simp only[List.cons_append,kg,Bool.and_eq_true,List.all_append,List.all_cons]at h;rcases List.mem_cons.1 hy with rfl|hy
  ·refine⟨oT h.1.1,?_⟩;have h1:=h.1.2.2.1;simp only[Bool.or_eq_true,Bool.and_eq_true,Bool.not_eq_true']at h1;rcases h1 with((h1|h1)|h1)|h1
   ·exact .inl h1
   ·exact .inr (.inl h1)
   ·refine .inr (.inr (.inl ⟨?_,h1.2⟩));cases m<;>first|rfl|(exfalso;exact absurd h1.1 dD)
   ·exact .inr (.inr (.inr h1))
  ·exact t5 h.2 y hy
theorem wg:∀ {σ:List (Nat×Md)},kg ops n x σ=true->∀y∈σ,y.1≠x
 | [],_,y,hy=>by cases hy
 |z::σ,h,y,hy=>by
  simp only[kg,Bool.and_eq_true]at h;rcases List.mem_cons.1 hy with rfl|hy
  ·exact oT h.1.1
  ·exact wg h.2 y hy
theorem zW {Q:Exit->Act->World->Prop} (hs:oI ops) (hQ:∀a w,Kend a w->Q .normal a w) (hx:ops[x]?=some ox) (hxd:∀e∈ox.after,Region.binds .any e=false):
  ∀(fuel:Nat) (σ:List (Nat×Md)) (listed:Array Bool) (a:Act) (w:World),σ.length+1<=fuel->listed.size=ops.size->closed ops listed->
   (∀i,listed.getD i true=false↔i=x\/∃m,(i,m)∈σ)->gG ops n σ=true->lG ops ((x,.aG)::σ)=true->kg ops n x σ=true->AJ P ops Kend n x ox σ a w->wpAny P .any ops Q fuel listed a w:=by
 intro fuel;induction fuel with
 |zero=>intro σ listed a w hlen;omega
 |succ fuel ih=>
  intro σ listed a w hlen hsz hc hl hp ht hf h;have hxun:listed.getD x true=false:=(hl x).2 (.inl rfl);refine⟨λhr=> ?_,λi hi=> ?_⟩
  ·exfalso;have hxr:x∈Region.ready .any ops listed:=mem_ready.2 ⟨hxun,ox,hx,λe he hb=>by rw[hxd e he]at hb;cases hb⟩;rw[hr]at hxr;cases hxr
  ·obtain⟨hun,oi,hoi,hdeps⟩:=mem_ready.1 hi;have hilt:i<listed.size:=by
    rcases Nat.lt_or_ge i listed.size with h2|h2
    ·exact h2
    ·simp[Array.getD,Nat.not_lt.2 h2]at hun
   have hclosed:closed ops (listed.setIfInBounds i true):=by
    intro j o hj hjl e he hb;by_cases hji:j=i
    ·subst hji;rw[hoi]at hj;obtain rfl:=Option.some.inj hj;exact getD_set_true (hdeps e he hb)
    ·rw[getD_set_ne true (Ne.symm hji)]at hjl;exact getD_set_true (hc j o hj hjl e he hb)
   have hself:∀ {p:Prop},¬p->((listed.setIfInBounds i true).getD i true=false↔p):=λhnp=>
    ⟨λhf=>by simp[Array.getD,hilt]at hf,λq=>absurd q hnp⟩
   have hne:=wg hf;by_cases hix:i=x
   ·subst hix;rw[hx]at hoi;obtain rfl:=Option.some.inj hoi;refine kL hx (dY (λa w hh=> ?_) (C6 h));simp only[lG,Bool.and_eq_true]at ht;refine uv hs hQ n fuel σ (listed.setIfInBounds i true) a w oO (by simpa using hsz) hclosed ?_ hp ht.2 hh;intro j;by_cases hji:j=i
    ·subst hji;exact hself λ⟨m,hm⟩=>hne _ hm rfl
    ·rw[getD_set_ne true (Ne.symm hji),hl j];exact⟨λq=>q.resolve_left hji,.inr⟩
   ·obtain⟨m,hm⟩:=((hl i).1 hun).resolve_left hix;obtain⟨pre,post,rfl⟩:=List.append_of_mem hm;have hlst:∀k,listed.getD k true=false->j5 ops n i k=true->False:=λk hk hd=>by
     have h2:=uh hc n i k (λo ho e he hb=>by rw[hoi]at ho;obtain rfl:=Option.some.inj ho;exact hdeps e he hb) hd;rcases Nat.lt_or_ge k listed.size with hlt|hlt
     ·simp only[Array.getD,hlt,dite_true]at h2 hk;rw[h2]at hk;cases hk
     ·simp[Array.getD,Nat.not_lt.2 hlt]at h2
    have hnd:∀y∈pre,y.1≠i/\(j5 ops n i y.1=true\/fw ops y (i,m)=true):=by
     clear ih h hl hlen ht hm hlst hf hne;induction pre with
     |nil=>intro y hy;cases hy
     |cons z pre ihp=>
      simp only[List.cons_append,gG,Bool.and_eq_true,List.all_append,List.all_cons]at hp;intro y hy;rcases List.mem_cons.1 hy with rfl|hy
      ·have h1:=hp.1.2.1;rw[Bool.or_eq_true]at h1;exact⟨oT h1.1,h1.2⟩
      ·exact ihp hp.2 y hy
    have hpost:∀y∈post,i≠y.1:=by
     clear ih h hl hlen ht hm hnd hlst hf hne;induction pre with
     |nil=>
      simp only[List.nil_append,gG,Bool.and_eq_true]at hp;intro y hy;have:=List.all_eq_true.1 hp.1 y hy;simp only[Bool.and_eq_true]at this;exact oT this.1
     |cons z pre ihp=>
      simp only[List.cons_append,gG,Bool.and_eq_true]at hp;exact ihp hp.2
    have hyun:∀y∈pre,listed.getD y.1 true=false:=λy hy=>(hl y.1).2 (.inr ⟨y.2,by simp[hy]⟩);have hsw:∀y∈pre,fw ops y (i,m)=true:=λy hy=>(hnd y hy).2.resolve_left λq=>hlst _ (hyun y hy) q;have hixd:j5 ops n i x=false:=by
     cases hd:j5 ops n i x with
     |false=>rfl
     |true=>exact(hlst x hxun hd).elim
    have hfl:∀y∈pre,(m= .pure/\fw ops (x,.aG) (i,m)=true)\/(j5 ops n y.1 x=false/\fw ops y (x,.aG)=true):=λy hy=>by
     rcases(t5 hf y hy).2 with q|q|q
     ·rw[hixd]at q;cases q
     ·exact(hlst _ (hyun y hy) q).elim
     ·exact q
    refine kL hoi (dY (λa w hh=> ?_) (yH hs hx hoi hixd pre a w hsw hfl h));refine ih (pre++post) (listed.setIfInBounds i true) a w (by simp at hlen⊢;omega) (by simpa using hsz) hclosed ?_ (nt hp) (og (σ:=(x,.aG)::pre) ht) (qn hf) hh;intro j;by_cases hji:j=i
    ·subst hji;refine hself ?_;rintro(q|⟨m',hm'⟩)
     ·exact hix q
     ·rcases List.mem_append.1 hm' with h1|h1
      ·exact absurd rfl (hnd _ h1).1
      ·exact absurd rfl (hpost _ h1)
    ·rw[getD_set_ne true (Ne.symm hji),hl j];constructor
     ·rintro(q|⟨m',hm'⟩)
      ·exact .inl q
      ·refine .inr ⟨m',?_⟩;rcases List.mem_append.1 hm' with h1|h1
       ·simp[h1]
       ·rcases List.mem_cons.1 h1 with h2|h2
        ·exact absurd (congrArg Prod.fst h2) hji
        ·simp[h2]
     ·rintro(q|⟨m',hm'⟩)
      ·exact .inl q
      ·refine .inr ⟨m',?_⟩;rcases List.mem_append.1 hm' with h1|h1
       ·simp[h1]
       ·simp[h1]
def FC (ops:Array Oper) (x:Nat) (σ:List (Nat×Md)):Bool:=
 Nat.ble (σ.length+1) ops.size&&(List.range ops.size).all (λi=>Nat.beq x i||σ.any λx=>Nat.beq x.1 i)&&σ.all (λx=>Nat.blt x.1 ops.size)&&gG ops ops.size σ&&lG ops ((x,.aG)::σ)&&kg ops ops.size x σ&&
 (match ops[x]?with|some o=>o.after.all λe=> !Region.binds .any e|none=>false)&&
 ops.all λo=>match o.op with| .select .. =>false|_=>true
end
structure Wx (P:Program) (ops:Array Oper) (Kend:Act->World->Prop) (x:Nat) (σ:List (Nat×Md)) (N:Nat) (ρ:Nat->Value) (w:World):Prop where
 out:oI ops->∀ox,ops[x]?=some ox->AJ P ops Kend ops.size x ox σ (act N ρ) w
section
variable {P : Program} {N : Nat} {ρ : Nat → Value} {w0 w : World} {Q : Exit → Act → World → Prop} {ops : Array Oper} {H : List bQ} {Kend : Act → World → Prop} {i x : Nat} {o : Oper} {σ : List (Nat × Md)}
theorem pT {id:Nat} {l:List Oper} (x:Nat) (σ:List (Nat×Md)) (hm:P.follows .mixedOrders=true) (hchk:FC l.toArray x σ=true) (hS:St w0 w H)
  (h:∀w',St w0 w' H->Below w.heap.size w w'->Wx P l.toArray (Q .normal) x σ N ρ w'):(Code.region id l.toArray true).wp P Q (act N ρ) w:=by
 simp only[FC,Bool.and_eq_true]at hchk;obtain⟨⟨⟨⟨⟨⟨⟨h1,h2⟩,h3⟩,h4⟩,h5⟩,h7⟩,h8⟩,h6⟩:=hchk;have hs:oI l.toArray:=by
  intro i o cs b hi hsel;have:=Array.all_eq_true'.1 h6 o (Array.mem_of_getElem? hi);rw[hsel]at this;cases this
 cases hx:l.toArray[x]?with
 |none=>rw[hx]at h8;cases h8
 |some ox=>
  rw[hx]at h8;have hxd:∀e∈ox.after,Region.binds .any e=false:=λe he=>by
   have:=Array.all_eq_true'.1 h8 e he;simpa using this
  have hbd:Below w.heap.size w {w with drawn:=w.drawn+1}:=(Below.refl _ w).drew;have hxlt:x<l.toArray.size:=by
   rcases Nat.lt_or_ge x l.toArray.size with q|q
   ·exact q
   ·rw[Array.getElem?_eq_none q]at hx;cases hx
  refine wp_region_any hm (zW (n:=l.toArray.size) hs (λ_ _ h=>h) hx hxd l.toArray.size σ _ _ _ (Nat.le_of_ble_eq_true h1) (by simp) ?_ ?_ h4 h5 h7 ((h _ (hS.aG hbd) hbd).out hs ox hx))
  ·intro j o _ hl;by_cases hj:j<l.toArray.size
   ·rw[Array.getD,dif_pos (by simpa using hj)]at hl;simp at hl
   ·rename_i hjo;rw[Array.getElem?_eq_none oO]at hjo;cases hjo
  ·intro j;constructor
   ·intro hf;have hj:j<l.toArray.size:=by
     rcases Nat.lt_or_ge j l.toArray.size with hlt|hlt
     ·exact hlt
     ·simp at hlt;simp[Array.getD,Nat.not_lt.2 hlt]at hf
    have:=List.all_eq_true.1 h2 j (by simpa using hj);rw[Bool.or_eq_true]at this;rcases this with q|q
    ·exact .inl (Nat.eq_of_beq_eq_true q).symm
    ·obtain⟨y,hy,hb⟩:=List.any_eq_true.1 q;exact .inr ⟨y.2,by rw[<-Nat.eq_of_beq_eq_true hb];exact hy⟩
   ·rintro(rfl|⟨m,hm'⟩)
    ·simp at hxlt;simp[Array.getD,hxlt]
    ·have:=List.all_eq_true.1 h3 _ hm';rw[Nat.blt_eq]at this;simp at this;simp[Array.getD,this]
theorem dG {d:Option Tmp} {p:Op} {ty:TypeId} {pos:String} {aft:Array Edge} {g:Option (Nat×Bool)} (hsw:fw ops (i,.pure) (x,.aG)=true) (ho:ops[i]?=some ⟨d,p,ty,pos,aft,g⟩) (hg:gd ops N ρ g=true) (h:dp P N ρ ⟨d,p,ty,pos,aft,g⟩ λv=>Wx P ops Kend x σ N (lH ρ d v) w):Wx P ops Kend x ((i,.pure)::σ) N ρ w:=by
 refine⟨λhs ox hx=>tC hs hx ho hsw ?_⟩;rw[fv (gB ops N ρ ⟨d,p,ty,pos,aft,g⟩ hg),gg];obtain⟨v,h1,h2⟩:=h;exact⟨v,h1,by rw[gR];exact h2.out hs ox hx⟩
theorem jE {d:Option Tmp} {p:Op} {ty:TypeId} {pos:String} {aft:Array Edge} {g:Option (Nat×Bool)} (hsw:fw ops (i,.read) (x,.aG)=true) (ho:ops[i]?=some ⟨d,p,ty,pos,aft,g⟩) (hg:gd ops N ρ g=true) (h:jP P N ρ w ⟨d,p,ty,pos,aft,g⟩ λv=>Wx P ops Kend x σ N (lH ρ d v) w):Wx P ops Kend x ((i,.read)::σ) N ρ w:=by
 refine⟨λhs ox hx=>tC hs hx ho hsw ?_⟩;rw[kH (gB ops N ρ ⟨d,p,ty,pos,aft,g⟩ hg),gg];obtain⟨v,h1,h2⟩:=h;exact⟨v,h1,by rw[gR];exact h2.out hs ox hx⟩
theorem lY {d:Option Tmp} {p:Op} {ty:TypeId} {pos:String} {aft:Array Edge} {g:Option (Nat×Bool)} (ho:ops[i]?=some ⟨d,p,ty,pos,aft,g⟩) (hg:gd ops N ρ g=true) (hnow:Wr P ops Kend ((x,.aG)::(i,.aG)::σ) N ρ w)
  (h:gZ P N ρ w ⟨d,p,ty,pos,aft,g⟩ λv w'=>Below w.heap.size w w'/\Wx P ops Kend x σ N (lH ρ d v) w'):Wx P ops Kend x ((i,.aG)::σ) N ρ w:=by
 refine⟨λhs ox hx=>⟨?_,λ_=> ?_⟩⟩
 ·have:=hnow.out;simp only[wr,hx]at this;exact this
 ·rw[ho];show du _ _ _ _ _ _ _;rw[jL (gB ops N ρ ⟨d,p,ty,pos,aft,g⟩ hg),gg];simp only[gR];exact gk (λv w h=>⟨h.1,h.2.out hs ox hx⟩) h.out
theorem tz {m:Md} (hd:j5 ops ops.size i x=true) (hnow:Wr P ops Kend ((x,.aG)::(i,m)::σ) N ρ w):Wx P ops Kend x ((i,m)::σ) N ρ w:=by
 refine⟨λhs ox hx=>⟨?_,λq=>by rw[hd]at q;cases q⟩⟩;have:=hnow.out;simp only[wr,hx]at this;exact this
end
end Go.Sx
namespace Go.Proofs.YtoeiejliehgopaaGreatDoor
open Go Go.RowKit Go.Sx
theorem sj (n:Int) (w:World) (h1: -9223372036854775808<=n) (h2:n<=9223372036854775807):
  dj Tryz.prog 38 #[.int .i64 n] w λv w'=>v=cw (aj (n:Rat))/\Below w.heap.size w w':=by
 have hS:=St.init w;refine enter Tryz.func38 rfl Tryz.ntmps38 rfl ?_;refine J1 ?_;intro b1 wz2 hS hBz2;refine J1 ?_;refine jh (ah Tryz.call76 rfl (Lv n _ h1 h2) ?_);rintro _ wc3 ⟨rfl,hBc3⟩;replace hS:=hS.aG hBc3;refine J1 ?_;intro wz4 hS;refine jt ?_;refine dx (k:=0) rfl rfl aB hS rfl rfl ?_;exact⟨rfl,hS.ab⟩
theorem Jb (a:Int) (n:Nat) (w:World) (h1: -9223372036854775808<=a) (h2:a<=9223372036854775807) (hn0:0<n) (hn:n<=9223372036854775807):
  dj Tryz.prog 8 #[.int .i64 a,.int .i64 n] w λv w'=>v=cw (aj (mkRat a n))/\Below w.heap.size w w':=by
 have hS:=St.init w;refine enter Tryz.func8 rfl Tryz.ntmps8 rfl ?_;refine J1 ?_;intro b4 wz1 hS hBz1;refine J2 ?_;refine jh (ah Tryz.call23 rfl (zD a n _ h1 h2 hn0 hn) ?_);rintro _ wc2 ⟨rfl,hBc2⟩;replace hS:=hS.aG hBc2;refine J4 ?_;intro b3 wz4 hS hBz4;refine J1 ?_;intro wz5 hS;refine J3 ?_;intro wz6 hS;refine jt ?_;refine dx (k:=1) rfl rfl aB hS rfl rfl ?_;exact⟨rfl,hS.ab⟩
theorem gH (m n:Nat):(m:Int).tmod n=((m%n:Nat):Int):=by rw[Int.tmod_eq_emod_of_nonneg oO];omega
theorem Fo (m n:Nat):(m:Int).tdiv n=((m/n:Nat):Int):=by rw[Int.tdiv_eq_ediv_of_nonneg oO];omega
theorem uO (m n:Nat) (h:m<65536):IntKind.u16.wrap ((m:Int).tdiv n)=((m/n:Nat):Int):=by
 have:=Nat.div_le_self m n;rw[Fo,G8];generalize m/n=q at*;omega
def gy (x:Nat):Rat:=if x%5=0 then mkRat ((x/5%23:Nat):Int) (1+x/115%6)else if x%5=1 then(((10*(x/5%4):Nat):Int):Rat)else(((x/5%13:Nat):Int):Rat)
theorem zH {n:Nat} (h:n<256):L ((n:Int):Rat)<=1:=by
 unfold L;have h1:(bB n).size<=1:=cK oO;have h2:(bB 1).size<=1:=cK oO;exact Nat.max_le.2 ⟨h1,h2⟩
theorem pY (x:Nat) (w:World) (hx:x<65536):
  dj Tryz.prog 20 #[.int .u16 x] w λv w'=>v=cw (aj (gy x))/\Below w.heap.size w w':=by
 have hS:=St.init w;refine enter Tryz.func20 rfl Tryz.ntmps20 rfl ?_;refine J1 ?_;intro b2 wz1 hS hBz1;refine J1 ?_;refine jp (iJ rfl rfl oO (r:=((x%5:Nat):Int)) (by exact gH x 5) ?_);refine V2 ?_;by_cases h0:x%5=0
 ·refine V1 ?_;have e:gy x=mkRat ((x/5%23:Nat):Int) (1+x/115%6):=if_pos h0;rw[e];refine J1 ?_;refine jp (kV rfl rfl oO (uO x 5 hx) (jp (iJ rfl rfl oO (gH (x/5) 23) (jp (bF rfl Tryz.underlying3 ⟨_,Tryz.underlying25⟩ (r:=((x/5%23:Nat):Int)) (by exact iR _ ⟨rfl,oO,oO⟩) ?_)))));refine J1 ?_;refine jp (kV rfl rfl oO (uO x 115 hx) (jp (iJ rfl rfl oO (gH (x/115) 6) (jp (bF rfl Tryz.underlying3 ⟨_,Tryz.underlying25⟩ (r:=((x/115%6:Nat):Int)) (by exact iR _ ⟨rfl,oO,oO⟩) (jp (ia rfl rfl (r:=((1+x/115%6:Nat):Int)) (by exact iR _ ⟨oO,oO,oO⟩) (jh (ah Tryz.call8 rfl (Jb ((x/5%23:Nat):Int) (1+x/115%6) _ oO oO oO oO) ?_)))))))));rintro _ wc2 ⟨rfl,hBc2⟩;replace hS:=hS.aG hBc2;refine J1 ?_;intro wz3 hS;refine jt ?_;refine dx (k:=0) rfl rfl aB hS rfl rfl ?_;exact⟨rfl,hS.ab⟩
 ·refine V3 ?_;by_cases h1:x%5=1
  ·refine V1 ?_;have e:gy x=(((10*(x/5%4):Nat):Int):Rat):=by unfold gy;rw[if_neg h0,if_pos h1]
   rw[e];refine J1 ?_;refine jp (kV rfl rfl oO (uO x 5 hx) (jp (iJ rfl rfl oO (gH (x/5) 4) (jp (bF rfl Tryz.underlying3 ⟨_,Tryz.underlying25⟩ (r:=((x/5%4:Nat):Int)) (by exact iR _ ⟨rfl,oO,oO⟩) (jp (oH rfl rfl (r:=((10*(x/5%4):Nat):Int)) (by exact iR _ ⟨oO,oO,oO⟩) (jh (ah Tryz.call38 rfl (sj ((10*(x/5%4):Nat):Int) _ oO oO) ?_)))))))));rintro _ wc4 ⟨rfl,hBc4⟩;replace hS:=hS.aG hBc4;refine J1 ?_;intro wz5 hS;refine jt ?_;refine dx (k:=0) rfl rfl aB hS rfl rfl ?_;exact⟨rfl,hS.ab⟩
  ·refine V1 ?_;have e:gy x=(((x/5%13:Nat):Int):Rat):=by unfold gy;rw[if_neg h0,if_neg h1]
   rw[e];refine J1 ?_;refine jp (kV rfl rfl oO (uO x 5 hx) (jp (iJ rfl rfl oO (gH (x/5) 13) (jp (bF rfl Tryz.underlying3 ⟨_,Tryz.underlying25⟩ (r:=((x/5%13:Nat):Int)) (by exact iR _ ⟨rfl,oO,oO⟩) (jh (ah Tryz.call38 rfl (sj ((x/5%13:Nat):Int) _ oO oO) ?_)))))));rintro _ wc6 ⟨rfl,hBc6⟩;replace hS:=hS.aG hBc6;refine J1 ?_;intro wz7 hS;refine jt ?_;refine dx (k:=0) rfl rfl aB hS rfl rfl ?_;exact⟨rfl,hS.ab⟩
theorem lQ:∀x,(lD x).length=1:=λ_=>rfl
end Go.Proofs.YtoeiejliehgopaaGreatDoor
namespace Go.Sx
open Go Go.RowKit
section
variable {P : Program} {ops : Array Oper}
def qK (M:List Nat):List Edge->Nat
 | []=>0
 |e::l=>bif Region.binds .any e then(2^e.on|||M.getD e.on 0)|||qK M l else qK M l
def pe (i:Nat):List Edge->Bool
 | []=>true
 |e::l=>(!Region.binds .any e||Nat.blt e.on i)&&pe i l
def pZ (M:List Nat):List Oper->Nat->Bool
 | [],_=>true
 |o::l,i=>pe i o.after.toList&&Nat.beq (M.getD i 0) (qK M o.after.toList)&&pZ M l (i+1)
theorem zt:∀n i h,j5 ops n i h=true->j5 ops (n+1) i h=true
 |0,i,h,ht=>by cases ht
 |n+1,i,h,ht=>by
  unfold j5 at ht⊢;cases ho:ops[i]?with
  |none=>rw[ho]at ht;cases ht
  |some o=>
   rw[ho]at ht;simp only[Array.any_eq_true',Bool.and_eq_true,Bool.or_eq_true]at ht⊢;obtain⟨e,he,hb,h1⟩:=ht;exact⟨e,he,hb,h1.imp id (zt n e.on h)⟩
theorem zg {n m i h:Nat} (hnm:n<=m) (ht:j5 ops n i h=true):j5 ops m i h=true:=by
 induction hnm with
 |refl=>exact ht
 |step _ ih=>exact zt _ _ _ ih
theorem qI {M:List Nat} {h:Nat}:∀ {l:List Edge},(qK M l).testBit h=true->∃e∈l,Region.binds .any e=true/\(e.on=h\/(M.getD e.on 0).testBit h=true)
 | [],hb=>by simp[qK]at hb
 |e::l,hb=>by
  unfold qK at hb;cases hbi:Region.binds .any e with
  |false=>
   rw[hbi]at hb;obtain⟨e',he',h'⟩:=qI hb;exact⟨e',List.mem_cons_of_mem _ he',h'⟩
  |true=>
   rw[hbi]at hb;simp only[cond_true,Nat.testBit_or,Bool.or_eq_true]at hb;rcases hb with(hb|hb)|hb
   ·rw[Nat.testBit_two_pow]at hb;exact⟨e,List.mem_cons_self ..,hbi,.inl (of_decide_eq_true hb)⟩
   ·exact⟨e,List.mem_cons_self ..,hbi,.inr hb⟩
   ·obtain⟨e',he',h'⟩:=qI hb;exact⟨e',List.mem_cons_of_mem _ he',h'⟩
theorem t9 {i:Nat}:∀ {l:List Edge},pe i l=true->∀e∈l,Region.binds .any e=true->e.on<i
 | [],_,e,he,_=>by cases he
 |x::l,h,e,he,hb=>by
  simp only[pe,Bool.and_eq_true,Bool.or_eq_true]at h;rcases List.mem_cons.1 he with rfl|he
  ·rcases h.1 with q|q
   ·rw[hb]at q;cases q
   ·rwa[Nat.blt_eq]at q
  ·exact t9 h.2 e he hb
theorem wP {M:List Nat}:∀ {l:List Oper} {k:Nat},pZ M l k=true->∀j o,l[j]?=some o->pe (k+j) o.after.toList=true/\M.getD (k+j) 0=qK M o.after.toList
 | [],k,_,j,o,ho=>by simp at ho
 |x::l,k,h,j,o,ho=>by
  simp only[pZ,Bool.and_eq_true]at h;cases j with
  |zero=>
   simp only[List.getElem?_cons_zero,Option.some.injEq]at ho;subst ho;exact⟨h.1.1,Nat.eq_of_beq_eq_true h.1.2⟩
  |succ j=>
   have:=wP h.2 j o (by simpa using ho);rw[show k+(j+1)=k+1+j by omega];exact this
theorem Cq {l:List Oper} {M:List Nat} (hM:pZ M l 0=true) (hML:M.length=l.length):∀i h,(M.getD i 0).testBit h=true->j5 l.toArray (i+1) i h=true:=by
 intro i;induction i using Nat.strongRecOn with
 |_ i ih=>
  intro h hb;have hil:i<l.length:=by
   rcases Nat.lt_or_ge i l.length with q|q
   ·exact q
   ·rw[List.getD_eq_getElem?_getD,List.getElem?_eq_none oO]at hb;simp at hb
  have ho:l[i]?=some l[i]:=List.getElem?_eq_getElem hil;have hat:=wP hM i _ ho;rw[Nat.zero_add]at hat;rw[hat.2]at hb;obtain⟨e,he,hbi,h1⟩:=qI hb;have hlt:=t9 hat.1 e he hbi;unfold j5;rw[List.getElem?_toArray,ho];simp only[Array.any_eq_true',Bool.and_eq_true,Bool.or_eq_true];refine⟨e,by simpa using he,hbi,?_⟩;rcases h1 with q|q
  ·exact .inl (by rw[q];exact Nat.beq_refl h)
  ·exact .inr (zg oO (ih e.on hlt h q))
def rM (ops:Array Oper) (M:List Nat):List (Nat×Md)->Bool
 | []=>true
 |i::σ=>(σ.all λj=> !Nat.beq i.1 j.1&&((M.getD j.1 0).testBit i.1||fw ops i j))&&rM ops M σ
theorem rD {l:List Oper} {M:List Nat} (hM:pZ M l 0=true) (hML:M.length=l.length):∀ {σ:List (Nat×Md)},(∀x∈σ,x.1<l.length)->rM l.toArray M σ=true->gG l.toArray l.length σ=true
 | [],_,_=>rfl
 |i::σ,hlt,h=>by
  simp only[rM,Bool.and_eq_true,List.all_eq_true,Bool.or_eq_true]at h;simp only[gG,Bool.and_eq_true,List.all_eq_true,Bool.or_eq_true];refine⟨λj hj=>⟨(h.1 j hj).1,(h.1 j hj).2.imp (λq=> ?_) id⟩,rD hM hML (λx hx=>hlt x (List.mem_cons_of_mem _ hx)) h.2⟩;have:=hlt j (List.mem_cons_of_mem _ hj);exact zg oO (Cq hM hML _ _ q)
def A4 (l:List Oper) (M:List Nat) (σ:List (Nat×Md)):Bool:=
 Nat.ble σ.length l.length&&(List.range l.length).all (λi=>σ.any λx=>Nat.beq x.1 i)&&σ.all (λx=>Nat.blt x.1 l.length)&&(Nat.beq M.length l.length&&pZ M l 0&&rM l.toArray M σ)&&lG l.toArray σ&&
 l.all λo=>match o.op with| .select .. =>false|_=>true
theorem BE {l:List Oper} {M:List Nat} {σ:List (Nat×Md)} (h:A4 l M σ=true):zO l.toArray σ=true:=by
 simp only[A4,Bool.and_eq_true]at h;obtain⟨⟨⟨⟨⟨h1,h2⟩,h3⟩,⟨⟨h4,h5⟩,h6⟩⟩,h7⟩,h8⟩:=h;have hs:l.toArray.size=l.length:=by simp
 simp only[zO,Bool.and_eq_true,hs];refine⟨⟨⟨⟨⟨h1,h2⟩,h3⟩,rD h5 (Nat.eq_of_beq_eq_true h4) (λx hx=> ?_) h6⟩,h7⟩,?_⟩
 ·have:=List.all_eq_true.1 h3 x hx;rwa[Nat.blt_eq]at this
 ·rw[<-hs,Array.all_eq_true'];intro x hx;have hx:=List.all_eq_true.1 h8 x (by simpa using hx);cases hop:x.op<;>first|rfl|(rw[hop]at hx;cases hx)
end
section
variable {P : Program} {N : Nat} {ρ : Nat → Value} {w0 w : World} {Q : Exit → Act → World → Prop} {H : List bQ}
theorem fi {C:Code} {ρ:Nat->Value} {w:World} (M:(Nat->Value)->Prop) (h0:M ρ) (h:∀ρ,M ρ->C.wp P Q (act N ρ) w):C.wp P Q (act N ρ) w:=h ρ h0
theorem K5 {id:Nat} {l:List Oper} (M:List Nat) (σ:List (Nat×Md)) (hm:P.follows .mixedOrders=true) (hchk:A4 l M σ=true) (hS:St w0 w H)
  (h:∀w',St w0 w' H->Below w.heap.size w w'->Wr P l.toArray (Q .normal) σ N ρ w'):(Code.region id l.toArray true).wp P Q (act N ρ) w:=
 bk σ hm (BE hchk) hS h
end
open Go Go.RowKit Go.ChangeShapes Go.WideShapes Go.Proofs.YtoeiejliehgopaaGreatDoor
section
variable {H : Type} {enc : TypeId × Value → H} {P : Program} {w : World}
theorem add_add (a:Addr) (m n:Nat):(a.add m).add n=a.add (m+n):=by
 obtain⟨b,o,s⟩:=a;unfold Addr.add;by_cases hn:n=0
 ·subst hn;simp
 ·by_cases hm:m=0
  ·subst hm;simp[hn]
  ·simp[hn,hm,Nat.add_assoc]
theorem at_one {a:Addr} {u:Value} (h:w.cell? a=some u):At w a [u]:=At.one h
theorem Gv {t e:TypeId} {v:Value} {d:DataW H} {ps:List MemPlace} {b0:Nat} (ht:P.underlying t=some (.slice e)) (he:P.underlying e=some (.int .u16)) (hc:P.cellsOf e=1)
  (hval:Value.okWide P w .any b0 t v) (h:DataW.Trod enc P w 0 (λ_=>true) true t v d ps):∃l:List Nat,Sl (uk .u16) 1 w v l/\∀x∈l,x<65536:=by
 obtain⟨a0,len0,cap0,rfl⟩:=okWide_slice ht hval;obtain⟨fuel,hf⟩:=h;rcases open_ints ht he hc hf with⟨h1,_⟩|⟨a,len,cap,zs,h1,_,hlc,hm,hz,_,hcell,hw⟩
 ·simp only[Value.cells,List.cons.injEq,and_true]at h1;rw[h1];exact⟨[],Sl.nil _ _ _,λx hx=>by cases hx⟩
 ·simp only[Value.cells,List.cons.injEq,and_true]at h1;rw[h1];have hzl:zs.length=cap:=by simpa using hz
  have hb:∀n∈zs,0<=n/\n<=65535:=λn hn=>bounds_u16 (hw n hn);have hl:((zs.take len).map Int.toNat).length=len:=by rw[List.length_map,List.length_take];omega
  refine⟨(zs.take len).map Int.toNat,⟨⟨some a,cap,by rw[hl],by rw[hl];exact hlc,hm,λq=>by cases q⟩,λi hi=> ?_⟩,λx hx=> ?_⟩
  ·rw[hl]at hi;have hi2:i<zs.length:=oO;have h2:=hcell i hi2;have h3:zs.getD i 0=zs[i]:=by rw[List.getD_eq_getElem?_getD,List.getElem?_eq_getElem hi2];rfl
   have h4:=hb _ (List.getElem_mem hi2);rw[Nat.mul_one];refine at_one ?_;show w.cell? (a.add i)=_;rw[h2,h3,List.getElem_map,List.getElem_take,Int.toNat_of_nonneg h4.1]
  ·obtain⟨z,hz2,rfl⟩:=List.mem_map.1 hx;have:=hb z (List.mem_of_mem_take hz2);omega
theorem yR (hl:laidOutB P=true) {w':World} (hb:Below w.heap.size w w'):∀ {ts:List TypeId} {vs:List Value} {ds:List (DataW H)} {ps:List MemPlace},(∀t∈ts,P.readableRec t=true/\t<P.types.size)->(∀x∈ps,x.block<w.heap.size)->
  DataW.TrodAll enc P w 0 (λ_=>true) true ts vs ds ps->DataW.TrodAll enc P w' 0 (λb=>decide (b<w.heap.size)) true ts vs ds ps
 | [],[],[],_,_,_,h=>h
 |t::ts,v::vs,d::ds,ps,hT,hlt,⟨p,q,h1,h2,e⟩=>by
  subst e;exact⟨p,q,Below.trod hl (hT t (List.mem_cons_self ..)).1 (hT t (List.mem_cons_self ..)).2 h1 hb (λx hx=>hlt x (List.mem_append_left _ hx)),
   yR hl hb (λt ht=>hT t (List.mem_cons_of_mem _ ht)) (λx hx=>hlt x (List.mem_append_right _ hx)) h2,rfl⟩
 | [],[],_::_,_,_,_,h=>h.elim
 | [],_::_,[],_,_,_,h=>h.elim
 | [],_::_,_::_,_,_,_,h=>h.elim
 |_::_,[],[],_,_,_,h=>h.elim
 |_::_,[],_::_,_,_,_,h=>h.elim
 |_::_,_::_,[],_,_,_,h=>h.elim
theorem Ib {f:Func} {s:ChangeSpec} {w':World} {args:Array Value} {v:Value} {ds gs:List (DataW H)} {before:List MemPlace} (hl:laidOutB P=true)
  (hW:DataW.Whole enc P f.params.toList s.vars false w args.toList ds gs before) (hT:∀t∈f.params.toList,P.readableRec t=true/\t<P.types.size) (hv:s.vars=[]) (hb:Below w.heap.size w w')
  (hres:DataW.TrodAll enc P w' w.heap.size (λ_=>false) false f.resultTypes.toList (v.resultList f.resultTypes.size) (s.fn H (ds++gs)).results []) (hargs:(s.fn H (ds++gs)).args=ds) (hvars:(s.fn H (ds++gs)).vars=[]):
  s.post enc P f false true false false w args v w':=by
 have hlt:∀x∈before,x.block<w.heap.size:=λx hx=>hW.lt x hx;have hW2:=hW;obtain⟨p,q,h1,h2,rfl,_,_⟩:=hW;rw[hv]at h2;obtain⟨rfl,rfl⟩:=trodVars_none h2;rw[List.append_nil]at hlt;refine⟨ds,[],_,[],p,[],hW2,hres,?_,?_,hb.frame _,λq=>by cases q⟩
 ·rw[hargs];exact yR hl hb hT hlt h1
 ·rw[hvars,hv];exact rfl
end
end Go.Sx
namespace Go.Proofs.YtoeiejliehgopaaGreatDoor
open Go Go.RowKit Go.Sx Go.ChangeShapes Go.WideShapes Go.ChangeAt
theorem KQ:ownKnob Tryz.prog.godebug=none:=by kernel_rfl
theorem laidOut:laidOutB Tryz.prog=true:=by kernel_rfl
end Go.Proofs.YtoeiejliehgopaaGreatDoor
namespace Go.Sx
open Go Go.RowKit
section
variable {P : Program} {N : Nat} {ρ : Nat → Value} {w0 w w' : World}
  {d : Option Tmp} {ty : TypeId} {pos : String} {aft : Array Edge} {g : Option (Nat × Bool)} {x y z : Operand} {t t' e : TypeId} {H : List bQ} {k b o : Nat} {v : Value} {K : Value → Prop} {K2 : Value → World → Prop}
theorem Et {α:Type} {enc:α->List Value} {size:Nat} (hu:∀x,(enc x).length=size) (L:List α) (sp:List Value) (d:α) {i:Nat} (hi:i<L.length):((L.flatMap enc++sp).drop (i*size)).take size=enc (L.getD i d):=by
 have h1:(i+1)*size<=L.length*size:=Nat.mul_le_mul_right _ hi;rw[Nat.add_mul]at h1;have h2:=cQ hu L;rw[List.drop_append_of_le_length oO,List.take_append_of_le_length (by rw[List.length_drop];omega)];exact yJ hu L d hi
theorem Gi {α:Type} {enc:α->List Value} {size:Nat} (hu:∀x,(enc x).length=size) (L:List α) (sp:List Value) (x:α) {i:Nat} (hi:i<L.length):splice (L.flatMap enc++sp) (i*size) (enc x)=(L.set i x).flatMap enc++sp:=by
 have h1:(i+1)*size<=L.length*size:=Nat.mul_le_mul_right _ hi;rw[Nat.add_mul]at h1;have h2:=cQ hu L;rw[<-py hu L x hi];unfold splice;rw[List.take_append_of_le_length oO,List.drop_append_of_le_length (by rw[hu];omega)];simp
theorem wH {α:Type} {enc:α->List Value} {size:Nat} {L:List α} {sp:List Value} {i:Nat} {zz:List Value} {agg:Bool} (dd:α) (hu:∀x,(enc x).length=size) (hx:ev N ρ x= .pointer (some ⟨b,o,none⟩)) (ht:da P t=some (size,agg,zz)) (hS:St w0 w H) (hk:H[k]?=some (b,t',L.flatMap enc++sp))
  (ho:o=i*size) (hi:i<L.length) (hv:MG agg (enc (L.getD i dd))=v) (hagg:agg=true\/size=1) (h:K v):jP P N ρ w ⟨d,.load t x,ty,pos,aft,g⟩ K:=by
 subst ho;have hat:=hS.at hk (i*size) size;rw[Et hu L sp dd hi]at hat;exact iQ hx ht hat (hu _) hv hagg h
theorem wB {α:Type} {enc:α->List Value} {size:Nat} {L:List α} {sp:List Value} {i:Nat} {zz:List Value} {agg:Bool} (u:α) (hu:∀x,(enc x).length=size) (hx:ev N ρ x= .pointer (some ⟨b,o,none⟩)) (hy:ev N ρ y=v) (ht:da P t=some (size,agg,zz)) (hS:St w0 w H) (hk:H[k]?=some (b,t',L.flatMap enc++sp))
  (ho:o=i*size) (hi:i<L.length) (hv:v.cells.toList=enc u) (h1:(enc u).all (·.oneCell')=true)
  (h:∀w',St w0 w' (H.set k (b,t',(L.set i u).flatMap enc++sp))->K2 undef w'):gZ P N ρ w ⟨d,.store t x y,ty,pos,aft,g⟩ K2:=by
 subst ho;refine cO hx hy ht hS hk hv (hu u) ?_ h1 (λw' hS'=> ?_)
 ·rw[List.length_append,cQ hu];have:(i+1)*size<=L.length*size:=Nat.mul_le_mul_right _ hi;rw[Nat.add_mul]at this;omega
 ·rw[Gi hu L sp u hi]at hS';exact h w' hS'
theorem dX {a:Addr} (hx:ev N ρ x= .pointer (some a)) (h:K (.pointer (some a))):dp P N ρ ⟨d,.nilCheck x,ty,pos,aft,g⟩ K:=
 ⟨_,λw=>(by simp[execOp,hx]),h⟩
theorem Il {fn:Fn} (hx:ev N ρ x=v) (h:K (.func fn #[] #[v])):dp P N ρ ⟨d,.makeFunc fn #[] #[x],ty,pos,aft,g⟩ K:=
 ⟨_,λw=>(by simp[execOp,hx,Instr.makeFunc]),h⟩
theorem St.Rv {α:Type} {enc:α->List Value} {size:Nat} {L:List α} {sp:List Value} (h:St w0 w H) (hk:H[k]?=some (b,t,L.flatMap enc++sp)) (hu:∀x,(enc x).length=size) {n cap:Nat} (hn:n<=L.length) (h1:n<=cap) (h2:cap<=9223372036854775807):
  Sl enc size w (.slice (some ⟨b,0,none⟩) n cap) (L.take n):=by
 have hl:(L.take n).length=n:=by rw[List.length_take];omega
 have e:L.flatMap enc++sp=(L.take n).flatMap enc++((L.drop n).flatMap enc++sp):=by
  rw[<-List.append_assoc,<-List.flatMap_append,List.take_append_drop]
 rw[e]at hk;have:=h.sl (enc:=enc) (size:=size) (L:=L.take n) (spare:=(L.drop n).flatMap enc++sp) (cap:=cap) hk rfl hu (by rw[hl];exact h1) (by unfold Go.maxLen;omega);rwa[hl]at this
end
section
variable {α : Type}
def sH (lt:α->α->Bool) (S:List α) (x:α):List α:=(S.reverse.dropWhile (lt x)).reverse++x::(S.reverse.takeWhile (lt x)).reverse
def kU (lt:α->α->Bool) (L:List α):List α:=L.foldl (sH lt) []
theorem CZ {lt:α->α->Bool} {A B:List α} {x:α} (hB:∀y∈B,lt x y=true) (hA:∀y,A.getLast?=some y->lt x y=false):sH lt (A++B) x=A++x::B:=by
 have h1:A.reverse.takeWhile (lt x)=[]/\A.reverse.dropWhile (lt x)=A.reverse:=by
  cases h:A.reverse with
  |nil=>exact⟨rfl,rfl⟩
  |cons y t=>
   have hy:A.getLast?=some y:=by rw[<-List.head?_reverse,h];rfl
   have:=hA y hy;simp[this]
 unfold sH;rw[List.reverse_append,List.takeWhile_append_of_pos (λy hy=>hB y (List.mem_reverse.1 hy)),List.dropWhile_append_of_pos (λy hy=>hB y (List.mem_reverse.1 hy)),h1.1,h1.2];simp
theorem DO (lt:α->α->Bool) (L:List α) (x:α):kU lt (L++[x])=sH lt (kU lt L) x:=by unfold kU;rw[List.foldl_append];rfl
theorem CS (lt:α->α->Bool) (S:List α) (x:α):∃A B,S=A++B/\sH lt S x=A++x::B/\(∀y∈B,lt x y=true)/\∀y,A.getLast?=some y->lt x y=false:=by
 refine⟨(S.reverse.dropWhile (lt x)).reverse,(S.reverse.takeWhile (lt x)).reverse,?_,rfl,λy hy=> ?_,λy hy=> ?_⟩
 ·rw[<-List.reverse_append,List.takeWhile_append_dropWhile,List.reverse_reverse]
 ·rw[List.mem_reverse]at hy;generalize S.reverse=T at hy;induction T with
  |nil=>cases hy
  |cons z T ih=>
   rw[List.takeWhile_cons]at hy;split at hy
   ·next h=>
    rcases List.mem_cons.1 hy with rfl|hy
    ·exact h
    ·exact ih hy
   ·cases hy
 ·rw[List.getLast?_reverse]at hy;generalize S.reverse=T at hy;induction T with
  |nil=>cases hy
  |cons z T ih=>
   rw[List.dropWhile_cons]at hy;split at hy
   ·exact ih hy
   ·next h=>
    obtain rfl:z=y:=Option.some.inj hy;exact Bool.eq_false_iff.2 h
theorem DM (lt:α->α->Bool) (S:List α) (x:α):(sH lt S x).Perm (x::S):=by
 obtain⟨A,B,rfl,e,_⟩:=CS lt S x;rw[e];exact List.perm_middle
theorem jI (lt:α->α->Bool) (L:List α):(kU lt L).Perm L:=by
 have key:∀(L S:List α),(L.foldl (sH lt) S).Perm (S++L):=by
  intro L;induction L with
  |nil=>intro S;simp
  |cons x L ih=>
   intro S;rw[List.foldl_cons];refine(ih _).trans ?_;refine((DM lt S x).append_right L).trans ?_;exact List.perm_middle.symm
 have:=key L [];rwa[List.nil_append]at this
theorem tM (lt:α->α->Bool) (L:List α):(kU lt L).length=L.length:=(jI lt L).length_eq
end
end Go.Sx
namespace Go.Proofs.YtoeiejliehgopaaGreatDoor
open Go Go.RowKit Go.Sx
theorem Iv (p q:Rat) (X Y:Nat):mkRat (sg (decide (p.num<0)!=decide (q.num<0)) X) Y=mkRat (sg (decide (p.num<0)) 1*sg (decide (q.num<0)) 1*X) Y:=by
 congr 1;by_cases h1:p.num<0<;>by_cases h2:q.num<0<;>simp[h1,h2,sg]
theorem zB (n:Int):sg (decide (n<0)) 1*(n.natAbs:Int)=n:=by
 by_cases h:n<0
 ·simp[h,sg];omega
 ·simp[h,sg];omega
theorem Ll (p q:Rat):mkRat (sg (decide (p.num<0)!=decide (q.num<0)) (p.num.natAbs*q.num.natAbs)) (p.den*q.den)=p*q:=by
 rw[Iv];have e:sg (decide (p.num<0)) 1*sg (decide (q.num<0)) 1*((p.num.natAbs*q.num.natAbs:Nat):Int)=p.num*q.num:=by
  have h1:=zB p.num;have h2:=zB q.num;calc _=(sg (decide (p.num<0)) 1*(p.num.natAbs:Int))*(sg (decide (q.num<0)) 1*(q.num.natAbs:Int)):=by push_cast;grind
   _=_:=by rw[h1,h2]
 rw[e];conv=>rhs;rw[<-Rat.mkRat_self p,<-Rat.mkRat_self q]
 exact(Rat.mkRat_mul_mkRat _ _ _ _).symm
theorem KU (p q:Rat):mkRat (sg (decide (p.num<0)!=decide (q.num<0)) (p.num.natAbs*q.den)) (p.den*q.num.natAbs)=p/q:=by
 by_cases hq:q=0
 ·subst hq;simp[Rat.mkRat_zero,Rat.div_def]
 have hqn:q.num.natAbs≠0:=λh=>hq (Rat.num_eq_zero.1 (Int.natAbs_eq_zero.1 h));have key:mkRat (sg (decide (p.num<0)!=decide (q.num<0)) (p.num.natAbs*q.den)) (p.den*q.num.natAbs)*q=p:=by
  rw[Iv];conv=>lhs;rhs;rw[<-Rat.mkRat_self q]
  rw[Rat.mkRat_mul_mkRat];have h1:=zB p.num;have h2:=zB q.num;have hs:sg (decide (q.num<0)) 1*sg (decide (q.num<0)) 1=1:=by
   by_cases h:q.num<0<;>simp[h,sg]
  have e:sg (decide (p.num<0)) 1*sg (decide (q.num<0)) 1*((p.num.natAbs*q.den:Nat):Int)*q.num=p.num*((q.num.natAbs*q.den:Nat):Int):=by
   calc _=(sg (decide (p.num<0)) 1*(p.num.natAbs:Int))*(sg (decide (q.num<0)) 1*q.num*(q.den:Int)):=by push_cast;grind
    _=p.num*(sg (decide (q.num<0)) 1*(sg (decide (q.num<0)) 1*(q.num.natAbs:Int))*(q.den:Int)):=by rw[h1,h2]
    _=p.num*((sg (decide (q.num<0)) 1*sg (decide (q.num<0)) 1)*(q.num.natAbs:Int)*(q.den:Int)):=by grind
    _=_:=by rw[hs];push_cast;grind
  rw[e,Nat.mul_assoc];have:=Rat.mkRat_mul_right (n:=p.num) (d:=p.den) (a:=q.num.natAbs*q.den) (Nat.mul_ne_zero hqn q.den_nz);rw[this,Rat.mkRat_self]
 rw[<-key,Rat.div_def,Rat.mul_assoc,Rat.mul_inv_cancel _ hq,Rat.mul_one,key]
theorem ka (r s:RR) (w:World) (hr:Lr r+Lr s<=MX):
  dj Tryz.prog 11 #[cw r,cw s] w λv w'=>v=cw (aj (toQ r*toQ s))/\Below w.heap.size w w':=by
 have hM:MX=1099511627776:=rfl;have hL1:=nN r;have hL2:=nN s;obtain⟨p,hp⟩:=jz (toQ r);obtain⟨q,hq⟩:=jz (toQ s);have hc1:=λw=>fF r w (show Lr r<=MX by omega);have hc2:=λw=>fF s w (show Lr s<=MX by omega);unfold fx at hc1 hc2;rw[<-hp]at hL1 hc1⊢;rw[<-hq]at hL2 hc2⊢;have hn1:=mz p;have hn2:=mz q;have hd1:=lN p;have hd2:=lN q;have hm1:=cS p.num.natAbs q.num.natAbs;have hm2:=cS p.den q.den;have hD2:val (bB (p.den*q.den))≠0:=by rw[bX];exact Nat.mul_ne_zero p.den_nz q.den_nz
 have hred:=λw=>kD (decide (p.num<0)!=decide (q.num<0)) (bB (p.num.natAbs*q.num.natAbs)) (bB (p.den*q.den)) w oO oO hD2;rw[bX,bX,Ll]at hred;have hS:=St.init w;refine enter Tryz.func11 rfl Tryz.ntmps11 rfl ?_;refine jr ?_;refine jh (bY (new:=ae r) rfl rfl hS ?_);intro b1 wz2 hS hBz2;refine jh (bY (new:=ae s) rfl rfl hS ?_);intro b3 wz4 hS hBz4;refine J1 ?_;intro b5 wz6 hS hBz6;refine ja ?_;refine bk [ju 0,ju 2,jv 1,jv 3,jw 4,jw 5] kR kR hS ?_;intro wz7 hS hBz7;refine J2 ?_;refine jn rfl (ah Tryz.call28 rfl (hc1 _) ?_);rintro _ wc8 ⟨rfl,hBc8⟩;replace hS:=hS.aG hBc8;refine⟨hBc8,?_⟩;refine jn rfl (ah Tryz.call28 rfl (hc2 _) ?_);rintro _ wc9 ⟨rfl,hBc9⟩;replace hS:=hS.aG hBc9;refine⟨hBc9,?_⟩;refine J1 ?_;intro wz10 hS;refine J1 ?_;intro wz11 hS;refine ja ?_;refine bk [jo 0,ju 1,jo 2,ju 3,jo 4,jo 5,ju 6,jo 7,ju 8,ju 10,ju 12,jv 9,jv 11,jv 13,jv 14,jv 15,jw 16] kR kR hS ?_;intro wz12 hS hBz12;refine J4 ?_;refine jl rfl (ub rfl rfl Tryz.underlying4 ?_);refine J6 ?_;refine jn rfl (ah Tryz.call30 rfl (oG p.num.natAbs q.num.natAbs _ oO oO) ?_);rintro _ wc13 ⟨rfl,hBc13⟩;replace hS:=hS.aG hBc13;refine⟨hBc13,?_⟩;refine jn rfl (ah Tryz.call31 rfl (mG p _) ?_);rintro _ wc14 ⟨rfl,hBc14⟩;replace hS:=hS.aG hBc14;refine⟨hBc14,?_⟩;refine jn rfl (ah Tryz.call31 rfl (mG q _) ?_);rintro _ wc15 ⟨rfl,hBc15⟩;replace hS:=hS.aG hBc15;refine⟨hBc15,?_⟩;refine jn rfl (ah Tryz.call30 rfl (oG p.den q.den _ oO oO) ?_);rintro _ wc16 ⟨rfl,hBc16⟩;replace hS:=hS.aG hBc16;refine⟨hBc16,?_⟩;refine jn rfl (ah Tryz.call29 rfl (hred _) ?_);rintro _ wc17 ⟨rfl,hBc17⟩;replace hS:=hS.aG hBc17;refine⟨hBc17,?_⟩;refine J1 ?_;intro wz18 hS;refine jt ?_;refine dx (k:=0) rfl rfl aB hS rfl rfl ?_;exact⟨rfl,hS.ab⟩
theorem CH (b:Bool) (num den:ByteArray) (w:World) (hn:num.size<=2*MX) (hd:den.size<=2*MX) (h0:val den≠0):
  dj Tryz.prog 146 #[.bool b,.string num,.string den] w λv w'=>v= .tuple #[cw (aj (mkRat (sg b (val num)) (val den))),.bool true]/\Below w.heap.size w w':=by
 have hM:MX=1099511627776:=rfl;have hS:=St.init w;refine enter Tryz.func146 rfl Tryz.ntmps146 rfl ?_;refine J1 ?_;intro b1 wz2 hS hBz2;refine J2 ?_;refine jh (ah Tryz.call66 rfl (eQ _ _ (show den.size<=_ by omega)) ?_);rintro _ wq3 ⟨rfl,hq3⟩;replace hq3:=hq3.symm;subst hq3;refine jp (lL rfl rfl ?_);refine ja ?_;refine ct rfl (decide_eq_false (λh=>h0 (fR.1 h))) ?_;refine J3 ?_;refine jh (ah Tryz.call29 rfl (kD b num den _ hn hd h0) ?_);rintro _ wc4 ⟨rfl,hBc4⟩;replace hS:=hS.aG hBc4;refine J1 ?_;intro wz5 hS;refine J1 ?_;refine jt ?_;refine eV (k:=0) rfl rfl rfl aB hS rfl rfl ?_;exact⟨rfl,hS.ab⟩
theorem oo (r s:RR) (w:World) (hr:Lr r+Lr s<=MX) (hs:toQ s≠0):
  dj Tryz.prog 108 #[cw r,cw s] w λv w'=>v= .tuple #[cw (aj (toQ r/toQ s)),.bool true]/\Below w.heap.size w w':=by
 have hM:MX=1099511627776:=rfl;have hL1:=nN r;have hL2:=nN s;obtain⟨p,hp⟩:=jz (toQ r);obtain⟨q,hq⟩:=jz (toQ s);have hc1:=λw=>fF r w (show Lr r<=MX by omega);have hc2:=λw=>fF s w (show Lr s<=MX by omega);unfold fx at hc1 hc2;rw[<-hp]at hL1 hc1⊢;rw[<-hq]at hL2 hc2 hs⊢;have hn1:=mz p;have hn2:=mz q;have hd1:=lN p;have hd2:=lN q;have hm1:=cS p.num.natAbs q.den;have hm2:=cS p.den q.num.natAbs;have hqn:q.num.natAbs≠0:=λh=>hs (Rat.num_eq_zero.1 (Int.natAbs_eq_zero.1 h));have hD2:val (bB (p.den*q.num.natAbs))≠0:=by rw[bX];exact Nat.mul_ne_zero p.den_nz hqn
 have hred:=λw=>CH (decide (p.num<0)!=decide (q.num<0)) (bB (p.num.natAbs*q.den)) (bB (p.den*q.num.natAbs)) w oO oO hD2;rw[bX,bX,KU]at hred;have hS:=St.init w;refine enter Tryz.func108 rfl Tryz.ntmps108 rfl ?_;refine jr ?_;refine jh (bY (new:=ae r) rfl rfl hS ?_);intro b1 wz2 hS hBz2;refine jh (bY (new:=ae s) rfl rfl hS ?_);intro b3 wz4 hS hBz4;refine J1 ?_;intro b5 wz6 hS hBz6;refine V1 ?_;refine bk [ju 0,ju 2,jv 1,jv 3,jw 4,jw 5] kR kR hS ?_;intro wz7 hS hBz7;refine J2 ?_;refine jn rfl (ah Tryz.call28 rfl (hc1 _) ?_);rintro _ wc8 ⟨rfl,hBc8⟩;replace hS:=hS.aG hBc8;refine⟨hBc8,?_⟩;refine jn rfl (ah Tryz.call28 rfl (hc2 _) ?_);rintro _ wc9 ⟨rfl,hBc9⟩;replace hS:=hS.aG hBc9;refine⟨hBc9,?_⟩;refine J1 ?_;intro wz10 hS;refine J1 ?_;intro wz11 hS;refine ja ?_;refine bk [jo 0,ju 1,jo 2,ju 3,jo 4,jo 5,ju 6,ju 7,ju 10,jo 12,ju 13,jv 8,jv 9,jv 11,jv 14,jv 15,jo 16,jo 17,jw 18,jo 19] kR kR hS ?_;intro wz12 hS hBz12;refine J4 ?_;refine jl rfl (ub rfl rfl Tryz.underlying4 ?_);refine J6 ?_;refine jn rfl (ah Tryz.call31 rfl (mG q _) ?_);rintro _ wc13 ⟨rfl,hBc13⟩;replace hS:=hS.aG hBc13;refine⟨hBc13,?_⟩;refine jn rfl (ah Tryz.call30 rfl (oG p.num.natAbs q.den _ oO oO) ?_);rintro _ wc14 ⟨rfl,hBc14⟩;replace hS:=hS.aG hBc14;refine⟨hBc14,?_⟩;refine jn rfl (ah Tryz.call31 rfl (mG p _) ?_);rintro _ wc15 ⟨rfl,hBc15⟩;replace hS:=hS.aG hBc15;refine⟨hBc15,?_⟩;refine jn rfl (ah Tryz.call30 rfl (oG p.den q.num.natAbs _ oO oO) ?_);rintro _ wc16 ⟨rfl,hBc16⟩;replace hS:=hS.aG hBc16;refine⟨hBc16,?_⟩;refine jn rfl (ah Tryz.call146 rfl (hred _) ?_);rintro _ wc17 ⟨rfl,hBc17⟩;replace hS:=hS.aG hBc17;refine⟨hBc17,?_⟩;refine J3 ?_;intro wz18 hS;refine J1 ?_;refine jt ?_;refine eV (k:=0) rfl rfl rfl aB hS rfl rfl ?_;exact⟨rfl,hS.ab⟩
theorem qH (r:RR) (w:World) (hr:Lr r<=MX):
  dj Tryz.prog 105 #[cw r] w λv w'=>v=cw (aj (-toQ r))/\Below w.heap.size w w':=by
 have hc1:=λw=>fF r w hr;unfold fx at hc1;have hS:=St.init w;refine enter Tryz.func105 rfl Tryz.ntmps105 rfl ?_;refine jr ?_;refine jh (bY (new:=ae r) rfl rfl hS ?_);intro b1 wz2 hS hBz2;refine J1 ?_;intro b3 wz4 hS hBz4;refine J1 ?_;refine jh (ah Tryz.call28 rfl (hc1 _) ?_);rintro _ wc5 ⟨rfl,hBc5⟩;replace hS:=hS.aG hBc5;refine jh (ah Tryz.call37 rfl (y0 (toQ r) _) ?_);rintro _ wc6 ⟨rfl,hBc6⟩;replace hS:=hS.aG hBc6;refine J1 ?_;intro wz7 hS;refine jt ?_;refine dx (k:=0) rfl rfl aB hS rfl rfl ?_;exact⟨rfl,hS.ab⟩
end Go.Proofs.YtoeiejliehgopaaGreatDoor
namespace Go.Sx
open Go Go.RowKit
theorem Sl.flat {w:World} {α:Type} {enc:α->List Value} {size:Nat} {v:Value} {L:List α} (h:Sl enc size w v L) (hu:∀x,(enc x).length=size) (hs:0<size):At w (mx v) (L.flatMap enc):=by
 intro j u hj;have hlt:j<L.length*size:=by
  have:=(List.getElem?_eq_some_iff.1 hj).1;rwa[cQ hu]at this
 have hi:j/size<L.length:=(Nat.div_lt_iff_lt_mul hs).2 hlt;have hr:j%size<size:=Nat.mod_lt _ hs;have e:j/size*size+j%size=j:=by rw[Nat.mul_comm];exact Nat.div_add_mod _ _
 have h2:=flat_get hu L (j/size) (j%size) hi hr;rw[e,hj]at h2;have h3:=h.elt (j/size) hi (j%size) u h2.symm;rwa[qY _ _ _ (h.spot hu hs (Nat.lt_of_le_of_lt (Nat.zero_le _) hi)),e]at h3
section
variable {P : Program} {N : Nat} {ρ : Nat → Value} {w0 w w' : World} {d : Option Tmp} {ty : TypeId} {pos : String} {aft : Array Edge} {g : Option (Nat × Bool)} {x y z : Operand} {t t' e : TypeId} {H L : List bQ} {b : Nat} {cs : List Value} {v : Value} {K : Value → Prop} {K2 : Value → World → Prop}
theorem uM {a:Option Addr} {n c:Nat} (hx:ev N ρ x= .slice a n c) (hy:ev N ρ y= .slice none 0 0) (ht:∃e,P.underlying t=some (.slice e)) (h:K (.bool a.isNone)):dp P N ρ ⟨d,.binOp .eql t x y t',ty,pos,aft,g⟩ K:=by
 obtain⟨e,ht⟩:=ht;refine⟨.bool a.isNone,λw=> ?_,h⟩;have h2:(binOp .eql t (.slice a n c) (.slice none 0 0)).run P w= .ok (.bool a.isNone) w:=by
  have h4:∀k,(Op.equalIn (k+1) t (.slice a n c) (.slice none 0 0)).run P w= .ok a.isNone w:=λk=>by cases a<;>simp[Op.equalIn,run_underlying ht]
  have h3:=h4 9999;simp only[binOp];simp[Op.equal,Op.maxDepth,h3]
 simp only[execOp,hx,hy,Sem.run_bind];have h1:(eqGuard .eql t x y (.slice a n c) (.slice none 0 0)).run P w= .ok () w:=rfl;rw[h1,Result.andThen_ok,h2,Result.andThen_ok];rfl
theorem JF {sz by_:Nat} {zz:List Value} (ht:sinfo P t=some (e,sz,by_,zz)) (hS:St w0 w H)
  (h:∀b w',St w0 w' ((b,e,[])::H)->Below w.heap.size w w'->K2 (.slice (some ⟨b,0,none⟩) 0 0) w'):
  gZ P N ρ w ⟨d,.buildSlice t 0 #[],ty,pos,aft,g⟩ K2:=by
 obtain⟨hu,ii,zv,hi1,hz,hsz,hby,hcz,hzl⟩:=dJ ht;have hr:(Instr.buildSlice t 0 #[]).run P w= .ok (.slice (some ⟨w.heap.size,0,none⟩) 0 0) (w.alloc (.cells #[] e)):=by
  simp[Instr.buildSlice,run_underlying hu,sizeOf,typeInfo,hi1,newRow,Instr.fill];rw[show Array.range 0= #[]from Array.eq_empty_of_size_eq_zero (by simp)];simp
 refine fK ?_ (h w.heap.size _ (hS.alloc [] e) (iV w _));have hp:((#[]:Array (Nat×Operand)).map λ(i,x)=>(i,ev N ρ x))= #[]:=by simp
 simp only[execOp,hp,Sem.run_bind,hr,Result.andThen_ok];rfl
theorem zV {α:Type} {enc:α->List Value} {size bytes:Nat} {zz:List Value} {X Y:List α} {xv:Value} (hx:ev N ρ x=v) (hy:ev N ρ y=xv) (ht:sinfo P t=some (e,size,bytes,zz)) (hsz:0<size)
  (hG:Gl enc e size v X L) (hS:St w0 w (H++L)) (hY:Sl enc size w xv Y) (hu:∀x,(enc x).length=size) (h1:∀u∈Y.flatMap enc,u.oneCell'=true)
  (h63:X.length+Y.length<=9223372036854775807) (hb:(X.length+Y.length)*bytes<=140737488355328)
  (h:∀v' L' w',Gl enc e size v' (X++Y) L'->St w0 w' (H++L')->w.heap.size<=w'.heap.size->((∀i,i<w.heap.size->v.ownBlock≠some i->w'.heap[i]?=w.heap[i]?))->K2 v' w'):
  gZ P N ρ w ⟨d,.call ⟨.builtin .append,#[x,y],#[t,t]⟩,ty,pos,aft,g⟩ K2:=by
 obtain⟨ad,c,hxv,hc1,hc2,hn⟩:=hY.form;cases ad with
 |some ad=>
  have hat:=hY.flat hu hsz;rw[hxv]at hat;refine NE (H:=H) hx hy ht hsz hG (hS.perm List.perm_append_comm) hxv (by rw[cQ hu]) hat h1 h63 hb (λv' L' w' hG' hS' hun hge=> ?_);refine h v' L' w' ?_ (hS'.perm List.perm_append_comm) hge hun;unfold Gl;rw[List.length_append,List.flatMap_append];exact hG'
 |none=>
  have hc0:=hn rfl;obtain rfl:Y=[]:=List.eq_nil_of_length_eq_zero oO;subst hc0;obtain⟨hus,ii,zv,hi1,hz,hsize,hby,hcz,hzl⟩:=dJ ht;have hr:(Builtin.append_ #[t,t] ty #[v,.slice none 0 0]).run P w= .ok v w:=by
   obtain⟨_,⟨rfl,_,_⟩|⟨b',cap',sp',rfl,_,g1,_,_⟩⟩:=hG
   ·simp[Builtin.append_,run_underlying hus,sizeOf,typeInfo,hi1,Builtin.lenOf,Builtin.firstCells]
   ·simp[Builtin.append_,run_underlying hus,sizeOf,typeInfo,hi1,Builtin.lenOf,Builtin.firstCells,g1,storeCells]
  refine fK ?_ (h v L w (by rw[List.append_nil];exact hG) hS (Nat.le_refl _) (λ_ _ _=>rfl));rw[hxv]at hy;have hy':ev N ρ y= .slice none 0 0:=hy;simp[execOp,resolve,invoke,builtin,hx,hy',hr]
theorem Er {α:Type} {enc:α->List Value} {size bytes:Nat} {zz:List Value} {Y:List α} {xv:Value} (hx:ev N ρ x= .slice none 0 0) (hy:ev N ρ y=xv) (ht:sinfo P t=some (e,size,bytes,zz)) (hsz:0<size)
  (hS:St w0 w H) (hY:Sl enc size w xv Y) (hu:∀x,(enc x).length=size) (h1:∀u∈Y.flatMap enc,u.oneCell'=true)
  (h63:Y.length<=9223372036854775807) (hb:Y.length*bytes<=140737488355328)
  (h:∀v' L' w',Gl enc e size v' Y L'->St w0 w' (H++L')->Below w.heap.size w w'->K2 v' w'):
  gZ P N ρ w ⟨d,.call ⟨.builtin .append,#[x,y],#[t,t]⟩,ty,pos,aft,g⟩ K2:=by
 refine zV (H:=H) (L:=[]) (X:=[]) hx hy ht hsz (Gl.nil enc e size) (by rw[List.append_nil];exact hS) hY hu h1 (by rw[List.length_nil];omega) (by rw[List.length_nil,Nat.zero_add];exact hb) (λv' L' w' hG' hS' hge hun=> ?_);rw[List.nil_append]at hG';exact h v' L' w' hG' hS' ⟨hS'.ab.os.trans hS.ab.os.symm,hS'.ab.tape.trans hS.ab.tape.symm,hS'.ab.output.trans hS.ab.output.symm,hge,λk hk=>hun k hk (by simp[Value.ownBlock])⟩
end
section
variable {P : Program} {N : Nat} {ρ : Nat → Value} {w0 w : World} {H : List bQ} {k b : Nat} {t : TypeId} {cs : List Value}
theorem tk {fn:Func} {p u:Tmp} {ty:TypeId} (h:fn.results= #[.tmp u,.cell p ty]) (tmps:Array Value) (P:Program) (w:World):
  (results fn tmps).run P w=
   ((asAddr (tmps.getD p undef)).run P w).andThen λa w₁=>((loadVar ty a).run P w₁).andThen λv w₂=> .ok (.tuple #[tmps.getD u undef,v]) w₂:=by
 simp only[results,h];simp[Sem.run_bind,Result.andThen]
theorem mL {fn:Func} {p u n:Nat} {ty:TypeId} {zz:List Value} {y:Value} {R:Value->World->Prop} (hr:fn.results= #[.tmp u,.cell p ty]) (hp:ev N ρ (.tmp p)= .pointer (some ⟨b,0,none⟩)) (hy:ev N ρ (.tmp u)=y) (ht:da P ty=some (n,true,zz))
  (hS:St w0 w H) (hk:H[k]?=some (b,t,cs)) (hn:cs.length=n) (h:R (.tuple #[y,.agg cs.toArray]) w):
  bodyPost P fn (λe w'=>∃v,e= .returned v/\R v w') .ret (act N ρ) w:=by
 refine bodyPost_ret (v:= .tuple #[y,.agg cs.toArray]) ?_ rfl ⟨_,rfl,h⟩;rw[tk hr,fI,fI,hp,hy];have hl:=hS.loadVar hk ht hn;simp only[asAddr,Sem.run_pure,Result.andThen_ok];rw[hl];simp[Result.andThen]
end
section
variable {P : Program} {ops : Array Oper} {Kend : Act → World → Prop}
def nD (ops:Array Oper) (U:List (Nat×Md)) (i:Nat):Bool:=match ops[i]?with
 |some o=>o.after.all λe=> !Region.binds .any e|| !(U.any λy=>Nat.beq y.1 e.on)
 |none=>false
def del (U:List (Nat×Md)) (i:Nat):List (Nat×Md):=U.filter λy=> !Nat.beq y.1 i
theorem jF {U:List (Nat×Md)} {i:Nat} {y:Nat×Md}:y∈del U i↔y∈U/\y.1≠i:=by
 unfold del;rw[List.mem_filter];constructor
 ·rintro⟨h1,h2⟩;refine⟨h1,λe=> ?_⟩;rw[e]at h2;simp at h2
 ·rintro⟨h1,h2⟩;refine⟨h1,?_⟩;rw[Bool.not_eq_true'];cases hb:Nat.beq y.1 i with
  |false=>rfl
  |true=>exact absurd (Nat.eq_of_beq_eq_true hb) h2
theorem IY (U:List (Nat×Md)) (i j:Nat):del (del U i) j=del (del U j) i:=by
 unfold del;rw[List.filter_filter,List.filter_filter];congr 1;funext y;exact Bool.and_comm _ _
theorem BD {U V:List (Nat×Md)} (h:∀y∈V,y∈U) {i:Nat} (hr:nD ops U i=true):nD ops V i=true:=by
 unfold nD at*;cases ho:ops[i]?with
 |none=>rw[ho]at hr;cases hr
 |some o=>
  rw[ho]at hr;simp only at hr⊢;rw[Array.all_eq_true']at hr⊢;intro e he;have:=hr e he;rw[Bool.or_eq_true]at this⊢;rcases this with q|q
  ·exact .inl q
  ·right;rw[Bool.not_eq_true']at q⊢;rw[List.any_eq_false]at q⊢;exact λy hy=>q y (h y hy)
theorem ww {U:List (Nat×Md)} {i:Nat} (hr:nD ops U i=true):∃o,ops[i]?=some o/\∀e∈o.after,Region.binds .any e=true->∀y∈U,y.1≠e.on:=by
 unfold nD at hr;cases ho:ops[i]?with
 |none=>rw[ho]at hr;cases hr
 |some o=>
  rw[ho]at hr;simp only at hr;rw[Array.all_eq_true']at hr;refine⟨o,rfl,λe he hb y hy q=> ?_⟩;have:=hr e he;rw[hb,Bool.not_true,Bool.false_or,Bool.not_eq_true',List.any_eq_false]at this;exact this y hy (by rw[q];simp)
def Dt (P:Program) (ops:Array Oper) (Kend:Act->World->Prop):Nat->List (Nat×Md)->Act->World->Prop
 |0,U,a,w=>U=[]/\Kend a w
 |n+1,U,a,w=>(U=[]->Kend a w)/\∀x∈U,nD ops U x.1=true->∃o,ops[x.1]?=some o/\du P ops x.2 o a w (Dt P ops Kend n (del U x.1))
def F1 (ops:Array Oper):Bool:=(List.range ops.size).all λi=>match ops[i]?with
 |some o=>o.after.all λe=> !Region.binds .any e||Nat.blt e.on i
 |none=>true
theorem HT (h:F1 ops=true) {i:Nat} {o:Oper} (hi:ops[i]?=some o):∀e∈o.after,Region.binds .any e=true->e.on<i:=by
 intro e he hb;have hlt:i<ops.size:=by
  rcases Nat.lt_or_ge i ops.size with q|q
  ·exact q
  ·rw[Array.getElem?_eq_none q]at hi;cases hi
 have:=List.all_eq_true.1 h i (List.mem_range.2 hlt);rw[hi]at this;have:=Array.all_eq_true'.1 this e he;rw[hb,Bool.not_true,Bool.false_or,Nat.blt_eq]at this;exact this
theorem OV (hlow:F1 ops=true) {U:List (Nat×Md)} (hU:∀y∈U,y.1<ops.size):∀k m,(k,m)∈U->∃x∈U,nD ops U x.1=true:=by
 intro k;induction k using Nat.strongRecOn with
 |_ k ih=>
  intro m hm;by_cases hr:nD ops U k=true
  ·exact⟨_,hm,hr⟩
  ·have hk:=hU _ hm;have ho:ops[k]?=some ops[k]:=Array.getElem?_eq_getElem hk;unfold nD at hr;rw[ho]at hr;simp only at hr;rw[Array.all_eq_true']at hr;have:∃e∈ops[k].after,¬(!Region.binds .any e|| !(U.any λy=>Nat.beq y.1 e.on))=true:=by
    refine Classical.byContradiction λhc=>hr λe he=> ?_;exact Classical.byContradiction λhn=>hc ⟨e,he,hn⟩
   obtain⟨e,he,hn⟩:=this;rw[Bool.or_eq_true,not_or]at hn;obtain⟨h1,h2⟩:=hn;have hb:Region.binds .any e=true:=by simpa using h1
   have h3:(U.any λy=>Nat.beq y.1 e.on)=true:=by simpa using h2
   obtain⟨y,hy,hyb⟩:=List.any_eq_true.1 h3;have hye:=Nat.eq_of_beq_eq_true hyb;obtain⟨y1,y2⟩:=y;simp only at hye;exact ih y1 (by rw[hye];exact HT hlow ho e he hb) y2 hy
theorem yh {Q:Exit->Act->World->Prop} (hQ:∀a w,Kend a w->Q .normal a w) (hlow:F1 ops=true):
  ∀(n:Nat) (U:List (Nat×Md)) (listed:Array Bool) (a:Act) (w:World),listed.size=ops.size->(∀i,listed.getD i true=false↔∃m,(i,m)∈U)->(∀y∈U,y.1<ops.size)->Dt P ops Kend n U a w->wpAny P .any ops Q n listed a w:=by
 intro n;induction n with
 |zero=>
  intro U listed a w _ hl _ h;obtain⟨rfl,h⟩:=h;refine⟨List.eq_nil_iff_forall_not_mem.2 λi hi=> ?_,hQ _ _ h⟩;obtain⟨m,hm⟩:=(hl i).1 (mem_ready.1 hi).1;cases hm
 |succ n ih=>
  intro U listed a w hsz hl hU h;obtain⟨h1,h2⟩:=h;have hrd:∀i,listed.getD i true=false->(∀(o:Oper),ops[i]?=some o->∀e∈o.after,Region.binds .any e=true->listed.getD e.on false=true)->(∃o,ops[i]?=some o)->nD ops U i=true:=by
   rintro i _ hd ⟨o,ho⟩;unfold nD;rw[ho];simp only;rw[Array.all_eq_true'];intro e he;cases hb:Region.binds .any e with
   |false=>rfl
   |true=>
    rw[Bool.not_true,Bool.false_or,Bool.not_eq_true',List.any_eq_false];intro y hy hyb;have hye:=Nat.eq_of_beq_eq_true hyb;have h3:=hd o ho e he hb;have h4:=(hl y.1).2 ⟨y.2,hy⟩;rw[hye]at h4;rcases Nat.lt_or_ge e.on listed.size with q|q
    ·simp only[Array.getD,q,dite_true]at h3 h4;rw[h3]at h4;cases h4
    ·simp[Array.getD,Nat.not_lt.2 q]at h3
  refine⟨λhr=> ?_,λi hi=> ?_⟩
  ·refine hQ _ _ (h1 (List.eq_nil_iff_forall_not_mem.2 λx hx=> ?_));obtain⟨y,hy,hyr⟩:=OV hlow hU x.1 x.2 hx;obtain⟨o,ho,hd⟩:=ww hyr;have:y.1∈Region.ready .any ops listed:=mem_ready.2 ⟨(hl y.1).2 ⟨y.2,hy⟩,o,ho,λe he hb=>by
    have hne:=hd e he hb;have hlt:e.on<listed.size:=by
     have:=HT hlow ho e he hb;have:=hU y hy;omega
    have h5:¬listed.getD e.on true=false:=λg=>by
     obtain⟨m,hm⟩:=(hl e.on).1 g;exact hne _ hm rfl
    simp only[Array.getD,hlt,dite_true]at h5⊢;simpa using h5⟩
   rw[hr]at this;cases this
  ·obtain⟨hun,oi,hoi,hdeps⟩:=mem_ready.1 hi;obtain⟨m,hm⟩:=(hl i).1 hun;have hr:=hrd i hun (λo ho=>by rw[hoi]at ho;obtain rfl:=Option.some.inj ho;exact hdeps) ⟨oi,hoi⟩;obtain⟨o,ho,hst⟩:=h2 (i,m) hm hr;have hilt:i<listed.size:=by rw[hsz];exact hU _ hm
   refine kL ho (dY (λa w hh=> ?_) hst);refine ih (del U i) (listed.setIfInBounds i true) a w (by simpa using hsz) ?_ (λy hy=>hU y (jF.1 hy).1) hh;intro j;by_cases hji:j=i
   ·subst hji;constructor
    ·intro hf;simp[Array.getD,hilt]at hf
    ·rintro⟨m',hm'⟩;exact absurd rfl (jF.1 hm').2
   ·rw[getD_set_ne true (Ne.symm hji),hl j];constructor
    ·rintro⟨m',hm'⟩;exact⟨m',jF.2 ⟨hm',hji⟩⟩
    ·rintro⟨m',hm'⟩;exact⟨m',(jF.1 hm').1⟩
theorem I3 {m:Md} {o:Oper} {a:Act} {w:World} {K:Act->World->Prop} (h:du P ops m o a w K):∃a' w',K a' w':=by
 unfold du at h;split at h
 ·cases m with
  |pure=>obtain⟨v,_,h⟩:=h;exact⟨_,_,h⟩
  |read=>obtain⟨v,_,h⟩:=h;exact⟨_,_,h⟩
  |aG=>obtain⟨v,w',h⟩:=sG h;exact⟨_,_,h.2⟩
  |free=>obtain⟨v,w',h⟩:=sG h;exact⟨_,_,h⟩
 ·exact⟨_,_,h⟩
inductive Bl (ops:Array Oper) (U:List (Nat×Md)) (i:Nat):Nat->Prop
 |one {y:Nat} {o:Oper} {e:Edge}:ops[y]?=some o->e∈o.after->Region.binds .any e=true->e.on=i->Bl ops U i y
 |far {y:Nat} {o:Oper} {e:Edge} {z:Nat×Md}:ops[y]?=some o->e∈o.after->Region.binds .any e=true->e.on=z.1->z∈U->Bl ops U i z.1->Bl ops U i y
theorem Bl.Rl {i:Nat} {m:Md} {U:List (Nat×Md)} (hm:(i,m)∈U) {y:Nat} (h:Bl ops U i y):nD ops U y≠true:=by
 intro hr;obtain⟨o,ho,hd⟩:=ww hr;cases h with
 |one h1 h2 h3 h4=>
  rw[ho]at h1;obtain rfl:=Option.some.inj h1;exact hd _ h2 h3 _ hm h4.symm
 |far h1 h2 h3 h4 h5 _=>
  rw[ho]at h1;obtain rfl:=Option.some.inj h1;exact hd _ h2 h3 _ h5 h4.symm
theorem Bl.del {i:Nat} {m:Md} {U:List (Nat×Md)} (hm:(i,m)∈U) {x:Nat} (hx:nD ops U x=true) {y:Nat} (h:Bl ops U i y):Bl ops (del U x) i y:=by
 induction h with
 |one h1 h2 h3 h4=>exact .one h1 h2 h3 h4
 |far h1 h2 h3 h4 h5 h6 ih=>exact .far h1 h2 h3 h4 (jF.2 ⟨h5,λe=>h6.Rl hm (by rw[e];exact hx)⟩) ih
def QJ (ops:Array Oper) (U:List (Nat×Md)) (i:Nat):Nat->Nat->Bool
 |0,_=>false
 |n+1,y=>match ops[y]?with
  |some o=>o.after.any λe=>Region.binds .any e&&(Nat.beq e.on i||((U.any λz=>Nat.beq z.1 e.on)&&QJ ops U i n e.on))
  |none=>false
theorem G6 {U:List (Nat×Md)} {i:Nat}:∀(n y:Nat),QJ ops U i n y=true->Bl ops U i y:=by
 intro n;induction n with
 |zero=>intro y h;cases h
 |succ n ih=>
  intro y h;unfold QJ at h;cases ho:ops[y]?with
  |none=>rw[ho]at h;cases h
  |some o=>
   rw[ho]at h;simp only at h;rw[Array.any_eq_true']at h;obtain⟨e,he,hq⟩:=h;rw[Bool.and_eq_true,Bool.or_eq_true,Bool.and_eq_true]at hq;obtain⟨hb,q|⟨q,r⟩⟩:=hq
   ·exact .one ho he hb (Nat.eq_of_beq_eq_true q)
   ·obtain⟨z,hz,hzb⟩:=List.any_eq_true.1 q;have e2:=Nat.eq_of_beq_eq_true hzb;exact .far ho he hb e2.symm hz (by rw[e2];exact ih _ r)
def AX (ops:Array Oper) (x:Nat×Md) (U:List (Nat×Md)):Bool:=
 nD ops U x.1&&(U.any λy=>Nat.beq y.1 x.1)&&U.all λy=>(Nat.beq y.1 x.1&&decide (y.2=x.2))||(!Nat.beq y.1 x.1&&(QJ ops U x.1 6 y.1||fw ops x y))
theorem wA (hs:oI ops) {i:Nat} {m:Md} {oi:Oper} (hi:ops[i]?=some oi):
  ∀(n:Nat) (U:List (Nat×Md)) (a:Act) (w:World),(i,m)∈U->nD ops U i=true->(∀y∈U,y.1=i->y.2=m)->
   (∀y∈U,y.1≠i->Bl ops U i y.1\/fw ops (i,m) y=true)->
   du P ops m oi a w (Dt P ops Kend n (del U i))->Dt P ops Kend (n+1) U a w:=by
 intro n;induction n with
 |zero=>
  intro U a w hm hr hu hsw h;refine⟨λe=>(by rw[e]at hm;cases hm),λx hx hxr=> ?_⟩;by_cases hxi:x.1=i
  ·obtain⟨x1,x2⟩:=x;simp only at hxi;subst hxi;obtain rfl:=hu _ hx rfl;exact⟨oi,hi,h⟩
  ·exfalso;obtain⟨_,_,h3,_⟩:=I3 h;have:=jF.2 ⟨hx,hxi⟩;rw[h3]at this;cases this
 |succ n ih=>
  intro U a w hm hr hu hsw h;refine⟨λe=>(by rw[e]at hm;cases hm),λx hx hxr=> ?_⟩;by_cases hxi:x.1=i
  ·obtain⟨x1,x2⟩:=x;simp only at hxi;subst hxi;obtain rfl:=hu _ hx rfl;exact⟨oi,hi,h⟩
  ·obtain⟨ox,hox,hxd⟩:=ww hxr;have hsx:fw ops (i,m) x=true:=by
    rcases hsw x hx hxi with q|q
    ·exact absurd hxr (q.Rl hm)
    ·exact q
   refine⟨ox,hox,?_⟩;have h1:du P ops m oi a w (λa w=>du P ops x.2 ox a w (Dt P ops Kend n (del (del U i) x.1))):=dY (λa w g=>by
    obtain⟨o,ho,g⟩:=g.2 x (jF.2 ⟨hx,hxi⟩) (BD (λy hy=>(jF.1 hy).1) hxr);rw[hox]at ho;obtain rfl:=Option.some.inj ho;exact g) h
   obtain⟨x1,x2⟩:=x;have h2:=BZ hi hox (λcs b=>hs i oi cs b hi) (λcs b=>hs x1 ox cs b hox) hsx h1;refine dY (λa w g=> ?_) h2;rw[IY]at g;exact ih (del U x1) a w (jF.2 ⟨hm,Ne.symm hxi⟩) (BD (λy hy=>(jF.1 hy).1) hr) (λy hy=>hu y (jF.1 hy).1) (λy hy hne=>(hsw y (jF.1 hy).1 hne).imp (λq=>q.del hm hxr) id) g
end
structure Wz (P:Program) (ops:Array Oper) (Kend:Act->World->Prop) (n:Nat) (U:List (Nat×Md)) (N:Nat) (ρ:Nat->Value) (w:World):Prop where
 out:oI ops->Dt P ops Kend n U (act N ρ) w
def oL (P:Program) (ops:Array Oper) (Kend:Act->World->Prop) (n:Nat) (U':List (Nat×Md)) (x:Nat×Md) (N:Nat) (ρ:Nat->Value) (w:World):Prop:=
 oI ops->∃o,ops[x.1]?=some o/\du P ops x.2 o (act N ρ) w (Dt P ops Kend n U')
def Io (ops:Array Oper) (n:Nat) (U:List (Nat×Md)):Bool:=
 Nat.beq ops.size n&&decide (U.map (·.1)=List.range n)&&F1 ops&&ops.all λo=>match o.op with| .select .. =>false|_=>true
section
variable {P : Program} {N : Nat} {ρ : Nat → Value} {w0 w : World} {Q : Exit → Act → World → Prop} {ops : Array Oper} {H : List bQ} {Kend : Act → World → Prop} {i n : Nat} {o : Oper} {U U' : List (Nat × Md)}
theorem vV {id:Nat} {l:List Oper} (n:Nat) (U:List (Nat×Md)) (hm:P.follows .mixedOrders=true) (hchk:Io l.toArray n U=true) (hS:St w0 w H)
  (h:∀w',St w0 w' H->Below w.heap.size w w'->Wz P l.toArray (Q .normal) n U N ρ w'):(Code.region id l.toArray true).wp P Q (act N ρ) w:=by
 simp only[Io,Bool.and_eq_true,decide_eq_true_eq]at hchk;obtain⟨⟨⟨h1,h2⟩,h3⟩,h6⟩:=hchk;have hsz:=Nat.eq_of_beq_eq_true h1;have hs:oI l.toArray:=by
  intro i o cs b hi hsel;have:=Array.all_eq_true'.1 h6 o (Array.mem_of_getElem? hi);rw[hsel]at this;cases this
 have hbd:Below w.heap.size w {w with drawn:=w.drawn+1}:=(Below.refl _ w).drew;have hUm:∀i,(∃m,(i,m)∈U)↔i<n:=by
  intro i;rw[<-List.mem_range,<-h2,List.mem_map];constructor
  ·rintro⟨m,hm⟩;exact⟨_,hm,rfl⟩
  ·rintro⟨⟨a,m⟩,hm,rfl⟩;exact⟨m,hm⟩
 refine wp_region_any hm ?_;rw[hsz];refine yh (λ_ _ h=>h) h3 n U _ _ _ (by simp;simpa using hsz.symm) ?_ (λy hy=>by rw[hsz];exact(hUm y.1).1 ⟨y.2,hy⟩) ((h _ (hS.aG hbd) hbd).out hs);intro i;rw[hUm];constructor
 ·intro hf;rcases Nat.lt_or_ge i n with q|q
  ·exact q
  ·simp[Array.getD,Nat.not_lt.2 q]at hf
 ·intro q;simp[Array.getD,q]
theorem fb (h:Kend (act N ρ) w):Wz P ops Kend n [] N ρ w:=⟨λ_=>by
 cases n with
 |zero=>exact⟨rfl,h⟩
 |succ n=>exact⟨λ_=>h,λx hx=>by cases hx⟩⟩
theorem up {x:Nat×Md} (h:AX ops x U=true):x∈U/\nD ops U x.1=true/\(∀y∈U,y.1=x.1->y.2=x.2)/\
  ∀y∈U,y.1≠x.1->Bl ops U x.1 y.1\/fw ops x y=true:=by
 simp only[AX,Bool.and_eq_true]at h;obtain⟨⟨h1,h2⟩,h3⟩:=h;have hu:∀y∈U,y.1=x.1->y.2=x.2:=λy hy e=>by
  have:=List.all_eq_true.1 h3 y hy;rw[e]at this;simp at this;exact this
 refine⟨?_,h1,hu,λy hy hne=> ?_⟩
 ·obtain⟨y,hy,hb⟩:=List.any_eq_true.1 h2;have e:=Nat.eq_of_beq_eq_true hb;have e2:=hu y hy e;obtain⟨y1,y2⟩:=y;obtain⟨x1,x2⟩:=x;simp only at e e2;rw[<-e,<-e2];exact hy
 ·have:=List.all_eq_true.1 h3 y hy;have hb:Nat.beq y.1 x.1=false:=by
   cases hb:Nat.beq y.1 x.1 with
   |false=>rfl
   |true=>exact absurd (Nat.eq_of_beq_eq_true hb) hne
  rw[hb,Bool.false_and,Bool.false_or,Bool.not_false,Bool.true_and,Bool.or_eq_true]at this;rcases this with q|q
  ·exact .inl (G6 _ _ q)
  ·exact .inr q
theorem bN {d:Option Tmp} {p:Op} {ty:TypeId} {pos:String} {aft:Array Edge} {g:Option (Nat×Bool)} (hf:AX ops (i,.pure) U=true) (hd:del U i=U') (ho:ops[i]?=some ⟨d,p,ty,pos,aft,g⟩) (hg:gd ops N ρ g=true)
  (h:dp P N ρ ⟨d,p,ty,pos,aft,g⟩ λv=>Wz P ops Kend n U' N (lH ρ d v) w):Wz P ops Kend (n+1) U N ρ w:=by
 subst hd;obtain⟨f1,f2,f3,f4⟩:=up hf;refine⟨λhs=>wA hs ho n U _ _ f1 f2 f3 f4 ?_⟩;rw[fv (gB ops N ρ ⟨d,p,ty,pos,aft,g⟩ hg),gg];obtain⟨v,h1,h2⟩:=h;exact⟨v,h1,by rw[gR];exact h2.out hs⟩
theorem iG {d:Option Tmp} {p:Op} {ty:TypeId} {pos:String} {aft:Array Edge} {g:Option (Nat×Bool)} (hf:AX ops (i,.read) U=true) (hd:del U i=U') (ho:ops[i]?=some ⟨d,p,ty,pos,aft,g⟩) (hg:gd ops N ρ g=true)
  (h:jP P N ρ w ⟨d,p,ty,pos,aft,g⟩ λv=>Wz P ops Kend n U' N (lH ρ d v) w):Wz P ops Kend (n+1) U N ρ w:=by
 subst hd;obtain⟨f1,f2,f3,f4⟩:=up hf;refine⟨λhs=>wA hs ho n U _ _ f1 f2 f3 f4 ?_⟩;rw[kH (gB ops N ρ ⟨d,p,ty,pos,aft,g⟩ hg),gg];obtain⟨v,h1,h2⟩:=h;exact⟨v,h1,by rw[gR];exact h2.out hs⟩
theorem bK {d:Option Tmp} {p:Op} {ty:TypeId} {pos:String} {aft:Array Edge} {g:Option (Nat×Bool)} (ho:ops[i]?=some ⟨d,p,ty,pos,aft,g⟩) (hg:gd ops N ρ g=true)
  (h:gZ P N ρ w ⟨d,p,ty,pos,aft,g⟩ λv w'=>Below w.heap.size w w'/\Wz P ops Kend n U' N (lH ρ d v) w'):oL P ops Kend n U' (i,.aG) N ρ w:=λhs=>by
 refine⟨_,ho,?_⟩;rw[jL (gB ops N ρ ⟨d,p,ty,pos,aft,g⟩ hg),gg];simp only[gR];exact gk (λv w h=>⟨h.1,h.2.out hs⟩) h.out
theorem ca {d:Option Tmp} {p:Op} {ty:TypeId} {pos:String} {aft:Array Edge} {g:Option (Nat×Bool)} (ho:ops[i]?=some ⟨d,p,ty,pos,aft,g⟩) (hg:gd ops N ρ g=true)
  (h:gZ P N ρ w ⟨d,p,ty,pos,aft,g⟩ λv w'=>Wz P ops Kend n U' N (lH ρ d v) w'):oL P ops Kend n U' (i,.free) N ρ w:=λhs=>by
 refine⟨_,ho,?_⟩;rw[ky (gB ops N ρ ⟨d,p,ty,pos,aft,g⟩ hg),gg];simp only[gR];exact gk (λv w h=>Wz.out h hs) h.out
theorem bS {x:Nat×Md} (hR:(U.filter λy=>nD ops U y.1)=[x]) (hd:del U x.1=U') (h:oL P ops Kend n U' x N ρ w):Wz P ops Kend (n+1) U N ρ w:=by
 subst hd;refine⟨λhs=>⟨λe=>(by rw[e]at hR;cases hR),λy hy hr=> ?_⟩⟩;have:y∈[x]:=by rw[<-hR];exact List.mem_filter.2 ⟨hy,hr⟩
 obtain rfl:=List.mem_singleton.1 this;exact h hs
theorem jQ {x y:Nat×Md} {U'':List (Nat×Md)} (hR:(U.filter λy=>nD ops U y.1)=[x,y]) (hd:del U x.1=U') (hd':del U y.1=U'') (h:oL P ops Kend n U' x N ρ w) (h':oL P ops Kend n U'' y N ρ w):Wz P ops Kend (n+1) U N ρ w:=by
 subst hd hd';refine⟨λhs=>⟨λe=>(by rw[e]at hR;cases hR),λz hz hr=> ?_⟩⟩;have:z∈[x,y]:=by rw[<-hR];exact List.mem_filter.2 ⟨hz,hr⟩
 rcases List.mem_cons.1 this with rfl|this
 ·exact h hs
 ·obtain rfl:=List.mem_singleton.1 this;exact h' hs
theorem uH {x y z:Nat×Md} {U1 U2 U3:List (Nat×Md)} (hR:(U.filter λy=>nD ops U y.1)=[x,y,z]) (hd1:del U x.1=U1) (hd2:del U y.1=U2) (hd3:del U z.1=U3)
  (h1:oL P ops Kend n U1 x N ρ w) (h2:oL P ops Kend n U2 y N ρ w) (h3:oL P ops Kend n U3 z N ρ w):Wz P ops Kend (n+1) U N ρ w:=by
 subst hd1 hd2 hd3;refine⟨λhs=>⟨λe=>(by rw[e]at hR;cases hR),λt ht hr=> ?_⟩⟩;have:t∈[x,y,z]:=by rw[<-hR];exact List.mem_filter.2 ⟨ht,hr⟩
 rcases List.mem_cons.1 this with rfl|this
 ·exact h1 hs
 ·rcases List.mem_cons.1 this with rfl|this
  ·exact h2 hs
  ·obtain rfl:=List.mem_singleton.1 this;exact h3 hs
end
def Gq {α:Type} (enc:α->List Value) (e:TypeId) (size:Nat) (v:Value) (X:List α) (L:List bQ):Prop:=
 (X=[]/\∃a cap,v= .slice a 0 cap)\/
 ∃b cap pre sp,v= .slice (some ⟨b,pre.length,none⟩) X.length cap/\L=[(b,e,pre++(X.flatMap enc++sp))]/\X.length<=cap/\cap<=Go.maxLen/\sp.length=(cap-X.length)*size
section
variable {α : Type} {enc : α → List Value} {e : TypeId} {size : Nat} {w0 w : World} {H L : List bQ} {X : List α} {v : Value}
theorem Gq.sl (h:Gq enc e size v X L) (hS:St w0 w (H++L)) (hu:∀x,(enc x).length=size) (hne:X≠ []):Sl enc size w v X:=by
 obtain⟨rfl,_⟩|⟨b,cap,pre,sp,rfl,rfl,h1,h2,h3⟩:=h
 ·exact absurd rfl hne
 have hh:=(hS.perm List.perm_append_comm).get (k:=0) (b:=b) (t:=e) (cs:=pre++(X.flatMap enc++sp)) rfl;refine⟨⟨some ⟨b,pre.length,none⟩,cap,rfl,h1,h2,λh=>by cases h⟩,λi hi j u hj=> ?_⟩;have hj':j<size:=by
  have:=(List.getElem?_eq_some_iff.1 hj).1;rwa[hu]at this
 rw[show mx (.slice (some ⟨b,pre.length,none⟩) X.length cap)=⟨b,pre.length,none⟩from rfl,add_lit,add_lit,cell_of_row w b _ _ e _ hh];have hlt:i*size+j<(X.flatMap enc).length:=by
  rw[cQ hu];have:(i+1)*size<=X.length*size:=Nat.mul_le_mul_right _ hi;rw[Nat.add_mul]at this;omega
 rw[List.getElem?_toArray,Nat.add_assoc,List.getElem?_append_right (Nat.le_add_right _ _),Nat.add_sub_cancel_left,List.getElem?_append_left hlt,flat_get hu X i j hi hj'];exact hj
end
section
variable {P : Program} {N : Nat} {ρ : Nat → Value} {w0 w w' : World} {d : Option Tmp} {ty : TypeId} {pos : String} {aft : Array Edge} {g : Option (Nat × Bool)} {x y z : Operand} {t t' e : TypeId} {H L : List bQ} {b : Nat} {cs : List Value} {v : Value} {K2 : Value → World → Prop} {K : Value → Prop}
end
abbrev Mx:=Nat->Nat->Rat
def ay (f:Nat->Rat):Nat->Rat
 |0=>0
 |n+1=>ay f n+f n
theorem aJ {f g:Nat->Rat}:∀ {n:Nat},(∀i,i<n->f i=g i)->ay f n=ay g n
 |0,_=>rfl
 |n+1,h=>by
  show ay f n+f n=ay g n+g n;rw[aJ λi hi=>h i oO,h n oO]
theorem cj {f:Nat->Rat}:∀ {n:Nat},(∀i,i<n->f i=0)->ay f n=0
 |0,_=>rfl
 |n+1,h=>by
  show ay f n+f n=0;rw[cj λi hi=>h i oO,h n oO];exact Rat.zero_add 0
theorem eu (f g:Nat->Rat) (t:Rat):∀n,ay (λi=>f i+t*g i) n=ay f n+t*ay g n
 |0=>by show(0:Rat)=0+t*0;grind
 |n+1=>by
  show ay (λi=>f i+t*g i) n+(f n+t*g n)=ay f n+f n+t*(ay g n+g n);rw[eu f g t n];grind
theorem fk {f:Nat->Rat} {p:Nat}:∀ {n:Nat},p<n->(∀i,i<n->i≠p->f i=0)->ay f n=f p
 |n+1,hp,h=>by
  show ay f n+f n=f p;by_cases e:p=n
  ·subst e;rw[cj λi hi=>h i oO oO];exact Rat.zero_add _
  ·rw[fk oO λi hi=>h i oO,h n oO oO];exact Rat.add_zero _
theorem C0 {f:Nat->Rat} {p:Nat}:∀ {n:Nat},p+1<n->(∀i,i<n->i≠p->i≠p+1->f i=0)->ay f n=f p+f (p+1)
 |n+1,hp,h=>by
  show ay f n+f n=_;by_cases e:p+1=n
  ·subst e;show ay f p+f p+f (p+1)=_;rw[cj λi hi=>h i oO oO oO,Rat.zero_add]
  ·rw[C0 oO λi hi=>h i oO,h n oO oO oO];exact Rat.add_zero _
def qX (A:Mx) (i:Nat):Mx:=λr c=>A (if r<i then r else r+1) (c+1)
def AU (i:Nat):Rat:=if i%2=0 then 1 else-1
theorem GQ (i:Nat):AU (i+1)= -AU i:=by
 unfold AU;by_cases h:i%2=0
 ·rw[if_neg oO,if_pos h]
 ·rw[if_pos oO,if_neg h];rfl
def jX:Nat->Mx->Rat
 |0,_=>1
 |n+1,A=>ay (λi=>AU i*A i 0*jX n (qX A i)) (n+1)
theorem kY (n:Nat) (A:Mx):jX (n+1) A=ay (λi=>AU i*A i 0*jX n (qX A i)) (n+1):=rfl
theorem fH:∀ {n:Nat} {A B:Mx},(∀i,i<n->∀j,j<n->A i j=B i j)->jX n A=jX n B
 |0,_,_,_=>rfl
 |n+1,A,B,h=>by
  rw[kY,kY];refine aJ λi hi=> ?_;rw[h i hi 0 oO];rw[fH (A:=qX A i) (B:=qX B i) λr hr c hc=>h _ (by split<;>omega) _ oO]
theorem AD:∀ {n:Nat} {A:Mx},(∀i,i<n->∀j,j<n->∃z:Int,A i j=z)->∃z:Int,jX n A=z
 |0,_,_=>⟨1,rfl⟩
 |n+1,A,h=>by
  have key:∀k,k<=n+1->∃z:Int,ay (λi=>AU i*A i 0*jX n (qX A i)) k=z:=by
   intro k;induction k with
   |zero=>exact λ_=>⟨0,rfl⟩
   |succ k ih=>
    intro hk;obtain⟨z,hz⟩:=ih oO;obtain⟨a,ha⟩:=h k oO 0 oO;obtain⟨d,hd⟩:=AD (A:=qX A k) (n:=n) λr hr c hc=>h _ (by split<;>omega) _ oO;show∃y:Int,ay (λi=>AU i*A i 0*jX n (qX A i)) k+AU k*A k 0*jX n (qX A k)=y;rw[hz,ha,hd];unfold AU;by_cases e:k%2=0
    ·rw[if_pos e];exact⟨z+a*d,by rw[Rat.one_mul,Rat.intCast_add,Rat.intCast_mul]⟩
    ·rw[if_neg e];exact⟨z-a*d,by rw[Rat.intCast_sub,Rat.intCast_mul];grind⟩
  exact key (n+1) (Nat.le_refl _)
theorem K3 {i p:Nat} (h:p≠i):∃p',(∀r,(if r<i then r else r+1)=p↔r=p')/\(∀n,p<n+1->i<n+1->p'<n)/\p'=if p<i then p else p-1:=by
 refine⟨if p<i then p else p-1,λr=> ?_,λn hp hi=> ?_,rfl⟩
 ·split<;>split<;>omega
 ·split<;>omega
theorem rG:∀ {n:Nat} {A B C:Mx} {p:Nat} {t:Rat},p<n->(∀j,C p j=A p j+t*B p j)->(∀i,i≠p->∀j,B i j=A i j/\C i j=A i j)->jX n C=jX n A+t*jX n B
 |n+1,A,B,C,p,t,hp,h1,h2=>by
  rw[kY,kY,kY,<-eu];refine aJ λi hi=> ?_;by_cases e:i=p
  ·subst e;have e1:qX B i=qX A i:=by funext r c;exact(h2 _ (by split<;>omega) _).1
   have e2:qX C i=qX A i:=by funext r c;exact(h2 _ (by split<;>omega) _).2
   rw[h1,e1,e2];grind
  ·obtain⟨p',hp',hlt,_⟩:=K3 (i:=i) (p:=p) (λg=>e g.symm);rw[(h2 i e 0).1,(h2 i e 0).2];rw[rG (A:=qX A i) (B:=qX B i) (C:=qX C i) (p:=p') (t:=t) (hlt n hp hi) ?_ ?_]
   ·grind
   ·intro j;have:=(hp' p').2 rfl;unfold qX;rw[this];exact h1 _
   ·intro r hr j;exact h2 _ (λg=>hr ((hp' r).1 g)) _
theorem uT:∀ {n:Nat} {A:Mx} {p:Nat},p+1<n->(∀j,A p j=A (p+1) j)->jX n A=0
 |n+1,A,p,hp,h=>by
  rw[kY,C0 hp ?_]
  ·have e:qX A (p+1)=qX A p:=by
    funext r c;unfold qX;by_cases h1:r<p
    ·rw[if_pos oO,if_pos h1]
    ·by_cases h3:r=p
     ·subst h3;rw[if_pos oO,if_neg oO];exact h _
     ·rw[if_neg oO,if_neg h1]
   rw[e,GQ,h 0];grind
  ·intro i hi h1 h2;have e:jX n (qX A i)=0:=by
    by_cases g:i<p
    ·refine uT (p:=p-1) oO λj=> ?_;unfold qX;rw[if_neg oO,if_neg oO];have:p-1+1=p:=oO;rw[this];exact h _
    ·refine uT (p:=p) oO λj=> ?_;unfold qX;rw[if_pos oO,if_pos oO];exact h _
   rw[e,Rat.mul_zero]
def jC (A:Mx) (p:Nat) (x:Nat->Rat):Mx:=λi j=>if i=p then x j else A i j
theorem dm (A:Mx) (p:Nat) (x:Nat->Rat) (j:Nat):jC A p x p j=x j:=if_pos rfl
theorem fe (A:Mx) {p i:Nat} (x:Nat->Rat) (h:i≠p) (j:Nat):jC A p x i j=A i j:=if_neg h
def gi (A:Mx) (p q:Nat):Mx:=λi j=>if i=p then A q j else if i=q then A p j else A i j
theorem E8 {n:Nat} {p q:Nat} (hp:p<n) (hq:q<n) (hpq:p≠q) (alt:∀A:Mx,(∀j,A p j=A q j)->jX n A=0) (A:Mx):jX n (gi A p q)= -jX n A:=by
 have D:=λ(x y:Nat->Rat)=>jC (jC A p x) q y;have hl:∀x x' y,jX n (jC (jC A p λj=>x j+1*x' j) q y)=jX n (jC (jC A p x) q y)+1*jX n (jC (jC A p x') q y):=by
  intro x x' y;refine rG hp (λj=> ?_) λi hi j=> ?_
  ·rw[fe _ _ hpq,fe _ _ hpq,fe _ _ hpq,dm,dm,dm]
  ·by_cases g:i=q
   ·subst g;simp only[dm,and_self]
   ·simp only[fe _ _ g,fe _ _ hi,and_self]
 have hr:∀x y y',jX n (jC (jC A p x) q λj=>y j+1*y' j)=jX n (jC (jC A p x) q y)+1*jX n (jC (jC A p x) q y'):=by
  intro x y y';refine rG hq (λj=> ?_) λi hi j=> ?_
  ·rw[dm,dm,dm]
  ·simp only[fe _ _ hi,and_self]
 have ha:∀x,jX n (jC (jC A p x) q x)=0:=λx=>alt _ λj=>by rw[fe _ _ hpq,dm,dm]
 have h0:=ha λj=>A p j+1*A q j;rw[hl,hr,hr,ha,ha]at h0;have e1:jX n (jC (jC A p (A p)) q (A q))=jX n A:=fH λi _ j _=>by
  by_cases g:i=q
  ·subst g;rw[dm]
  ·rw[fe _ _ g];by_cases g':i=p
   ·subst g';rw[dm]
   ·rw[fe _ _ g']
 have e2:jX n (jC (jC A p (A q)) q (A p))=jX n (gi A p q):=fH λi _ j _=>by
  unfold gi;by_cases g:i=q
  ·subst g;rw[dm,if_neg (λe=>hpq e.symm),if_pos rfl]
  ·rw[fe _ _ g];by_cases g':i=p
   ·subst g';rw[dm,if_pos rfl]
   ·rw[fe _ _ g',if_neg g',if_neg g]
 rw[<-e1,<-e2];grind
theorem wF {n p:Nat}:∀(d:Nat) {q:Nat} {A:Mx},q=p+1+d->q<n->(∀j,A p j=A q j)->jX n A=0
 |0,q,A,hq,hn,h=>uT (p:=p) oO λj=>by rw[h j,hq]
 |d+1,q,A,hq,hn,h=>by
  have e:=E8 (n:=n) (p:=q-1) (q:=q) oO hn oO (λB hB=>uT (p:=q-1) oO λj=>by
   have:q-1+1=q:=oO;rw[this];exact hB j) A
  have e0:jX n (gi A (q-1) q)=0:=wF (p:=p) d (q:=q-1) oO oO λj=>by
   show(if p=q-1 then A q j else if p=q then A (q-1) j else A p j)=(if q-1=q-1 then A q j else _);rw[if_neg oO,if_neg oO,if_pos rfl];exact h j
  rw[e0]at e;grind
theorem EX {n p q:Nat} (hp:p<n) (hq:q<n) (hpq:p≠q) {A:Mx} (h:∀j,A p j=A q j):jX n A=0:=by
 rcases Nat.lt_or_gt_of_ne hpq with g|g
 ·exact wF (q-p-1) (p:=p) oO hq h
 ·exact wF (p-q-1) (p:=q) (q:=p) oO hp λj=>(h j).symm
theorem Jz {n p q:Nat} (hp:p<n) (hq:q<n) (hpq:p≠q) (A:Mx):jX n (gi A p q)= -jX n A:=E8 hp hq hpq (λ_ h=>EX hp hq hpq h) A
theorem E7 {n p q:Nat} (hp:p<n) (hq:q<n) (hpq:p≠q) (A:Mx) (t:Rat):jX n (jC A p λj=>A p j+t*A q j)=jX n A:=by
 rw[rG (A:=A) (B:=jC A p (A q)) (p:=p) (t:=t) hp (λj=>by rw[dm,dm]) λi hi j=>⟨fe _ _ hi _,fe _ _ hi _⟩];rw[EX hp hq hpq (A:=jC A p (A q)) λj=>by rw[dm,fe _ _ λe=>hpq e.symm]];grind
theorem zp {n p:Nat} (hp:p<n) (A:Mx) (t:Rat):jX n (jC A p λj=>t*A p j)=t*jX n A:=by
 rw[rG (A:=A) (B:=A) (p:=p) (t:=t-1) hp (λj=>by rw[dm];grind) λi hi j=>⟨rfl,fe _ _ hi _⟩];grind
theorem xQ {n p:Nat} (hp:p<n) {A:Mx} (h:∀j,j<n->A p j=0):jX n A=0:=by
 have e:=zp hp A 0;rw[Rat.zero_mul]at e;rw[<-e];exact fH λi _ j hj=>by
  by_cases g:i=p
  ·subst g;rw[dm,h j hj,Rat.zero_mul]
  ·rw[fe _ _ g]
theorem yQ {n:Nat} {A:Mx} (h:∀i,0<i->i<n+1->A i 0=0):jX (n+1) A=A 0 0*jX n (qX A 0):=by
 rw[kY,fk (p:=0) oO λi hi h0=>by rw[h i oO hi,Rat.mul_zero,Rat.zero_mul]];show(1:Rat)*A 0 0*_=_;rw[Rat.one_mul]
def Dc (i j:Nat):Rat:=if i=j then 1 else 0
theorem xB (r c:Nat):Dc (r+1) (c+1)=Dc r c:=by
 unfold Dc;by_cases g:r=c
 ·rw[if_pos oO,if_pos g]
 ·rw[if_neg oO,if_neg g]
theorem o5 (r:Nat):Dc r r=1:=if_pos rfl
theorem lC {r c:Nat} (h:r≠c):Dc r c=0:=if_neg h
theorem xT (A:Mx) (r c:Nat):qX A 0 r c=A (r+1) (c+1):=by
 unfold qX;rw[if_neg oO]
theorem z7:∀n,jX n Dc=1
 |0=>rfl
 |n+1=>by
  rw[yQ λi h0 _=>if_neg oO];have e:qX Dc 0=Dc:=by
   funext r c;rw[xT,xB]
  rw[e,z7 n,o5];exact Rat.one_mul 1
def qN (i:Nat) (v:Nat->Rat):Mx:=λr c=>if c=i then v r else Dc r c
theorem wk:∀ {n i:Nat} (v:Nat->Rat),i<n->jX n (qN i v)=v i
 |n+1,0,v,_=>by
  rw[kY,fk (p:=0) oO]
  ·have e:qX (qN 0 v) 0=Dc:=by
    funext r c;rw[xT];unfold qN;rw[if_neg oO,xB]
   rw[e,z7];show(1:Rat)*v 0*1=v 0;grind
  ·intro i hi h0;rw[xQ (n:=n) (p:=0) (A:=qX (qN 0 v) i) oO λj _=> ?_,Rat.mul_zero];unfold qX qN;rw[if_neg oO,if_pos oO,lC oO]
 |n+1,i+1,v,hi=>by
  rw[yQ λr h0 _=>by unfold qN;rw[if_neg oO,lC oO]];have e:qX (qN (i+1) v) 0=qN i λr=>v (r+1):=by
   funext r c;rw[xT];unfold qN;by_cases g:c=i
   ·rw[if_pos oO,if_pos g]
   ·rw[if_neg oO,if_neg g,xB]
  have e0:qN (i+1) v 0 0=1:=by
   unfold qN;rw[if_neg oO,o5]
  rw[e,wk _ oO,e0,Rat.one_mul]
def elim (A:Mx) (r:Nat) (a:Rat) (f:Nat->Rat):Mx:=λi j=>if i=r then A r j/a else A i j-f i*(A r j/a)
theorem BN {n r:Nat} (hr:r<n) (A:Mx) {a:Rat} (ha:a≠0) (f:Nat->Rat):jX n A=a*jX n (elim A r a f):=by
 have e1:jX n (jC A r λj=>a⁻¹ *A r j)=a⁻¹ *jX n A:=zp hr A _;have key:∀t,t<=n->jX n (λi j=>if i<t/\i≠r then A i j-f i*(a⁻¹ *A r j)else jC A r (λj=>a⁻¹ *A r j) i j)=a⁻¹ *jX n A:=by
  intro t;induction t with
  |zero=>
   intro _;rw[<-e1];exact fH λi _ j _=>if_neg oO
  |succ t ih=>
   intro ht;rw[<-ih oO];by_cases g:t=r
   ·refine fH λi _ j _=> ?_;by_cases h:i<t
    ·rw[if_pos ⟨oO,oO⟩,if_pos ⟨h,oO⟩]
    ·rw[if_neg oO,if_neg oO]
   ·have:=E7 (n:=n) (p:=t) (q:=r) oO hr g (λi j=>if i<t/\i≠r then A i j-f i*(a⁻¹ *A r j)else jC A r (λj=>a⁻¹ *A r j) i j) (-f t);rw[<-this];refine fH λi _ j _=> ?_;by_cases h:i=t
    ·subst h;rw[dm,if_pos ⟨oO,g⟩,if_neg oO,if_neg (λe=>e.2 rfl),fe _ _ g,dm];grind
    ·rw[fe _ _ h];by_cases h':i<t/\i≠r
     ·rw[if_pos ⟨oO,h'.2⟩,if_pos h']
     ·rw[if_neg oO,if_neg h']
 have e2:jX n (elim A r a f)=a⁻¹ *jX n A:=by
  rw[<-key n (Nat.le_refl _)];refine fH λi hi j _=> ?_;unfold elim;rw[Rat.div_def,Rat.mul_comm];by_cases g:i=r
  ·subst g;rw[if_pos rfl,if_neg (λe=>e.2 rfl),dm]
  ·rw[if_neg g,if_pos ⟨hi,g⟩]
 rw[e2,<-Rat.mul_assoc,Rat.mul_inv_cancel _ ha,Rat.one_mul]
def Hq (A:Mx) (c:Nat):Nat->Nat->Nat
 |0,i=>i
 |k+1,i=>if A i c=0 then Hq A c k (i+1)else i
def pv (A:Mx) (c n r:Nat):Nat:=Hq A c (n-r) r
theorem Cr (A:Mx) (c:Nat):∀k i,i<=Hq A c k i/\Hq A c k i<=i+k/\(∀l,i<=l->l<Hq A c k i->A l c=0)/\(Hq A c k i<i+k->A (Hq A c k i) c≠0)
 |0,i=>⟨Nat.le_refl _,Nat.le_refl _,λl h1 h2=>absurd (Nat.lt_of_le_of_lt h1 h2) (Nat.lt_irrefl _),λh=>absurd h (Nat.lt_irrefl _)⟩
 |k+1,i=>by
  unfold Hq;by_cases h:A i c=0
  ·rw[if_pos h];obtain⟨h1,h2,h3,h4⟩:=Cr A c k (i+1);refine⟨oO,oO,λl g1 g2=> ?_,λg=>h4 oO⟩;by_cases e:l=i
   ·rw[e];exact h
   ·exact h3 l oO g2
  ·rw[if_neg h];exact⟨Nat.le_refl _,oO,λl g1 g2=>absurd (Nat.lt_of_le_of_lt g1 g2) (Nat.lt_irrefl _),λ_=>h⟩
theorem ig (A:Mx) (c:Nat) {n r:Nat} (h:r<=n):r<=pv A c n r/\pv A c n r<=n/\(∀l,r<=l->l<pv A c n r->A l c=0)/\(pv A c n r<n->A (pv A c n r) c≠0):=by
 obtain⟨h1,h2,h3,h4⟩:=Cr A c (n-r) r;exact⟨h1,by unfold pv;omega,h3,λg=>h4 (by unfold pv at g;omega)⟩
theorem Am {A:Mx} {c n r p:Nat} (h:r<=p) (hp:p<=n) (hz:∀l,r<=l->l<p->A l c=0) (hn:p<n->A p c≠0):pv A c n r=p:=by
 obtain⟨h1,h2,h3,h4⟩:=ig A c (n:=n) (r:=r) oO;rcases Nat.lt_trichotomy (pv A c n r) p with g|g|g
 ·exact absurd (hz _ h1 g) (h4 oO)
 ·exact g
 ·exact absurd (h3 _ h g) (hn oO)
theorem HA {A B:Mx} {c n r:Nat} (hr:r<=n) (h:∀i,r<=i->i<n->(A i c=0↔B i c=0)):pv A c n r=pv B c n r:=by
 obtain⟨h1,h2,h3,h4⟩:=ig B c (n:=n) (r:=r) hr;exact Am h1 h2 (λl g1 g2=>(h l g1 oO).2 (h3 l g1 g2)) λg e=>h4 g ((h _ h1 g).1 e)
structure Rd where
 M:Mx
 P:List Nat
 d:Rat
def kT (n c:Nat) (s:Rd):Rd:=
 if pv s.M c n s.P.length<n then
  ⟨elim (gi s.M s.P.length (pv s.M c n s.P.length)) s.P.length (s.M (pv s.M c n s.P.length) c) λi=>gi s.M s.P.length (pv s.M c n s.P.length) i c,s.P++[c],
   (if pv s.M c n s.P.length=s.P.length then s.d else-s.d)*s.M (pv s.M c n s.P.length) c⟩
 else s
def cI (n:Nat) (A:Mx):Nat->Rd
 |0=>⟨A,[],1⟩
 |c+1=>kT n c (cI n A c)
theorem iK (A:Mx) (p q j:Nat):gi A p q p j=A q j:=if_pos rfl
theorem kW (A:Mx) (p q j:Nat):gi A p q q j=A p j:=by
 unfold gi;by_cases h:q=p
 ·rw[if_pos h,h]
 ·rw[if_neg h,if_pos rfl]
theorem nh (A:Mx) {p q i:Nat} (h1:i≠p) (h2:i≠q) (j:Nat):gi A p q i j=A i j:=by unfold gi;rw[if_neg h1,if_neg h2]
theorem yM (A:Mx) (p:Nat):gi A p p=A:=by
 funext i j;unfold gi;by_cases h:i=p
 ·rw[if_pos h,h]
 ·rw[if_neg h,if_neg h]
theorem l9 (A:Mx) (r:Nat) (a:Rat) (f:Nat->Rat) (j:Nat):elim A r a f r j=A r j/a:=if_pos rfl
theorem kb (A:Mx) {r i:Nat} {a:Rat} {f:Nat->Rat} (h:i≠r) (j:Nat):elim A r a f i j=A i j-f i*(A r j/a):=if_neg h
structure G2 (n c:Nat) (s:Rd):Prop where
 len:s.P.length<=n
 inc:s.P.Pairwise (· < ·)
 lt:∀p∈s.P,p<c
 unit:∀l,l<s.P.length->∀i,i<n->s.M i (s.P.getD l 0)=Dc i l
 low:∀i,s.P.length<=i->i<n->∀j,j<c->s.M i j=0
theorem HW {l:List Nat} {x d i:Nat}:(l++[x]).getD i d=if i<l.length then l.getD i d else if i=l.length then x else d:=by
 by_cases h:i<l.length
 ·rw[if_pos h,List.getD_eq_getElem?_getD,List.getElem?_append_left h,List.getD_eq_getElem?_getD]
 ·rw[if_neg h,List.getD_eq_getElem?_getD,List.getElem?_append_right oO];by_cases e:i=l.length
  ·rw[if_pos e,e,Nat.sub_self];rfl
  ·rw[if_neg e,List.getElem?_eq_none (by simp;omega)];rfl
theorem gW {l:List Nat} {i:Nat} (h:i<l.length):l.getD i 0∈l:=by
 rw[List.getD_eq_getElem?_getD,List.getElem?_eq_getElem h];exact List.getElem_mem h
theorem rinv (n:Nat) (A:Mx):∀c,G2 n c (cI n A c)
 |0=>⟨Nat.zero_le _,List.Pairwise.nil,λ_ h=>(by cases h),λl h=>absurd h (Nat.not_lt_zero _),λ_ _ _ j hj=>absurd hj (Nat.not_lt_zero _)⟩
 |c+1=>by
  have I:=rinv n A c;show G2 n (c+1) (kT n c (cI n A c));generalize cI n A c=s at I;obtain⟨hp1,hp2,hp3,hp4⟩:=ig s.M c I.len;unfold kT;by_cases h:pv s.M c n s.P.length<n
  ·rw[if_pos h];generalize pv s.M c n s.P.length=p at*;have ha:=hp4 h;generalize hr:s.P.length=r at*;have hS:∀i,i<n->∀l,l<r->gi s.M r p i (s.P.getD l 0)=Dc i l:=by
    intro i hi l hl;by_cases e1:i=r
    ·rw[e1,iK,I.unit l oO p h,lC oO,lC oO]
    ·by_cases e2:i=p
     ·rw[e2,kW,I.unit l oO r oO,lC oO,lC oO]
     ·rw[nh _ e1 e2,I.unit l oO i hi]
   refine⟨by simp only[List.length_append,List.length_singleton];omega,?_,?_,?_,?_⟩
   ·exact List.pairwise_append.2 ⟨I.inc,List.pairwise_singleton _ _,λa ha b hb=>by rw[List.mem_singleton.1 hb];exact I.lt a ha⟩
   ·intro q hq;rcases List.mem_append.1 hq with g|g
    ·have:=I.lt q g;omega
    ·rw[List.mem_singleton.1 g];omega
   ·intro l hl i hi;simp only[List.length_append,List.length_singleton,hr]at hl;dsimp only;rw[HW,hr];by_cases g:l<r
    ·rw[if_pos g];by_cases e:i=r
     ·rw[e,l9,hS r oO l g,lC oO,Rat.div_def,Rat.zero_mul]
     ·rw[kb _ e,hS i hi l g,hS r oO l g,lC (r:=r) oO,Rat.div_def];grind
    ·rw[if_neg g,if_pos oO];obtain rfl:l=r:=oO;by_cases e:i=l
     ·rw[e,l9,iK,o5,Rat.div_def,Rat.mul_inv_cancel _ ha]
     ·rw[kb _ e,iK,Rat.div_def,Rat.mul_inv_cancel _ ha,lC e];grind
   ·intro i hi1 hi j hj;simp only[List.length_append,List.length_singleton,hr]at hi1;dsimp only;rw[kb _ oO,iK];by_cases g:j=c
    ·subst g;rw[Rat.div_def,Rat.mul_inv_cancel _ ha];grind
    ·have e1:s.M p j=0:=I.low p oO h j oO;have e2:gi s.M r p i j=0:=by
      by_cases e2:i=p
      ·rw[e2,kW];exact I.low r oO oO j oO
      ·rw[nh _ oO e2];exact I.low i oO hi j oO
     rw[e1,e2,Rat.div_def];grind
  ·rw[if_neg h];refine⟨I.len,I.inc,λq hq=>by have:=I.lt q hq;omega,I.unit,λi hi1 hi j hj=> ?_⟩;by_cases g:j=c
   ·subst g;exact hp3 i hi1 oO
   ·exact I.low i hi1 hi j oO
theorem qE (n:Nat) (A:Mx) (c:Nat):∀k,(cI n A c).P.length<=(cI n A (c+k)).P.length/\(cI n A (c+k)).P.length<=(cI n A c).P.length+k
 |0=>⟨Nat.le_refl _,Nat.le_refl _⟩
 |k+1=>by
  obtain⟨h1,h2⟩:=qE n A c k;show _<=(kT n (c+k) (cI n A (c+k))).P.length/\(kT n (c+k) (cI n A (c+k))).P.length<=_;generalize cI n A (c+k)=s at*;unfold kT;split
  ·simp only[List.length_append,List.length_singleton];omega
  ·omega
theorem sU (n:Nat) (A:Mx) (c:Nat):(cI n A c).P.length<=c:=by
 have:=(qE n A 0 c).2;rw[Nat.zero_add]at this;exact Nat.le_trans this (by show [].length+c<=c;simp)
theorem vO {n:Nat} {A:Mx} {c:Nat} (h:n<=(cI n A c).P.length):∀k,cI n A (c+k)=cI n A c
 |0=>rfl
 |k+1=>by
  show kT n (c+k) (cI n A (c+k))=_;rw[vO h k];unfold kT;rw[if_neg];have:=(ig (cI n A c).M (c+k) (rinv n A c).len).1;omega
def dS (A:Mx) (x:Nat->Rat) (m i:Nat):Rat:=ay (λj=>A i j*x j) m
def CB (n m:Nat) (A:Mx) (x:Nat->Rat):Prop:=∀i,i<n->dS A x m i=0
theorem jg (f:Nat->Rat) (t:Rat) (n:Nat):ay (λi=>t*f i) n=t*ay f n:=by
 have:=eu (λ_=>0) f t n;rw[cj (f:=λ_=>0) λ_ _=>rfl,Rat.zero_add]at this;rw[<-this];exact aJ λi _=>(Rat.zero_add _).symm
theorem u4 (A:Mx) (x:Nat->Rat) (m p q i:Nat):dS (gi A p q) x m i=if i=p then dS A x m q else if i=q then dS A x m p else dS A x m i:=by
 unfold dS;by_cases h1:i=p
 ·rw[if_pos h1,h1];exact aJ λj _=>by rw[iK]
 ·rw[if_neg h1];by_cases h2:i=q
  ·rw[if_pos h2,h2];exact aJ λj _=>by rw[kW]
  ·rw[if_neg h2];exact aJ λj _=>by rw[nh _ h1 h2]
theorem MR {n m p q:Nat} (hp:p<n) (hq:q<n) (A:Mx) (x:Nat->Rat):CB n m (gi A p q) x↔CB n m A x:=by
 constructor
 ·intro h i hi;by_cases h1:i=p
  ·have:=h q hq;rw[u4]at this;by_cases h2:q=p
   ·rw[if_pos h2]at this;rw[h1,<-h2];exact this
   ·rw[if_neg h2,if_pos rfl]at this;rw[h1];exact this
  ·by_cases h2:i=q
   ·have:=h p hp;rw[u4,if_pos rfl]at this;rw[h2];exact this
   ·have:=h i hi;rw[u4,if_neg h1,if_neg h2]at this;exact this
 ·intro h i hi;rw[u4];split
  ·exact h q hq
  ·split
   ·exact h p hp
   ·exact h i hi
theorem wX (A:Mx) (x:Nat->Rat) (m r i:Nat) (a:Rat) (f:Nat->Rat):dS (elim A r a f) x m i=if i=r then a⁻¹ *dS A x m r else dS A x m i+(-(f i*a⁻¹))*dS A x m r:=by
 unfold dS;by_cases h:i=r
 ·rw[if_pos h,h,<-jg];refine aJ λj _=> ?_;unfold elim;rw[if_pos rfl,Rat.div_def];grind
 ·rw[if_neg h,<-eu];refine aJ λj _=> ?_;unfold elim;rw[if_neg h,Rat.div_def];grind
theorem Kw {n m r:Nat} (hr:r<n) (A:Mx) (x:Nat->Rat) {a:Rat} (ha:a≠0) (f:Nat->Rat):CB n m (elim A r a f) x↔CB n m A x:=by
 constructor
 ·intro h;have h0:dS A x m r=0:=by
   have:=h r hr;rw[wX,if_pos rfl]at this;rcases Rat.mul_eq_zero.1 this with g|g
   ·exact absurd (by have:=Rat.mul_inv_cancel a ha;rw[g,Rat.mul_zero]at this;exact absurd this dD) ha
   ·exact g
  intro i hi;by_cases e:i=r
  ·rw[e];exact h0
  ·have:=h i hi;rw[wX,if_neg e,h0,Rat.mul_zero,Rat.add_zero]at this;exact this
 ·intro h i hi;rw[wX,h r hr,h i hi];split<;>grind
theorem uB (n m:Nat) (A:Mx) (x:Nat->Rat):∀c,CB n m (cI n A c).M x↔CB n m A x
 |0=>Iff.rfl
 |c+1=>by
  rw[<-uB n m A x c];show CB n m (kT n c (cI n A c)).M x↔_;have hl:=(rinv n A c).len;generalize cI n A c=s at*;obtain⟨h1,h2,h3,h4⟩:=ig s.M c hl;unfold kT;split
  ·next h=>rw[Kw oO _ _ (h4 h),MR oO h]
  ·exact Iff.rfl
theorem FB (n:Nat) (A:Mx):∀c,jX n A=(cI n A c).d*jX n (cI n A c).M
 |0=>(Rat.one_mul _).symm
 |c+1=>by
  rw[FB n A c];show _=(kT n c (cI n A c)).d*jX n (kT n c (cI n A c)).M;have hl:=(rinv n A c).len;generalize cI n A c=s at*;obtain⟨h1,h2,h3,h4⟩:=ig s.M c hl;unfold kT;split
  ·next h=>
   show _=((if pv s.M c n s.P.length=s.P.length then s.d else-s.d)*s.M (pv s.M c n s.P.length) c)*jX n (elim _ _ _ _);rw[Rat.mul_assoc,<-BN oO _ (h4 h)];split
   ·next e=>rw[e,yM]
   ·next e=>rw[Jz oO h (λg=>e g.symm)];grind
  ·rfl
theorem y6:∀ {P:List Nat} {a n:Nat},P.Pairwise (· < ·)->(∀p∈P,a<=p/\p<a+n)->P.length=n->P=List.range' a n
 | [],a,n,_,_,h=>by rw[<-h];rfl
 |q::P,a,n,hi,hm,hl=>by
  obtain⟨n,rfl⟩:∃k,n=k+1:=⟨P.length,by rw[<-hl];rfl⟩;rw[List.length_cons]at hl;obtain⟨h1,h2⟩:=List.pairwise_cons.1 hi;have hq:=hm q (List.mem_cons_self ..);have key:∀ {P:List Nat} {b:Nat},P.Pairwise (· < ·)->(∀p∈P,b<=p/\p<a+(n+1))->P.length+b<=a+(n+1)\/P=[]:=by
   intro P;induction P with
   |nil=>exact λ_ _=> .inr rfl
   |cons x P ih=>
    intro b g1 g2;obtain⟨g3,g4⟩:=List.pairwise_cons.1 g1;have gx:=g2 x (List.mem_cons_self ..);rcases ih (b:=x+1) g4 (λp hp=>⟨g3 p hp,(g2 p (List.mem_cons_of_mem _ hp)).2⟩)with h|h
    ·left;rw[List.length_cons];omega
    ·left;rw[h];simp only[List.length_cons,List.length_nil];omega
  have hk:=key (b:=q+1) h2 λp hp=>⟨h1 p hp,(hm p (List.mem_cons_of_mem _ hp)).2⟩;have hqa:q=a:=by
   rcases hk with g|g
   ·omega
   ·have:n=0:=by rw[g]at hl;simpa using hl.symm
    omega
  subst hqa;rw[List.range'_succ,y6 (a:=q+1) (n:=n) h2 (λp hp=>⟨h1 p hp,by have:=(hm p (List.mem_cons_of_mem _ hp)).2;omega⟩) oO]
theorem xu {n c:Nat} {s:Rd} (I:G2 n c s) (h:s.P.length=c):s.P=List.range c:=by
 rw[List.range_eq_range'];exact y6 I.inc (λp hp=>⟨Nat.zero_le _,by have:=I.lt p hp;omega⟩) h
theorem tg {n c:Nat} {s:Rd} (I:G2 n c s) (h:s.P.length=c) {l i:Nat} (hl:l<c) (hi:i<n):s.M i l=Dc i l:=by
 have:=I.unit l oO i hi;rwa[xu I h,List.getD_eq_getElem?_getD,List.getElem?_range hl,Option.getD_some]at this
def NY (n:Nat) (A:Mx):Rat:=if(cI n A n).P.length=n then(cI n A n).d else 0
theorem Lw (n:Nat) (A:Mx):NY n A=jX n A:=by
 have I:=rinv n A n;have hl:=sU n A n;rw[FB n A n];unfold NY;generalize cI n A n=s at*;by_cases h:s.P.length=n
 ·rw[if_pos h,fH (B:=Dc) λi hi j hj=>tg I h hj hi,z7,Rat.mul_one]
 ·rw[if_neg h,xQ (p:=n-1) oO λj hj=>I.low (n-1) oO oO j hj,Rat.mul_zero]
def kv (P:List Nat) (M:Mx) (f j:Nat):Rat:=if j=f then 1 else if j∈P then-M (P.idxOf j) f else 0
theorem qd {P:List Nat} (h:P.Pairwise (· < ·)):P.Nodup:=h.imp λg=>Nat.ne_of_lt g
theorem IG {P:List Nat} {M:Mx} {f l:Nat} (hi:P.Pairwise (· < ·)) (hf:f∉P) (hl:l<P.length):kv P M f (P.getD l 0)= -M l f:=by
 have hm:=gW hl;unfold kv;rw[if_neg (λe=>hf (by rw[<-e];exact hm)),if_pos hm];congr 2;rw[List.getD_eq_getElem?_getD,List.getElem?_eq_getElem hl,Option.getD_some];exact(qd hi).idxOf_getElem l hl
theorem getD_inj {P:List Nat} (hi:P.Pairwise (· < ·)) {l k:Nat} (hl:l<P.length) (hk:k<P.length) (h:P.getD l 0=P.getD k 0):l=k:=by
 rw[List.getD_eq_getElem?_getD,List.getD_eq_getElem?_getD,List.getElem?_eq_getElem hl,List.getElem?_eq_getElem hk,Option.getD_some,Option.getD_some]at h;exact(List.getElem_inj (qd hi)).1 h
theorem vW {P:List Nat} {j:Nat} (h:j∈P):∃l,l<P.length/\P.getD l 0=j:=by
 obtain⟨l,hl,e⟩:=List.getElem_of_mem h;exact⟨l,hl,by rw[List.getD_eq_getElem?_getD,List.getElem?_eq_getElem hl];exact e⟩
theorem Pb {P:List Nat} {M:Mx} {f m:Nat} (hi:P.Pairwise (· < ·)) (hf:f∉P) (hm:∀p∈P,p<m) (hfm:f<m) (A:Mx) (i:Nat) (hu:∀l,l<P.length->A i (P.getD l 0)=Dc i l):
  dS A (kv P M f) m i=if i<P.length then A i f-M i f else A i f:=by
 have e:dS A (kv P M f) m i=ay (λj=>(if j=f then A i f else 0)+1*(if i<P.length/\j=P.getD i 0 then-M i f else 0)) m:=by
  refine aJ λj hj=> ?_;by_cases h1:j=f
  ·rw[if_pos h1,if_neg (λg=>hf (by rw[<-h1,g.2];exact gW g.1)),h1];unfold kv;rw[if_pos rfl];grind
  ·rw[if_neg h1];by_cases h2:j∈P
   ·obtain⟨l,hl,rfl⟩:=vW h2;rw[IG hi hf hl,hu l hl];by_cases h3:i=l
    ·rw[if_pos ⟨oO,by rw[h3]⟩,h3,o5];grind
    ·rw[if_neg (λg=>h3 (getD_inj hi g.1 hl g.2.symm)),lC h3];grind
   ·rw[if_neg (λg=>h2 (by rw[g.2];exact gW g.1))];unfold kv;rw[if_neg h1,if_neg h2];grind
 rw[e,eu,fk (p:=f) hfm λj _ h=>if_neg h,if_pos rfl];by_cases h:i<P.length
 ·rw[if_pos h,fk (p:=P.getD i 0) (hm _ (gW h)) λj _ g=>if_neg λq=>g q.2,if_pos ⟨h,rfl⟩];grind
 ·rw[if_neg h,cj λj _=>if_neg λq=>h q.1];grind
theorem DH {n m:Nat} {s:Rd} (I:G2 n m s) {f:Nat} (hf:f∉s.P) (hfm:f<m):CB n m s.M (kv s.P s.M f):=by
 intro i hi;rw[Pb I.inc hf I.lt hfm s.M i λl hl=>I.unit l hl i hi];split
 ·grind
 ·exact I.low i oO hi f hfm
theorem Hk {n m:Nat} {A:Mx} {x y:Nat->Rat} (h:∀j,j<m->x j=y j):CB n m A x↔CB n m A y:=by
 have:∀i,dS A x m i=dS A y m i:=λi=>aJ λj hj=>by rw[h j hj]
 unfold CB;constructor
 ·intro g i hi;rw[<-this];exact g i hi
 ·intro g i hi;rw[this];exact g i hi
theorem NK (n c:Nat) (A:Mx):(cI n A (c+1)).P=if pv (cI n A c).M c n (cI n A c).P.length<n then(cI n A c).P++[c]else(cI n A c).P:=by
 show(kT n c (cI n A c)).P=_;unfold kT;split<;>rfl
theorem un {α:Type} (q:α->Bool):∀l:List α,(l.filter q).length+(l.filter λa=> !q a).length=l.length
 | []=>rfl
 |a::l=>by
  have:=un q l;rw[List.filter_cons,List.filter_cons];cases q a<;>simp only[Bool.false_eq_true,if_false,if_true,Bool.not_true,Bool.not_false,List.length_cons]<;>omega
theorem xI {P:List Nat} {m:Nat} (hi:P.Pairwise (· < ·)) (hm:∀p∈P,p<m):((List.range m).filter λf=> !decide (f∈P)).length+P.length=m:=by
 have hp:((List.range m).filter λf=>decide (f∈P)).Perm P:=by
  refine(List.perm_ext_iff_of_nodup (List.nodup_range.filter _) (qd hi)).2 λa=> ?_;rw[List.mem_filter,List.mem_range,decide_eq_true_eq];exact⟨λh=>h.2,λh=>⟨hm a h,h⟩⟩
 have h1:=hp.length_eq;have h2:=un (λf=>decide (f∈P)) (List.range m);rw[List.length_range]at h2;omega
theorem po {n k:Nat} {A:Mx} (h:(cI n A (k+1)).P.length=k+1):(cI n A k).P.length=k/\pv (cI n A k).M k n k<n:=by
 have h1:=(qE n A k 1).2;have h2:=sU n A k;have e:(cI n A k).P.length=k:=oO;refine⟨e,?_⟩;rw[NK,e]at h;by_cases g:pv (cI n A k).M k n k<n
 ·exact g
 ·rw[if_neg g,e]at h;omega
theorem pu {n k:Nat} {A:Mx} (h:(cI n A k).P.length=k) (hp:pv (cI n A k).M k n k<n):(cI n A (k+1)).P.length=k+1/\(cI n A (k+1)).M=elim (gi (cI n A k).M k (pv (cI n A k).M k n k)) k ((cI n A k).M (pv (cI n A k).M k n k) k) λi=>gi (cI n A k).M k (pv (cI n A k).M k n k) i k:=by
 refine⟨by rw[NK,h,if_pos hp];simp[h],?_⟩;show(kT n k (cI n A k)).M=_;unfold kT;rw[h,if_pos hp]
def dd (n:Nat) (B:Mx):Nat->Rat
 |0=>1
 |k+1=>dd n B k*(cI n B k).M (pv (cI n B k).M k n k) k
def oa (B:Mx):Prop:=∀i j,∃z:Int,B i j=z
def NC (n:Nat) (B:Mx) (k:Nat) (B':Mx):Prop:=oa B'/\∀(K:Nat) (s σ:Nat->Nat),k<=K->(∀a,a<k->s a=a)->(∀a,k<=a->a<K->k<=s a/\s a<n)->
 jX K (λa b=>B' (s a) (σ b))=dd n B k*jX K λa b=>(cI n B k).M (s a) (σ b)
theorem H6 {n:Nat} {B:Mx} (hB:oa B):∀k,(cI n B k).P.length=k->∃B',NC n B k B'
 |0,_=>⟨B,hB,λK s σ _ _ _=>(Rat.one_mul _).symm⟩
 |k+1,h=>by
  obtain⟨hk,hp⟩:=po h;obtain⟨B',hB',hI⟩:=H6 hB k hk;obtain⟨_,eM⟩:=pu hk hp;have hlen:=(rinv n B k).len;obtain⟨h1,_,_,h4⟩:=ig (cI n B k).M k (n:=n) (r:=k) oO;have ha:=h4 hp;unfold NC;rw[eM];show∃B',oa B'/\∀(K:Nat) (s σ:Nat->Nat),k+1<=K->(∀a,a<k+1->s a=a)->(∀a,k+1<=a->a<K->k+1<=s a/\s a<n)->jX K (λa b=>B' (s a) (σ b))=(dd n B k*(cI n B k).M (pv (cI n B k).M k n k) k)*_;generalize pv (cI n B k).M k n k=p at*;generalize (cI n B k).M=N at*;refine⟨gi B' k p,λi j=> ?_,λK s σ hK hs1 hs2=> ?_⟩
  ·unfold gi;split
   ·exact hB' _ _
   ·split
    ·exact hB' _ _
    ·exact hB' _ _
  ·have hsw:∀X:Mx,(λa b=>gi X k p (s a) (σ b))=λa b=>X (if s a=k then p else if s a=p then k else s a) (σ b):=by
    intro X;funext a b;unfold gi;split
    ·rfl
    ·split<;>rfl
   have e:=hI K (λa=>if s a=k then p else if s a=p then k else s a) σ oO (λa ha=>by
    have:=hs1 a oO;show(if s a=k then p else if s a=p then k else s a)=a;rw[this,if_neg oO,if_neg oO]) λa h1' h2'=>by
     show k<=(if s a=k then p else if s a=p then k else s a)/\(if s a=k then p else if s a=p then k else s a)<n;by_cases g:a=k
     ·rw[hs1 a oO,if_pos g];omega
     ·have:=hs2 a oO h2';rw[if_neg oO];split<;>omega
   rw[hsw B',e,Rat.mul_assoc];congr 1;rw[<-hsw N];have hsk:=hs1 k oO;have ed:=BN (n:=K) (r:=k) oO (λa b=>gi N k p (s a) (σ b)) ha λa=>gi N k p (s a) k;rw[ed];congr 1;refine fH λa ha' b _=> ?_;by_cases g:a=k
   ·rw[g,l9,hsk,l9]
   ·have hne:s a≠k:=by
     by_cases g2:a<k
     ·rw[hs1 a oO];exact g
     ·have:=hs2 a oO ha';omega
    rw[kb _ g,kb _ hne,hsk]
theorem Pi {n:Nat} {B:Mx} (hB:oa B) {k:Nat} (hk:(cI n B k).P.length=k) {i:Nat} (hi:i<n) (j:Nat):∃z:Int,dd n B k*(cI n B k).M i j=z:=by
 obtain⟨B',hB',hI⟩:=H6 hB k hk;have I:=rinv n B k;have hlen:=I.len;have hu:∀ {l i:Nat},l<k->i<n->(cI n B k).M i l=Dc i l:=λhl hi=>tg I hk hl hi;by_cases g:i<k
 ·have e:=hI k (λa=>a) (λb=>if b=i then j else b) (Nat.le_refl _) (λa _=>rfl) λa h1 h2=>absurd h2 oO;rw[fH (A:=λa b=>(cI n B k).M a (if b=i then j else b)) (B:=qN i λa=>(cI n B k).M a j) λa ha b hb=> ?_,wk _ g]at e
  ·rw[<-e];exact AD λa _ b _=>hB' _ _
  ·unfold qN;by_cases h:b=i
   ·rw[if_pos h,if_pos h]
   ·rw[if_neg h,if_neg h];exact hu hb oO
 ·have e:=hI (k+1) (λa=>if a<k then a else i) (λb=>if b<k then b else j) oO (λa ha=>if_pos ha) λa h1 h2=>by
   show k<=(if a<k then a else i)/\(if a<k then a else i)<n;rw[if_neg oO];omega
  rw[fH (A:=λa b=>(cI n B k).M (if a<k then a else i) (if b<k then b else j)) (B:=qN k λa=>(cI n B k).M (if a<k then a else i) j) λa ha b hb=> ?_,wk _ oO,if_neg (Nat.lt_irrefl _)]at e
  ·rw[<-e];exact AD λa _ b _=>hB' _ _
  ·unfold qN;by_cases h:b=k
   ·rw[if_neg (show¬b<k by omega),if_pos h]
   ·rw[if_pos (show b<k by omega),if_neg h];by_cases h2:a<k
    ·rw[if_pos h2];exact hu oO oO
    ·rw[if_neg h2,hu oO hi,lC oO,lC oO]
theorem Br {n:Nat} {B:Mx}:∀k,(cI n B k).P.length=k->dd n B k≠0
 |0,_=>by show(1:Rat)≠0;decide
 |k+1,h=>by
  obtain⟨hk,hp⟩:=po h;have hlen:=(rinv n B k).len;intro e;rcases Rat.mul_eq_zero.1 e with g|g
  ·exact Br k hk g
  ·exact(ig (cI n B k).M k (n:=n) (r:=k) oO).2.2.2 hp g
def D9 (W:Nat->Nat->Int) (p q:Nat):Nat->Nat->Int:=λi j=>if i=p then W q j else if i=q then W p j else W i j
def zj (W:Nat->Nat->Int) (k:Nat) (last:Int):Nat->Nat->Int:=λi j=>if i=k then W k j else if j=k then 0 else(W k k*W i j-W i k*W k j).tdiv last
def BH (n m:Nat) (B:Mx) (k:Nat) (W:Nat->Nat->Int):Prop:=∀i,i<n->∀j,j<m->((W i j:Int):Rat)=dd n B k*(cI n B k).M i j
theorem Hx {n m k:Nat} {B:Mx} {W:Nat->Nat->Int} (h:BH n m B k W) (hk:(cI n B k).P.length=k) {i j:Nat} (hi:i<n) (hj:j<m):W i j=0↔(cI n B k).M i j=0:=by
 have e:=h i hi j hj;constructor
 ·intro g;rw[g]at e;rcases Rat.mul_eq_zero.1 e.symm with q|q
  ·exact absurd q (Br k hk)
  ·exact q
 ·intro g;rw[g,Rat.mul_zero]at e;exact Rat.intCast_inj.1 e
theorem HZ {n m k:Nat} {B:Mx} {W:Nat->Nat->Int} (hB:oa B) (h:BH n m B k W) (hk:(cI n B k).P.length=k) (hkm:k<m) (hp:pv (cI n B k).M k n k<n) {last:Int} (hl:((last:Int):Rat)=dd n B k):
  BH n m B (k+1) (zj (D9 W k (pv (cI n B k).M k n k)) k last)/\((zj (D9 W k (pv (cI n B k).M k n k)) k last k k:Int):Rat)=dd n B (k+1):=by
 obtain⟨hk1,eM⟩:=pu hk hp;have hlen:=(rinv n B k).len;obtain⟨h1,_,_,h4⟩:=ig (cI n B k).M k (n:=n) (r:=k) oO;have ha:=h4 hp;have hd:dd n B (k+1)=dd n B k*(cI n B k).M (pv (cI n B k).M k n k) k:=rfl;have hd0:=Br k hk;have hex:=λi (hi:i<n) j=>Pi hB hk1 hi j;have hW:∀i,i<n->∀j,j<m->((D9 W k (pv (cI n B k).M k n k) i j:Int):Rat)=dd n B k*gi (cI n B k).M k (pv (cI n B k).M k n k) i j:=by
  intro i hi j hj;unfold D9 gi;split
  ·exact h _ hp j hj
  ·split
   ·exact h _ oO j hj
   ·exact h _ hi j hj
 unfold BH;rw[eM]at hex⊢;rw[hd]at hex⊢;generalize hpp:pv (cI n B k).M k n k=p at*;generalize (cI n B k).M=N at*;generalize D9 W k p=V at*;generalize dd n B k=D at*;have hkk:((V k k:Int):Rat)=D*N p k:=by rw[hW k oO k hkm,iK]
 refine⟨λi hi j hj=> ?_,by unfold zj;rw[if_pos rfl];exact hkk⟩;unfold zj;by_cases g:i=k
 ·rw[if_pos g,g,hW k oO j hj,l9];rw[Rat.div_def];have:=Rat.mul_inv_cancel _ ha;grind
 ·rw[if_neg g];by_cases g2:j=k
  ·rw[if_pos g2,g2,kb _ g,iK,Rat.div_def,Rat.mul_inv_cancel _ ha];show((0:Int):Rat)=_;grind
  ·rw[if_neg g2];obtain⟨z,hz⟩:=hex i hi j;have e:V k k*V i j-V i k*V k j=last*z:=by
    refine Rat.intCast_inj.1 ?_;rw[Rat.intCast_sub,Rat.intCast_mul,Rat.intCast_mul,Rat.intCast_mul,hkk,hW i hi j hj,hW i hi k hkm,hW k oO j hj,hl,<-hz,kb _ g,iK,Rat.div_def];have:=Rat.mul_inv_cancel _ ha;grind
   have hl0:last≠0:=λq=>hd0 (by rw[<-hl,q];rfl);rw[e,Int.mul_tdiv_cancel_left _ hl0,<-hz]
theorem oe {n:Nat} {A B:Mx} {c:Nat->Rat} (hc:∀i,i<n->c i≠0) (hB:∀i,i<n->∀j,B i j=c i*A i j):∀k,(cI n A k).P.length=k->
  (cI n B k).P.length=k/\∃c':Nat->Rat,(∀i,i<n->c' i≠0)/\∀i,i<n->∀j,(cI n B k).M i j=(if i<k then 1 else c' i)*(cI n A k).M i j
 |0,_=>⟨rfl,c,hc,λi hi j=>by rw[if_neg (Nat.not_lt_zero _)];exact hB i hi j⟩
 |k+1,h=>by
  obtain⟨hk,hp⟩:=po h;obtain⟨hkB,c',hc',hM⟩:=oe hc hB k hk;obtain⟨hk1,eA⟩:=pu hk hp;have hlen:=(rinv n A k).len;have ep:pv (cI n B k).M k n k=pv (cI n A k).M k n k:=HA oO λi h1 h2=>by
   rw[hM i h2,if_neg oO];constructor
   ·intro g;rcases Rat.mul_eq_zero.1 g with q|q
    ·exact absurd q (hc' i h2)
    ·exact q
   ·intro g;rw[g,Rat.mul_zero]
  obtain⟨hk2,eB⟩:=pu hkB (by rw[ep];exact hp);refine⟨hk2,?_⟩;rw[eA,eB,ep];obtain⟨h1,_,_,h4⟩:=ig (cI n A k).M k (n:=n) (r:=k) oO;have ha:=h4 hp;generalize pv (cI n A k).M k n k=p at*;generalize (cI n A k).M=M at*;generalize (cI n B k).M=N at*;have hcp:=hc' p hp;have hr:∀j,N p j/N p k=M p j/M p k:=by
   intro j;rw[hM p hp j,hM p hp k,if_neg oO,Rat.div_def,Rat.div_def];have e1:=Rat.mul_inv_cancel _ ha;have e2:=Rat.mul_inv_cancel _ hcp;have e3:(c' p*M p k)⁻¹ =(c' p)⁻¹ *(M p k)⁻¹ :=by
    have h0:c' p*M p k≠0:=λq=>by
     rcases Rat.mul_eq_zero.1 q with w|w
     ·exact hcp w
     ·exact ha w
    have e4:=Rat.mul_inv_cancel _ h0;grind
   rw[e3];grind
  refine⟨λi=>if i=p then c' k else c' i,λi hi=> ?_,λi hi j=> ?_⟩
  ·show(if i=p then c' k else c' i)≠0;split
   ·exact hc' k oO
   ·exact hc' i hi
  ·by_cases g:i=k
   ·rw[g,l9,l9,iK,iK,hr,if_pos oO,Rat.one_mul]
   ·rw[kb _ g,kb _ g,iK,iK,hr];by_cases g2:i=p
    ·have f1:gi N k p p j=c' k*M k j:=by rw[kW,hM k oO,if_neg oO]
     have f2:gi N k p p k=c' k*M k k:=by rw[kW,hM k oO,if_neg oO]
     have f3:gi M k p p j=M k j:=by rw[kW]
     have f4:gi M k p p k=M k k:=by rw[kW]
     dsimp only;rw[g2,f1,f2,f3,f4,if_neg oO,if_pos rfl];grind
    ·have f1:=hM i hi j;have f2:=hM i hi k;rw[nh N g g2,nh M g g2];dsimp only;have q1:gi N k p i k=N i k:=nh _ g g2 _;have q2:gi M k p i k=M i k:=nh _ g g2 _;rw[q1,q2];by_cases g3:i<k
     ·rw[if_pos g3]at f1 f2;rw[f1,f2,if_pos oO];grind
     ·rw[if_neg g3]at f1 f2;rw[f1,f2,if_neg oO,if_neg g2];grind
open Go Go.RowKit Go.Proofs.YtoeiejliehgopaaGreatDoor
structure Rw (α:Type)where
 b:Nat
 cap:Nat
 X:List α
 sp:List Value
def gn {α:Type}:Rw α:=⟨0,0,[],[]⟩
def Rw.v {α:Type} (r:Rw α):Value:= .slice (some ⟨r.b,0,none⟩) r.X.length r.cap
def Rw.qj {α:Type} (enc:α->List Value) (t:TypeId) (r:Rw α):bQ:=(r.b,t,r.X.flatMap enc++r.sp)
def Rw.put {α:Type} (r:Rw α) (j:Nat) (u:α):Rw α:=⟨r.b,r.cap,r.X.set j u,r.sp⟩
def mB {α:Type} (enc:α->List Value) (t tS:TypeId) (bo:Nat) (R:List (Rw α)) (H:List bQ):List bQ:=(bo,tS,R.map Rw.v)::(R.map (Rw.qj enc t)++H)
theorem ff {α:Type} (l:List α) (d:α) {i:Nat} (h:i<l.length):l.getD i d=l[i]:=by
 rw[List.getD_eq_getElem?_getD,List.getElem?_eq_getElem h];rfl
theorem eZ {α:Type} (l:List α) (d u:α) {i j:Nat} (hi:i<l.length):(l.set i u).getD j d=if j=i then u else l.getD j d:=by
 rw[List.getD_eq_getElem?_getD,List.getElem?_set,List.getD_eq_getElem?_getD];by_cases h:j=i
 ·subst h;simp[hi]
 ·rw[if_neg (λe=>h e.symm),if_neg h]
theorem Ku {α:Type} {enc:α->List Value} {t tS:TypeId} {bo:Nat} {R:List (Rw α)} {H:List bQ} {i:Nat} (hi:i<R.length):(mB enc t tS bo R H)[i+1]?=some ((R.getD i gn).b,t,(R.getD i gn).X.flatMap enc++(R.getD i gn).sp):=by
 unfold mB;rw[List.getElem?_cons_succ,List.getElem?_append_left (by rw[List.length_map];exact hi),List.getElem?_map,List.getElem?_eq_getElem hi,ff R gn hi];rfl
theorem xX {α:Type} {R:List (Rw α)} {i:Nat} (hi:i<R.length):(R.map Rw.v)[i]?=some (R.getD i gn).v:=by
 rw[List.getElem?_map,List.getElem?_eq_getElem hi,ff R gn hi];rfl
theorem PO {α:Type} (r:Rw α) (j:Nat) (u:α):(r.put j u).v=r.v:=by
 unfold Rw.v Rw.put;rw[List.length_set]
theorem Hi {α:Type} (R:List (Rw α)) {i:Nat} (j:Nat) (u:α) (hi:i<R.length):(R.set i ((R.getD i gn).put j u)).map Rw.v=R.map Rw.v:=by
 rw[List.map_set,PO,ff R gn hi];refine List.ext_getElem (by simp) λk h1 h2=> ?_;rw[List.getElem_set];split
 ·next h=>subst h;rw[List.getElem_map]
 ·rfl
theorem Pn {α:Type} {enc:α->List Value} {t tS:TypeId} {bo:Nat} {R:List (Rw α)} {H:List bQ} {i:Nat} (j:Nat) (u:α) (hi:i<R.length):
  (mB enc t tS bo R H).set (i+1) ((R.getD i gn).b,t,((R.getD i gn).X.set j u).flatMap enc++(R.getD i gn).sp)=mB enc t tS bo (R.set i ((R.getD i gn).put j u)) H:=by
 unfold mB;rw[Hi R j u hi,List.set_cons_succ,List.set_append_left _ _ (by rw[List.length_map];exact hi),List.map_set];rfl
def wN {α:Type} (R:List (Rw α)) (i j:Nat):List (Rw α):=(R.set i (R.getD j gn)).set j (R.getD i gn)
theorem Iy {α:Type} (R:List (Rw α)) (i j:Nat):(wN R i j).length=R.length:=by unfold wN;rw[List.length_set,List.length_set]
theorem Cf {α:Type} (R:List (Rw α)) {i j:Nat} (hi:i<R.length) (hj:j<R.length) (k:Nat):(wN R i j).getD k gn=if k=j then R.getD i gn else if k=i then R.getD j gn else R.getD k gn:=by
 unfold wN;rw[eZ _ _ _ (by rw[List.length_set];exact hj),eZ _ _ _ hi]
structure dA {α:Type} (R:List (Rw α)) (n m:Nat) (f:Nat->Nat->α):Prop where
 len:R.length=n
 row:∀i,i<n->(R.getD i gn).X=aS m (f i)
 cap:∀i,i<n->m<=(R.getD i gn).cap/\(R.getD i gn).cap<=9223372036854775807
section
variable {α : Type} {R : List (Rw α)} {n m : Nat} {f g : Nat → Nat → α}
theorem dA.ql (h:dA R n m f) {i:Nat} (hi:i<n):(R.getD i gn).X.length=m:=by rw[h.row i hi,ao]
theorem dA.v (h:dA R n m f) {i:Nat} (hi:i<n):(R.getD i gn).v= .slice (some ⟨(R.getD i gn).b,0,none⟩) m (R.getD i gn).cap:=by unfold Rw.v;rw[h.ql hi]
theorem dA.get (h:dA R n m f) {i j:Nat} (hi:i<n) (hj:j<m) (d:α):(R.getD i gn).X.getD j d=f i j:=by rw[h.row i hi];exact aV _ _ hj
theorem dA.congr (h:dA R n m f) (e:∀i,i<n->∀j,j<m->f i j=g i j):dA R n m g:=⟨h.len,λi hi=>by rw[h.row i hi];exact bA λj hj=>e i hi j hj,h.cap⟩
theorem dA.put (h:dA R n m f) {i:Nat} (hi:i<n) (j:Nat) (u:α):dA (R.set i ((R.getD i gn).put j u)) n m λa b=>if a=i/\b=j then u else f a b:=by
 have hl:i<R.length:=by rw[h.len];exact hi
 refine⟨by rw[List.length_set,h.len],λa ha=> ?_,λa ha=> ?_⟩
 ·rw[eZ _ _ _ hl];by_cases e:a=i
  ·rw[if_pos e];show(R.getD i gn).X.set j u=_;rw[h.row i hi,eP,e];exact bA λb _=>by
    by_cases q:b=j
    ·rw[if_pos q,if_pos ⟨rfl,q⟩]
    ·rw[if_neg q,if_neg λz=>q z.2]
  ·rw[if_neg e,h.row a ha];exact bA λb _=>by rw[if_neg λz=>e z.1]
 ·rw[eZ _ _ _ hl];by_cases e:a=i
  ·rw[if_pos e];exact h.cap i hi
  ·rw[if_neg e];exact h.cap a ha
theorem dA.A8 (h:dA R n m f) {i j:Nat} (hi:i<n) (hj:j<n):dA (wN R i j) n m λa b=>if a=j then f i b else if a=i then f j b else f a b:=by
 have hi':i<R.length:=by rw[h.len];exact hi
 have hj':j<R.length:=by rw[h.len];exact hj
 refine⟨by rw[Iy,h.len],λa ha=> ?_,λa ha=> ?_⟩
 ·rw[Cf R hi' hj'];by_cases e1:a=j
  ·simp only[if_pos e1];exact h.row i hi
  ·by_cases e2:a=i
   ·simp only[if_neg e1,if_pos e2];exact h.row j hj
   ·simp only[if_neg e1,if_neg e2];exact h.row a ha
 ·rw[Cf R hi' hj'];split
  ·exact h.cap i hi
  ·split
   ·exact h.cap j hj
   ·exact h.cap a ha
theorem dA.sl {enc:α->List Value} {size:Nat} {t tS:TypeId} {bo:Nat} {H:List bQ} {w0 w:World} (h:dA R n m f) (hS:St w0 w (mB enc t tS bo R H)) (hu:∀x,(enc x).length=size) {i:Nat} (hi:i<n):Sl enc size w (R.getD i gn).v (aS m (f i)):=by
 have hl:i<R.length:=by rw[h.len];exact hi
 have:=hS.Rv (Ku hl) hu (n:=m) (cap:=(R.getD i gn).cap) (by rw[h.ql hi];omega) (h.cap i hi).1 (h.cap i hi).2;rwa[h.row i hi,List.take_of_length_le (by rw[ao];omega),<-h.v hi]at this
def lj (v:Value):List Value:=[v]
theorem C4 (l:List Value):l.flatMap lj=l:=by
 induction l with
 |nil=>rfl
 |cons a l ih=>rw[List.flatMap_cons,ih];rfl
theorem dA.outer {enc:α->List Value} {t tS:TypeId} {bo:Nat} {H:List bQ} {w0 w:World} (h:dA R n m f) (hS:St w0 w (mB enc t tS bo R H)) {cap:Nat} (h1:n<=cap) (h2:cap<=9223372036854775807):Sl lj 1 w (.slice (some ⟨bo,0,none⟩) n cap) (R.map Rw.v):=by
 have hk:(mB enc t tS bo R H)[0]?=some (bo,tS,R.map Rw.v):=rfl;rw[<-C4 (R.map Rw.v)]at hk;have:=hS.sle hk (λ_=>rfl) (n:=n) (cap:=cap) (by rw[List.length_map,h.len];omega) h1 h2;rwa[List.take_of_length_le (by rw[List.length_map,h.len];omega)]at this
end
structure kj {α:Type} (enc:α->List Value) (size:Nat) (w:World) (v:Value) (A:List (List α)) (vs:List Value):Prop where
 len:vs.length=A.length
 sl:Sl lj 1 w v vs
 row:∀i,i<A.length->Sl enc size w (vs.getD i undef) (A.getD i [])
theorem kj.ab {α:Type} {enc:α->List Value} {size:Nat} {w w':World} {v:Value} {A:List (List α)} {vs:List Value} (h:kj enc size w v A vs) (hb:Below w.heap.size w w'):kj enc size w' v A vs:=⟨h.len,h.sl.ab hb,λi hi=>(h.row i hi).ab hb⟩
def oR {α:Type} (n m:Nat) (f:Nat->Nat->α):List (List α):=aS n λi=>aS m (f i)
theorem eg {α:Type} (n m:Nat) (f:Nat->Nat->α):(oR n m f).length=n:=ao _ _
theorem iw {α:Type} {n m:Nat} (f:Nat->Nat->α) {i:Nat} (hi:i<n):(oR n m f).getD i []=aS m (f i):=aV _ _ hi
theorem dA.FV {α:Type} {R:List (Rw α)} {n m:Nat} {f:Nat->Nat->α} {enc:α->List Value} {size:Nat} {t tS:TypeId} {bo:Nat} {H:List bQ} {w0 w:World} (h:dA R n m f) (hS:St w0 w (mB enc t tS bo R H)) (hu:∀x,(enc x).length=size) {cap:Nat} (h1:n<=cap) (h2:cap<=9223372036854775807):
  kj enc size w (.slice (some ⟨bo,0,none⟩) n cap) (oR n m f) (R.map Rw.v):=by
 refine⟨by rw[List.length_map,h.len,eg],h.outer hS h1 h2,λi hi=> ?_⟩;rw[eg]at hi;rw[iw f hi,List.getD_eq_getElem?_getD,xX (by rw[h.len];exact hi)];exact h.sl hS hu hi
section
variable {P : Program} {N : Nat} {ρ : Nat → Value} {w0 w w' : World} {d : Option Tmp} {ty : TypeId} {pos : String} {aft : Array Edge} {g : Option (Nat × Bool)} {x y z : Operand} {t t' e : TypeId} {H : List bQ} {k b o : Nat} {v : Value} {K : Value → Prop} {K2 : Value → World → Prop}
  {α : Type} {enc : α → List Value} {size : Nat} {R : List (Rw α)} {tR tS : TypeId} {bo : Nat} {zz : List Value}
end
end Go.Sx
namespace Go.Proofs.YtoeiejliehgopaaGreatDoor
open Go Go.RowKit Go.Sx
def ew (A:List (List RR)):Nat:=(A.getD 0 []).length
def t7 (A:List (List RR)):Bool:=A.all λr=>decide (r.length=ew A)
def mN (A:List (List RR)):Int:=if A.length=0\/ew A=0 then 4 else if t7 A=false then 4 else if 16<A.length\/16<ew A then 2 else 0
def JJ (A:List (List RR)):Int:=if mN A≠0 then mN A else if A.length≠ew A then 4 else 0
theorem pJ {A:List (List RR)} (h:mN A=0):1<=A.length/\A.length<=16/\1<=ew A/\ew A<=16/\∀i,i<A.length->(A.getD i []).length=ew A:=by
 unfold mN at h;split at h
 ·cases h
 ·next h1=>
  split at h
  ·cases h
  ·next h2=>
   split at h
   ·cases h
   ·next h3=>
    refine⟨oO,oO,oO,oO,λi hi=> ?_⟩;have h4:t7 A=true:=by cases q:t7 A with
     |true=>rfl
     |false=>exact absurd q h2
    have:=List.all_eq_true.1 h4 _ (bC A i [] hi);exact of_decide_eq_true this
theorem Cj {α:Type} (f:α->Bool) (l:List α) (d:α) {i:Nat} (hi:i<l.length) (h:(l.take i).all f=true):
  (f (l.getD i d)=true->(l.take (i+1)).all f=true)/\(f (l.getD i d)=false->l.all f=false):=by
 have e:l.take (i+1)=l.take i++[l.getD i d]:=by
  rw[List.take_succ_eq_append_getElem hi,List.getD_eq_getElem?_getD,List.getElem?_eq_getElem hi];rfl
 constructor
 ·intro g;rw[e,List.all_append,h,List.all_cons,g];rfl
 ·intro g;rw[List.all_eq_false];exact⟨_,bC l i d hi,by rw[g];simp⟩
theorem yE (v:Value) (A:List (List RR)) (vs:List Value) (w:World) (hA:kj ae 3 w v A vs):
  dj Tryz.prog 170 #[v] w λr w'=>r= .int .i64 (mN A)/\Below w.heap.size w w':=by
 have hS:=St.init w;have hmx:=hA.sl.maxLen;have hlen:=hA.len;refine enter Tryz.func170 rfl Tryz.ntmps170 rfl ?_;refine V1 ?_;by_cases h0:A.length=0
 ·have he:mN A=4:=if_pos (.inl h0);rw[he];refine J1 ?_;refine jp (aF rfl (hA.sl.ab hS.ab) ⟨_,Tryz.underlying35⟩ ?_);refine J2 ?_;refine bI (ak 8 kR rfl dT) (bI (ak 8 kR rfl dT) (bI (ak 8 kR rfl dT) (bI (ak 8 kR rfl dT) (bI (ak 8 kR rfl dT) (jp (aZ (vb rfl dT) rfl ?_))))));refine ja ?_;refine bZ rfl (rfl) ?_;refine J1 ?_;refine jt ?_;refine bj rfl rfl ?_;exact⟨rfl,hS.ab⟩
 have hr0:=hA.row 0 oO;have hm0:=hr0.maxLen;refine J1 ?_;refine jp (aF rfl (hA.sl.ab hS.ab) ⟨_,Tryz.underlying35⟩ ?_);refine J2 ?_;refine ax (ai 8 kR rfl dF) (aI rfl (ax (ai 8 kR rfl dF) (aH (i:=0) rfl rfl (hA.sl.ab hS.ab) oO dO cZ (bW (ai 8 kR rfl dF) (aO (i:=0) undef rfl dh (hA.sl.ab hS.ab) dO rfl rfl (.inr rfl) (ax (ai 8 kR rfl dF) (aF rfl (hr0.ab hS.ab) ⟨_,Tryz.underlying34⟩ (ax (ai 8 kR rfl dF) (i7 rfl rfl (jp (aZ (vb rfl dF) rfl ?_)))))))))));refine ja ?_;have hc0:ew A=(A.getD 0 []).length:=rfl;by_cases h1:ew A=0
 ·have he:mN A=4:=if_pos (.inr h1);rw[he];refine J2 ?_;refine jt ?_;refine bj rfl rfl ?_;exact⟨rfl,hS.ab⟩
 refine V1 ?_;have e1:mN A=if t7 A=false then 4 else if 16<A.length\/16<ew A then 2 else 0:=if_neg oO
 refine J1 ?_;refine jp (aF rfl (hA.sl.ab hS.ab) ⟨_,Tryz.underlying35⟩ ?_);refine J1 ?_;refine jb ?_;refine aW (λρ w'=>t7 A=true/\ρ 0=v/\St w w' []) ?_ ?_
 ·refine ja ?_;refine aQ (σ:=Nat) (λi ρ w'=>i<=A.length/\(A.take i).all (λr=>decide (r.length=ew A))=true/\ρ 0=v/\ρ 15=v/\ρ 16=iB A.length/\ρ 17=iB i/\St w w' []) (λi=>A.length-i) 0
   ⟨Nat.zero_le _,by simp,rfl,rfl,vi rfl oO,rfl,hS⟩ ?_
  clear hS;rintro i ρ w2 ⟨hi,hall,h0',h15,h16,h17,hS⟩;refine V1 ?_;by_cases hlt:i<A.length
  ·refine V1 ?_;have hri:=hA.row i hlt;have hmi:=hri.maxLen;have hd:(A.getD i []).length=ew A↔decide ((A.getD i []).length=ew A)=true:=(decide_eq_true_iff).symm;refine jr ?_;refine jp (aH (i:=i) h15 h17 (hA.sl.ab hS.ab) oO dO cZ (jq (aO (i:=i) undef rfl dh (hA.sl.ab hS.ab) dO rfl rfl (.inr rfl) ?_)));refine J2 ?_;refine jp (aF rfl (hri.ab hS.ab) ⟨_,Tryz.underlying34⟩ ?_);refine J1 ?_;refine jp (aH (i:=0) rfl rfl (hA.sl.ab hS.ab) oO dO cZ (jq (aO (i:=0) undef rfl dh (hA.sl.ab hS.ab) dO rfl rfl (.inr rfl) (jp (aF rfl (hr0.ab hS.ab) ⟨_,Tryz.underlying34⟩ ?_)))));refine V1 ?_;by_cases hne:(A.getD i []).length=ew A
   ·refine V3 ?_;exact⟨i+1,_,rfl,⟨hlt,(Cj (λr:List RR=>decide (r.length=ew A)) A [] hlt hall).1 (hd.1 hne),jY,jY,jY,vi rfl oO,hS⟩,oO⟩
   ·refine V1 ?_;have he:mN A=4:=by
     have hev:t7 A=false:=(Cj (λr:List RR=>decide (r.length=ew A)) A [] hlt hall).2 (decide_eq_false hne);rw[e1,if_pos hev]
    rw[he];refine J1 ?_;refine jt ?_;refine bj rfl rfl ?_;exact⟨rfl,hS.ab⟩
  ·refine J1 ?_;refine jt ?_;obtain rfl:i=A.length:=oO;rw[List.take_length]at hall;exact⟨_,rfl,hall,h0',hS⟩
 clear hS;rintro ρ w2 ⟨hev,h0',hS⟩;refine ja ?_;have e2:mN A=if 16<A.length\/16<ew A then 2 else 0:=by rw[e1,if_neg (by rw[hev];simp)]
 rw[e2];by_cases h3:16<A.length
 ·rw[if_pos (.inl h3)];refine J1 ?_;refine jp (aF rfl (hA.sl.ab hS.ab) ⟨_,Tryz.underlying35⟩ ?_);refine J2 ?_;refine bI (ak 32 kR rfl dT) (bI (ak 32 kR rfl dT) (bI (ak 32 kR rfl dT) (bI (ak 32 kR rfl dT) (bI (ak 32 kR rfl dT) (jp (aZ (vb rfl dT) rfl ?_))))));refine ja ?_;refine bZ rfl (rfl) ?_;refine J1 ?_;refine jt ?_;refine bj rfl rfl ?_;exact⟨rfl,hS.ab⟩
 refine J1 ?_;refine jp (aF rfl (hA.sl.ab hS.ab) ⟨_,Tryz.underlying35⟩ ?_);refine J2 ?_;refine ax (ai 32 kR rfl dF) (aI h0' (ax (ai 32 kR rfl dF) (aH (i:=0) rfl rfl (hA.sl.ab hS.ab) oO dO cZ (bW (ai 32 kR rfl dF) (aO (i:=0) undef rfl dh (hA.sl.ab hS.ab) dO rfl rfl (.inr rfl) (ax (ai 32 kR rfl dF) (aF rfl (hr0.ab hS.ab) ⟨_,Tryz.underlying34⟩ (ax (ai 32 kR rfl dF) (mQ rfl rfl (jp (aZ (vb rfl dF) rfl ?_)))))))))));refine ja ?_;by_cases h4:16<ew A
 ·rw[if_pos (.inr h4)];refine J2 ?_;refine jt ?_;refine bj rfl rfl ?_;exact⟨rfl,hS.ab⟩
 rw[if_neg oO];refine J2 ?_;refine jt ?_;refine bj rfl rfl ?_;exact⟨rfl,hS.ab⟩
theorem DC (v:Value) (A:List (List RR)) (vs:List Value) (w:World) (hA:kj ae 3 w v A vs):
  dj Tryz.prog 140 #[v] w λr w'=>r= .int .i64 (JJ A)/\Below w.heap.size w w':=by
 have hS:=St.init w;have hmx:=hA.sl.maxLen;have hlen:=hA.len;refine enter Tryz.func140 rfl Tryz.ntmps140 rfl ?_;refine J2 ?_;refine jh (ah Tryz.call170 rfl (yE v A vs _ (hA.ab hS.ab)) ?_);rintro _ wc1 ⟨rfl,hBc1⟩;replace hS:=hS.aG hBc1;refine V3 ?_;by_cases h0:mN A=0
 ·refine V1 ?_;obtain⟨h1,h2,h3,h4,h5⟩:=pJ h0;have hr0:=hA.row 0 oO;have hc0:ew A=(A.getD 0 []).length:=rfl;have e1:JJ A=if A.length≠ew A then 4 else 0:=if_neg oO
  rw[e1];refine J1 ?_;refine jp (aF rfl (hA.sl.ab hS.ab) ⟨_,Tryz.underlying35⟩ ?_);refine J1 ?_;refine jp (aH (i:=0) rfl rfl (hA.sl.ab hS.ab) oO dO cZ (jq (aO (i:=0) undef rfl dh (hA.sl.ab hS.ab) dO rfl rfl (.inr rfl) (jp (aF rfl (hr0.ab hS.ab) ⟨_,Tryz.underlying34⟩ ?_)))));refine V1 ?_;by_cases h6:A.length=ew A
  ·rw[if_neg oO];refine J2 ?_;refine jt ?_;refine bj rfl rfl ?_;exact⟨rfl,hS.ab⟩
  ·rw[if_pos h6];refine J2 ?_;refine jt ?_;refine bj rfl rfl ?_;exact⟨rfl,hS.ab⟩
 ·have e1:JJ A=mN A:=if_pos h0;rw[e1];refine J3 ?_;refine jt ?_;refine bj rfl rfl ?_;exact⟨rfl,hS.ab⟩
theorem tH (q:Rat) (w:World):dj Tryz.prog 197 #[cw (aj q)] w λr w'=>r= .bool (decide (q=0))/\Below w.heap.size w w':=by
 have hS:=St.init w;refine enter Tryz.func197 rfl Tryz.ntmps197 rfl ?_;refine jr ?_;refine jh (bY (new:=ae (aj q)) rfl rfl hS ?_);intro b1 wz2 hS hBz2;refine J3 ?_;refine jp (lL rfl rfl ?_);refine J1 ?_;refine jt ?_;refine bj rfl rfl ?_;exact⟨congrArg Value.bool (decide_eq_decide.2 li),hS.ab⟩
def RM (A:List (List RR)):Mx:=λi j=>toQ ((A.getD i []).getD j bM)
def Hf (k:Nat) (A:List (List RR)):Prop:=∀a∈A,RB k a
theorem Ji {k:Nat} {A:List (List RR)} (h:Hf k A) {i j:Nat} (hi:i<A.length) (hj:j<(A.getD i []).length):Lr ((A.getD i []).getD j bM)<=k:=h _ (bC A i [] hi) _ (bC _ j bM hj)
theorem Hl {k:Nat} {A:List (List RR)} (h:Hf k A) {i j:Nat} (hi:i<A.length) (hj:j<(A.getD i []).length):L (RM A i j)<=k:=Nat.le_trans (nN _) (Ji h hi hj)
abbrev qM (M:Mx):Nat->Nat->RR:=λi j=>aj (M i j)
theorem MP {α:Type} (l:List α) (x:α) (r:List α) {i:Nat} (h:l.length=i):(l++x::r)[i]?=some x:=by
 subst h;rw[List.getElem?_append_right (Nat.le_refl _),Nat.sub_self];rfl
theorem vh {α:Type} (l:List α) (x y:α) (r:List α) {i:Nat} (h:l.length=i):(l++x::r).set i y=l++y::r:=by
 subst h;rw[List.set_append_right _ _ (Nat.le_refl _),Nat.sub_self];rfl
theorem OF {α:Type} {enc:α->List Value} {e:TypeId} {size:Nat} {v:Value} {X:List α} {Lb:List bQ} (h:Gl enc e size v X Lb) (hX:X≠ []):∃r:Rw α,r.X=X/\v=r.v/\Lb=[r.qj enc e]/\r.X.length<=r.cap/\r.cap<=9223372036854775807/\(r.X.flatMap enc++r.sp).length=r.cap*size:=by
 obtain⟨_,⟨_,h2,_⟩|⟨b,cap,sp,h1,h2,h3,h4,h5⟩⟩:=h
 ·exact absurd (List.length_eq_zero_iff.1 h2) hX
 ·exact⟨⟨b,cap,X,sp⟩,rfl,h1,h2,h3,by unfold Go.maxLen at h4;omega,h5⟩
theorem tV {α:Type} {R:List (Rw α)} {i m:Nat} {f:Nat->Nat->α} (h:dA R i m f) {r:Rw α} (hX:r.X=aS m (f i)) (hc:m<=r.cap/\r.cap<=9223372036854775807):dA (R++[r]) (i+1) m f:=by
 have hg:∀a,(R++[r]).getD a gn=if a<i then R.getD a gn else if a=i then r else gn:=by
  intro a;rw[List.getD_eq_getElem?_getD];by_cases e:a<i
  ·rw[if_pos e,List.getElem?_append_left (by rw[h.len];exact e),List.getD_eq_getElem?_getD]
  ·rw[if_neg e,List.getElem?_append_right (by rw[h.len];omega),h.len];by_cases e2:a=i
   ·rw[if_pos e2,e2,Nat.sub_self];rfl
   ·rw[if_neg e2,List.getElem?_eq_none (by simp;omega)];rfl
 refine⟨by rw[List.length_append,h.len];rfl,λa ha=> ?_,λa ha=> ?_⟩
 ·rw[hg];by_cases e:a<i
  ·rw[if_pos e];exact h.row a e
  ·obtain rfl:a=i:=oO;rw[if_neg e,if_pos rfl];exact hX
 ·rw[hg];by_cases e:a<i
  ·rw[if_pos e];exact h.cap a e
  ·obtain rfl:a=i:=oO;rw[if_neg e,if_pos rfl];exact hc
def zG (R:List (Rw RR)):Prop:=∀r∈R,(r.X.flatMap ae++r.sp).length=r.cap*3
def aw:Value:= .slice none 0 0
theorem Ah (n:Nat):rep n [aw]=List.replicate n aw:=by
 induction n with
 |zero=>rfl
 |succ n ih=>rw[pg,ih];rfl
theorem ti (v:Value) (A:List (List RR)) (vs:List Value) (m K:Nat) (w:World) (hA:kj ae 3 w v A vs) (hn1:1<=A.length) (hn:A.length<=1000) (hm1:1<=m) (hm:m<=1000) (hev:∀i,i<A.length->(A.getD i []).length=m) (hB:Hf K A) (hK:K<=MX):
  dj Tryz.prog 141 #[v] w λr w'=>(∃bo R,r= .slice (some ⟨bo,0,none⟩) A.length A.length/\dA R A.length m (qM (RM A))/\zG R/\St w w' (mB ae 32 34 bo R []))/\Below w.heap.size w w':=by
 have hM:MX=1099511627776:=rfl;obtain⟨n,hn'⟩:∃n,n=A.length:=⟨_,rfl⟩;rw[<-hn']at hn1 hn hev⊢;have hS:=St.init w;have hlen:=hA.len;refine enter Tryz.func141 rfl Tryz.ntmps141 rfl ?_;refine J2 ?_;refine jp (aF rfl (hA.sl.ab hS.ab) ⟨_,Tryz.underlying35⟩ (jh (tD (n:=n) rfl rfl cZ oO oO oO oO hS ?_)));intro bo wz1 hS hBz1;refine V1 ?_;replace hS:St w _ [(bo,34,rep n [aw])]:=hS;rw[Ah]at hS;refine J1 ?_;refine jp (aF rfl (hA.sl.ab hS.ab) ⟨_,Tryz.underlying35⟩ ?_);refine J1 ?_;refine jb ?_;refine aW (λρ w'=>ρ 3= .slice (some ⟨bo,0,none⟩) n n/\∃R,dA R n m (qM (RM A))/\zG R/\St w w' (mB ae 32 34 bo R [])) ?_ ?_
 ·refine ja ?_;refine aQ (σ:=Nat) (λi ρ w'=>i<=n/\ρ 3= .slice (some ⟨bo,0,none⟩) n n/\ρ 11=v/\ρ 12=iB n/\ρ 13=iB i/\∃R,dA R i m (qM (RM A))/\zG R/\St w w' ((bo,34,R.map Rw.v++List.replicate (n-i) aw)::R.map (Rw.qj ae 32))) (λi=>n-i) 0
   ⟨Nat.zero_le _,rfl,rfl,vi rfl oO,rfl,[],⟨rfl,λi hi=>absurd hi (Nat.not_lt_zero _),λi hi=>absurd hi (Nat.not_lt_zero _)⟩,(λ_ h=>by cases h),hS⟩ ?_
  clear hS;rintro i ρ w2 ⟨hi,h3,h11,h12,h13,R,hR,hF,hS⟩;refine V1 ?_;by_cases hlt:i<n
  ·refine V1 ?_;have hri:=hA.row i oO;have hli:=hev i hlt;obtain⟨row,hrow⟩:=jz (A.getD i []);obtain⟨vr,hvr⟩:=jz (vs.getD i undef);rw[<-hrow]at hri hli;rw[<-hvr]at hri;obtain⟨d,hd⟩:∃d,n-i=d+1:=⟨n-i-1,oO⟩;rw[hd,List.replicate_succ]at hS;refine J1 ?_;refine jp (aH (i:=i) h11 h13 (hA.sl.ab hS.ab) oO dO cZ (jq (aO (i:=i) undef rfl dh (hA.sl.ab hS.ab) dO rfl rfl (.inr rfl) ?_)));refine V2 ?_;rw[<-hvr];refine jr ?_;refine jp (aI rfl (jp (aF rfl (hri.ab hS.ab) ⟨_,Tryz.underlying34⟩ ?_)));refine J1 ?_;refine jb ?_;refine aW (λρ w'=>ρ 3= .slice (some ⟨bo,0,none⟩) n n/\ρ 11=v/\ρ 12=iB n/\ρ 13=iB i/\∃vi_ Li,Gl ae 32 3 vi_ (aS m (qM (RM A) i)) Li/\St w w' (((bo,34,R.map Rw.v++vi_::List.replicate d aw)::R.map (Rw.qj ae 32))++Li)) ?_ ?_
   ·refine ja ?_;refine aQ (σ:=Nat) (λj ρ w'=>j<=m/\ρ 3= .slice (some ⟨bo,0,none⟩) n n/\ρ 4=iB i/\ρ 11=v/\ρ 12=iB n/\ρ 13=iB i/\ρ 18=vr/\ρ 19=iB m/\ρ 20=iB j/\∃vi_ Li,Gl ae 32 3 vi_ (aS j (qM (RM A) i)) Li/\St w w' (((bo,34,R.map Rw.v++vi_::List.replicate d aw)::R.map (Rw.qj ae 32))++Li)) (λj=>m-j) 0
     ⟨Nat.zero_le _,jY,rfl,jY,jY,jY,rfl,vi rfl oO,rfl,aw,[],Gl.nil _ _ _,by rw[List.append_nil];exact hS⟩ ?_
    clear hS;rintro j ρ w3 ⟨hj,h3,h4,h11,h12,h13,h18,h19,h20,vi_,Li,hG,hS⟩;have htl:=ao j (qM (RM A) i);refine V1 ?_;by_cases hjl:j<m
    ·refine V1 ?_;have hLr:=Ji hB (i:=i) (j:=j) oO (by rw[<-hrow,hli];exact hjl);rw[<-hrow]at hLr;obtain⟨r,hr⟩:=jz (row.getD j bM);have hq:aj (RM A i j)=fx r:=by rw[hr,hrow];rfl
     rw[<-hr]at hLr;have hlenR:(R.map Rw.v).length=i:=by rw[List.length_map,hR.len]
     have hfit:i<(R.map Rw.v++vi_::List.replicate d aw).length:=by rw[List.length_append,hlenR,List.length_cons];omega
     refine jr ?_;refine jp (aH (i:=j) h18 h20 (hri.ab hS.ab) oO dO bJ (jq (aO (i:=j) bM rfl aB (hri.ab hS.ab) dO rfl rfl (.inl rfl) ?_)));refine J1 ?_;intro b7 wz2 hS hBz2;refine J1 ?_;intro wz3 hS;refine ja ?_;rw[<-hr]at hS;replace hS:St w _ ((b7,32,ae r)::(((bo,34,R.map Rw.v++vi_::List.replicate d aw)::R.map (Rw.qj ae 32))++Li)):=hS;refine J1 ?_;refine jh (ah Tryz.call65 rfl (BY r _ oO) ?_);rintro _ wc4 ⟨rfl,hBc4⟩;replace hS:=hS.aG hBc4;refine V1 ?_;refine aW (λρ w'=>ρ 3= .slice (some ⟨bo,0,none⟩) n n/\ρ 4=iB i/\ρ 7=pB b7/\ρ 11=v/\ρ 12=iB n/\ρ 13=iB i/\ρ 18=vr/\ρ 19=iB m/\ρ 20=iB j/\St w w' (((b7,32,ae (fx r))::(bo,34,R.map Rw.v++vi_::List.replicate d aw)::R.map (Rw.qj ae 32))++Li)) ?_ ?_
     ·by_cases hv:EK r
      ·refine ct rfl (by rw[decide_eq_true hv];rfl) ?_;refine ja ?_;have e:fx r=r:=zF hv;rw[e];exact⟨_,rfl,jY,jY,rfl,jY,jY,jY,jY,jY,jY,hS⟩
      ·refine bZ rfl (by rw[decide_eq_false hv];rfl) ?_;refine ja ?_;have e:fx r=bM:=by unfold fx;rw[zM hv,gm];rfl
       rw[e];refine jr ?_;refine jp (bR rfl ix ?_);refine J1 ?_;intro wz5 hS;refine ja ?_;exact⟨_,rfl,jY,jY,rfl,jY,jY,jY,jY,jY,jY,hS⟩
     clear hS;rintro ρ w4 ⟨h3,h4,h7,h11,h12,h13,h18,h19,h20,hS⟩;refine ja ?_;refine bk [jo 0,jo 1,jo 2,jo 3,jo 4,ju 5,ju 6,jv 7,jw 8,jo 9,jw 10] kR kR hS ?_;intro wz6 hS hBz6;refine J4 ?_;refine jl rfl (bn (i:=i) rfl rfl oO dO cZ (jm rfl (Ft (k:=1) rfl dh hS rfl (by rw[Nat.zero_add,Nat.mul_one];exact MP _ _ _ hlenR) ?_)));refine J1 ?_;refine jn rfl (dI (vs:=[cw (fx r)]) rfl bJ rfl dD dD dD (by simp[Value.cells,cw]) rfl hS ?_);intro b35 wz7 hS hBz7;refine⟨hBz7,?_⟩;refine jx rfl (dK [fx r] rfl rfl bJ dD hG hS rfl rfl aK (pd [fx r]) dL dL ?_);intro va8 La8 wa8 hG hS hga8;refine jl rfl (bn (i:=i) rfl rfl oO dO cZ (jx rfl (gl (k:=1) rfl rfl dh hS rfl (by rw[Nat.zero_add,Nat.mul_one];exact hfit) (by obtain⟨a,c,rfl⟩:=hG.len;rfl) ?_)));intro wz9 hS;refine ja ?_;rw[<-hq,<-gU]at hG;refine V2 ?_;refine⟨j+1,_,rfl,⟨hjl,jY,jY,jY,jY,jY,jY,jY,vi rfl oO,_,_,hG,?_⟩,oO⟩;have hS2:=hS.drop (List.sublist_cons_self _ _);rw[Nat.zero_add,Nat.mul_one,vh _ _ _ _ hlenR]at hS2;exact hS2
    ·refine J1 ?_;refine jt ?_;obtain rfl:j=m:=oO;exact⟨_,rfl,h3,h11,h12,h13,vi_,Li,hG,hS⟩
   clear hS;rintro ρ w3 ⟨h3,h11,h12,h13,vi_,Li,hG,hS⟩;refine V2 ?_;obtain⟨r,hX,rfl,rfl,hc1,hc2,hc3⟩:=OF hG (by intro e;have:=congrArg List.length e;rw[ao]at this;simp at this;omega);have hR':=tV hR hX ⟨by rw[hX,ao]at hc1;exact hc1,hc2⟩;refine⟨i+1,_,rfl,⟨hlt,jY,jY,jY,vi rfl oO,R++[r],hR',(λx hx=>(List.mem_append.1 hx).elim (hF x) λg=>by rw[List.mem_singleton.1 g];exact hc3),?_⟩,oO⟩;rw[List.map_append,List.map_append,show n-(i+1)=d by omega,List.append_assoc];exact hS
  ·refine J1 ?_;refine jt ?_;obtain rfl:i=n:=oO;rw[Nat.sub_self,List.replicate_zero,List.append_nil]at hS;refine⟨_,rfl,h3,R,hR,hF,?_⟩;unfold mB;rw[List.append_nil];exact hS
 clear hS;rintro ρ w2 ⟨h3,R,hR,hF,hS⟩;refine J2 ?_;refine jt ?_;refine bj rfl rfl ?_;exact⟨⟨bo,R,rfl,hR,hF,hS⟩,hS.ab⟩
def VX (X:List RR) (k:Nat):Rat:=toQ (X.getD k bM)
theorem sh {n:Nat} (f:Nat->Rat) (i:Nat) (q:Rat):(aS n λj=>aj (f j)).set i (aj q)=aS n λj=>aj (if j=i then q else f j):=by
 rw[eP];exact bA λj _=>by by_cases h:j=i<;>simp only[h,if_true,if_false]
end Go.Proofs.YtoeiejliehgopaaGreatDoor
namespace Go.Sx
open Go Go.RowKit Go.Proofs.YtoeiejliehgopaaGreatDoor
section
variable {P : Program} {N : Nat} {ρ : Nat → Value} {w0 w w' : World} {d : Option Tmp} {ty : TypeId} {pos : String} {aft : Array Edge} {g : Option (Nat × Bool)} {x y z : Operand} {t t' e : TypeId} {H : List bQ} {k b o : Nat} {v : Value} {K : Value → Prop} {K2 : Value → World → Prop}
  {α : Type} {enc : α → List Value} {size : Nat} {R : List (Rw α)} {tR tS : TypeId} {bo : Nat} {zz : List Value}
theorem F5 (pre:List bQ) (T:List bQ) (k:Nat):(pre++T)[pre.length+k]?=T[k]?:=by
 rw[List.getElem?_append_right oO];congr 1;omega
theorem HX (pre:List bQ) (T:List bQ) (k:Nat) (u:bQ):(pre++T).set (pre.length+k) u=pre++T.set k u:=by
 rw[List.set_append_right _ _ oO];congr 2;omega
theorem eJ (pre:List bQ) {i:Nat} (hx:ev N ρ x= .pointer (some ⟨bo,o,none⟩)) (ht:da P t=some (1,false,zz)) (hS:St w0 w (pre++mB enc tR tS bo R H)) (ho:o=i) (hi:i<R.length) (h:K (R.getD i gn).v):jP P N ρ w ⟨d,.load t x,ty,pos,aft,g⟩ K:=by
 subst ho;exact Ft (k:=pre.length+0) hx ht hS (by rw[F5];rfl) (xX hi) h
theorem ke (pre:List bQ) {i j:Nat} {agg:Bool} (dd:α) (hu:∀x,(enc x).length=size) (hx:ev N ρ x= .pointer (some ⟨b,o,none⟩)) (ht:da P t=some (size,agg,zz)) (hS:St w0 w (pre++mB enc tR tS bo R H)) (hb:(R.getD i gn).b=b) (hi:i<R.length)
  (ho:o=j*size) (hj:j<(R.getD i gn).X.length) (hv:MG agg (enc ((R.getD i gn).X.getD j dd))=v) (hagg:agg=true\/size=1) (h:K v):jP P N ρ w ⟨d,.load t x,ty,pos,aft,g⟩ K:=by
 subst hb;exact wH (k:=pre.length+(i+1)) dd hu hx ht hS (by rw[F5];exact Ku hi) ho hj hv hagg h
theorem qJ (pre:List bQ) {i j:Nat} {agg:Bool} (u:α) (hu:∀x,(enc x).length=size) (hx:ev N ρ x= .pointer (some ⟨b,o,none⟩)) (hy:ev N ρ y=v) (ht:da P t=some (size,agg,zz)) (hS:St w0 w (pre++mB enc tR tS bo R H)) (hb:(R.getD i gn).b=b) (hi:i<R.length)
  (ho:o=j*size) (hj:j<(R.getD i gn).X.length) (hv:v.cells.toList=enc u) (h1:(enc u).all (·.oneCell')=true) (h:∀w',St w0 w' (pre++mB enc tR tS bo (R.set i ((R.getD i gn).put j u)) H)->K2 undef w'):gZ P N ρ w ⟨d,.store t x y,ty,pos,aft,g⟩ K2:=by
 subst hb;refine wB (k:=pre.length+(i+1)) u hu hx hy ht hS (by rw[F5];exact Ku hi) ho hj hv h1 λw' hS'=> ?_;rw[HX,Pn j u hi]at hS';exact h w' hS'
theorem kF (pre:List bQ) {cs:List Value} {T:List bQ} {i:Nat} (hx:ev N ρ x= .pointer (some ⟨bo,o,none⟩)) (hy:ev N ρ y=v) (ht:da P t=some (1,false,zz)) (hS:St w0 w (pre++(bo,tS,cs)::T)) (ho:o=i) (hi:i<cs.length) (h1:v.oneCell'=true) (h:∀w',St w0 w' (pre++(bo,tS,cs.set i v)::T)->K2 undef w'):
  gZ P N ρ w ⟨d,.store t x y,ty,pos,aft,g⟩ K2:=by
 subst ho;refine gl (k:=pre.length+0) hx hy ht hS (by rw[F5];rfl) hi h1 λw' hS'=> ?_;rw[HX]at hS';exact h w' hS'
theorem z5 (L:List bQ):mB enc tR tS bo R H++L=mB enc tR tS bo R (H++L):=by unfold mB;rw[List.cons_append,List.append_assoc]
theorem AG (pre:List bQ) {i j:Nat} (hi:i<R.length) (hj:j<R.length) (h:St w0 w (pre++(bo,tS,((R.map Rw.v).set i (R.getD j gn).v).set j (R.getD i gn).v)::(R.map (Rw.qj enc tR)++H))):St w0 w (pre++mB enc tR tS bo (wN R i j) H):=by
 have e:((R.map Rw.v).set i (R.getD j gn).v).set j (R.getD i gn).v=(wN R i j).map Rw.v:=by
  unfold wN;rw[List.map_set,List.map_set]
 rw[e]at h;refine h.perm (List.Perm.append_left _ (List.Perm.cons _ (List.Perm.append_right _ (List.Perm.map _ ?_))));unfold wN;rw[ff R gn hi,ff R gn hj];exact(List.set_set_perm hi hj).symm
theorem tr (r:Rw α):r.v.oneCell'=true:=rfl
end
end Go.Sx
namespace Go.Proofs.YtoeiejliehgopaaGreatDoor
open Go Go.RowKit Go.Sx
def qh (M:Mx) (i r:Nat) (x:Rat) (k a b:Nat):Rat:=if a=i/\b<k then M i b-x*M r b else M a b
theorem AI {P:Program} {N:Nat} {ρ:Nat->Value} {w:World} {fn:Func} {R:Value->World->Prop} (hr:fn.results= #[]) (h:R (.tuple #[]) w):
  bodyPost P fn (λe w'=>∃v,e= .returned v/\R v w') .ret (act N ρ) w:=
 bodyPost_ret (results_none hr _ _ _) rfl ⟨_,rfl,h⟩
theorem GG {R:List (Rw RR)} {n m:Nat} {M:Mx} {w0:World} {bo:Nat} {H:List bQ} (i r:Nat) (x:Rat) (K:Nat) (w:World) (hR:dA R n m (qM M)) (hm:m<=1000) (hi:i<n) (hr:r<n) (hir:i≠r) (hL:∀j,j<m->L (M i j)<=K/\L (M r j)<=K) (hx:L x<=K) (hK:4*K+4<=MX) (hS:St w0 w (mB ae 32 34 bo R H)):
  dj Tryz.prog 198 #[(R.getD i gn).v,(R.getD r gn).v,cw (aj x)] w λv w'=>v= .tuple #[]/\∃R',dA R' n m (qM λa b=>if a=i then M i b-x*M r b else M a b)/\St w0 w' (mB ae 32 34 bo R' H):=by
 have hM:MX=1099511627776:=rfl;have hvi:=hR.v hi;have hvr:=hR.v hr;obtain⟨bi,hbi⟩:=jz ((R.getD i gn).b);obtain⟨br,hbr⟩:=jz ((R.getD r gn).b);obtain⟨ci,hci⟩:=jz ((R.getD i gn).cap);obtain⟨cr,hcr⟩:=jz ((R.getD r gn).cap);rw[<-hbi,<-hci]at hvi;rw[<-hbr,<-hcr]at hvr;rw[hvi,hvr];refine enter Tryz.func198 rfl Tryz.ntmps198 rfl ?_;refine jr ?_;refine jh (bY (new:=ae (aj x)) rfl rfl hS ?_);intro b5 wz1 hS hBz1;refine ja ?_;replace hS:St w0 _ ([(b5,32,ae (aj x))]++mB ae 32 34 bo R H):=hS;refine J3 ?_;refine jb ?_;refine aW (λρ w'=>∃R',dA R' n m (qM (qh M i r x m))/\St w0 w' ([(b5,32,ae (aj x))]++mB ae 32 34 bo R' H)) ?_ ?_
 ·refine ja ?_;refine aQ (σ:=Nat) (λk ρ w'=>k<=m/\ρ 0= .slice (some ⟨bi,0,none⟩) m ci/\ρ 1= .slice (some ⟨br,0,none⟩) m cr/\ρ 5=pB b5/\ρ 8=iB m/\ρ 9=iB k/\
    ∃R',(R'.getD i gn).b=bi/\(R'.getD r gn).b=br/\dA R' n m (qM (qh M i r x k))/\St w0 w' ([(b5,32,ae (aj x))]++mB ae 32 34 bo R' H)) (λk=>m-k) 0
   ⟨Nat.zero_le _,rfl,rfl,rfl,rfl,rfl,R,hbi.symm,hbr.symm,hR.congr λa _ b _=>by show aj (M a b)=aj (qh M i r x 0 a b);unfold qh;rw[if_neg oO],hS⟩ ?_
  clear hS;rintro k ρ w2 ⟨hk,h0,h1,h5,h8,h9,R',hb1,hb2,hR',hS⟩;have hli:i<R'.length:=by rw[hR'.len];exact hi
  have hlr:r<R'.length:=by rw[hR'.len];exact hr
  refine V1 ?_;by_cases hlt:k<m
  ·refine V1 ?_;have hxi:k<(R'.getD i gn).X.length:=by rw[hR'.ql hi];exact hlt
   have hxr:k<(R'.getD r gn).X.length:=by rw[hR'.ql hr];exact hlt
   have hgi:(R'.getD i gn).X.getD k bM=aj (M i k):=by rw[hR'.get hi hlt];show aj (qh M i r x k i k)=_;unfold qh;rw[if_neg oO]
   have hgr:(R'.getD r gn).X.getD k bM=aj (M r k):=by rw[hR'.get hr hlt];show aj (qh M i r x k r k)=_;unfold qh;rw[if_neg oO]
   obtain⟨hL1,hL2⟩:=hL k hlt;have hLm:=su x (M r k);refine J4 ?_;refine jp (bn (i:=k) rfl rfl oO dO bJ (jq (ke [_] (i:=r) (j:=k) bM aK rfl aB hS hb2 hlr oO hxr rfl (.inl rfl) ?_)));rw[hgr];refine jh (ah Tryz.call197 rfl (tH _ _) ?_);rintro _ wc2 ⟨rfl,hBc2⟩;replace hS:=hS.aG hBc2;refine V1 ?_;by_cases hz:M r k=0
   ·refine ct rfl (by rw[decide_eq_true hz];rfl) ?_;refine V2 ?_;refine⟨k+1,_,rfl,⟨hlt,jY,jY,jY,jY,vi rfl oO,R',hb1,hb2,hR'.congr λa _ b _=> ?_,hS⟩,oO⟩;show aj (qh M i r x k a b)=aj (qh M i r x (k+1) a b);congr 1;unfold qh;by_cases g:a=i/\b<k
    ·rw[if_pos g,if_pos oO]
    ·rw[if_neg g];by_cases g2:a=i/\b<k+1
     ·obtain rfl:b=k:=oO;rw[if_pos g2,hz,g2.1,Rat.mul_zero,Rat.sub_eq_add_neg,Rat.neg_zero,Rat.add_zero]
     ·rw[if_neg g2]
   ·have hmul:=λw=>ka (aj x) (aj (M r k)) w (by rw[Lr_ofQ,Lr_ofQ];omega);rw[toQ_ofQ,toQ_ofQ]at hmul;have hsub:=λw=>dH (aj (M i k)) (aj (x*M r k)) w (by rw[Lr_ofQ,Lr_ofQ];omega);rw[toQ_ofQ,toQ_ofQ]at hsub;refine bZ rfl (by rw[decide_eq_false hz];rfl) ?_;refine ja ?_;refine bk [jo 0,jo 1,jo 2,jo 3,jo 4,ju 5,ju 6,jo 7,jo 8,jo 9,ju 10,jv 11,jv 12,jo 13,jw 14] kR kR hS ?_;intro wz3 hS hBz3;refine J4 ?_;refine jl rfl (bn (i:=k) rfl rfl oO dO bJ (jm rfl (ke [_] (i:=i) (j:=k) bM aK rfl aB hS hb1 hli oO hxi rfl (.inl rfl) ?_)));refine J3 ?_;refine jl rfl (bn (i:=k) rfl rfl oO dO bJ (jm rfl (ke [_] (i:=r) (j:=k) bM aK rfl aB hS hb2 hlr oO hxr rfl (.inl rfl) ?_)));rw[hgi,hgr];refine jn rfl (ah Tryz.call11 rfl (hmul _) ?_);rintro _ wc4 ⟨rfl,hBc4⟩;replace hS:=hS.aG hBc4;refine⟨hBc4,?_⟩;refine jn rfl (ah Tryz.call16 rfl (hsub _) ?_);rintro _ wc5 ⟨rfl,hBc5⟩;replace hS:=hS.aG hBc5;refine⟨hBc5,?_⟩;refine jl rfl (bn (i:=k) rfl rfl oO dO bJ (jx rfl (qJ [_] (i:=i) (j:=k) (aj (M i k-x*M r k)) aK rfl rfl aB hS hb1 hli oO hxi rfl rfl ?_)));intro wz6 hS;refine V2 ?_;refine⟨k+1,_,rfl,⟨hlt,jY,jY,jY,jY,vi rfl oO,_,?_,?_,(hR'.put hi k (aj (M i k-x*M r k))).congr λa _ b _=> ?_,hS⟩,oO⟩
    ·rw[eZ _ _ _ hli,if_pos rfl];exact hb1
    ·rw[eZ _ _ _ hli,if_neg (λe=>hir e.symm)];exact hb2
    ·show(if a=i/\b=k then aj (M i k-x*M r k)else aj (qh M i r x k a b))=aj (qh M i r x (k+1) a b);unfold qh;by_cases g:a=i/\b=k
     ·rw[if_pos g,if_pos oO,g.2]
     ·rw[if_neg g];by_cases g2:a=i/\b<k
      ·rw[if_pos g2,if_pos oO]
      ·rw[if_neg g2,if_neg oO]
  ·refine J1 ?_;refine jt ?_;obtain rfl:k=m:=oO;exact⟨_,rfl,R',hR',hS⟩
 clear hS;rintro ρ w2 ⟨R',hR',hS⟩;refine ja ?_;exact iS rfl ⟨rfl,R',hR'.congr λa _ b hb=>by
  show aj (qh M i r x m a b)=aj (if a=i then M i b-x*M r b else M a b);unfold qh;congr 1;by_cases g:a=i
  ·rw[if_pos ⟨g,hb⟩,if_pos g]
  ·rw[if_neg (λe=>g e.1),if_neg g],hS.drop (List.sublist_cons_self _ _)⟩
def Pv (M:Mx) (c n r:Nat):Int:=if pv M c n r<n then(pv M c n r:Int)else-1
theorem G1 (v:Value) (vs:List Value) (n m:Nat) (M:Mx) (r c:Nat) (w:World) (hA:kj ae 3 w v (oR n m (qM M)) vs) (hr:r<=n) (hc:c<m):
  dj Tryz.prog 196 #[v,.int .i64 r,.int .i64 c] w λu w'=>u= .int .i64 (Pv M c n r)/\Below w.heap.size w w':=by
 have hmx:=hA.sl.maxLen;have hlen:=hA.len;rw[eg]at hlen;obtain⟨_,hp2,_,_⟩:=ig M c hr;have hS:=St.init w;refine enter Tryz.func196 rfl Tryz.ntmps196 rfl ?_;refine J3 ?_;refine jb ?_;refine aW (λρ w'=>Pv M c n r= -1/\St w w' []) ?_ ?_
 ·refine ja ?_;refine aQ (σ:=Nat) (λi ρ w'=>r<=i/\i<=n/\(∀l,r<=l->l<i->M l c=0)/\ρ 0=v/\ρ 2=iB c/\ρ 7=iB i/\St w w' []) (λi=>n-i) r
   ⟨Nat.le_refl _,hr,λl h1 h2=>absurd h2 oO,rfl,rfl,rfl,hS⟩ ?_
  clear hS;rintro i ρ w2 ⟨hri,hi,hz,h0,h2,h7,hS⟩;refine J2 ?_;refine jp (aF rfl (hA.sl.ab hS.ab) ⟨_,Tryz.underlying35⟩ ?_);refine V1 ?_;by_cases hlt:i<n
  ·refine V1 ?_;have hrow:=hA.row i (by rw[eg];exact hlt);rw[iw _ hlt]at hrow;have htl:=ao m (qM M i);have hg:(aS m (qM M i)).getD c bM=aj (M i c):=aV _ _ hc;refine J2 ?_;refine jp (aH (i:=i) rfl rfl (hA.sl.ab hS.ab) oO dO cZ (jq (aO (i:=i) undef rfl dh (hA.sl.ab hS.ab) dO rfl rfl (.inr rfl) ?_)));refine J1 ?_;refine jp (aH (i:=c) rfl rfl (hrow.ab hS.ab) oO dO bJ (jq (aO (i:=c) bM rfl aB (hrow.ab hS.ab) dO rfl rfl (.inl rfl) ?_)));rw[hg];refine jh (ah Tryz.call197 rfl (tH _ _) ?_);rintro _ wc1 ⟨rfl,hBc1⟩;replace hS:=hS.aG hBc1;refine V1 ?_;by_cases hne:M i c=0
   ·refine ct rfl (by rw[decide_eq_true hne];rfl) ?_;refine V3 ?_;exact⟨i+1,_,rfl,⟨oO,hlt,λl h1 h2=>by
     by_cases e:l=i
     ·rw[e];exact hne
     ·exact hz l h1 oO,jY,jY,vi rfl oO,hS⟩,oO⟩
   ·refine bZ rfl (by rw[decide_eq_false hne];rfl) ?_;refine ja ?_;have hp:pv M c n r=i:=Am hri hi hz λ_=>hne;have he:Pv M c n r=i:=by unfold Pv;rw[hp,if_pos hlt]
    rw[he];refine J2 ?_;refine jt ?_;refine bj rfl rfl ?_;exact⟨rfl,hS.ab⟩
  ·refine J1 ?_;refine jt ?_;obtain rfl:i=n:=oO;have hp:pv M c i r=i:=Am hri hi hz λh=>absurd h (Nat.lt_irrefl _);exact⟨_,rfl,by unfold Pv;rw[hp,if_neg (Nat.lt_irrefl _)],hS⟩
 clear hS;rintro ρ w2 ⟨he,hS⟩;refine ja ?_;rw[he];refine J1 ?_;refine jt ?_;refine bj rfl rfl ?_;exact⟨rfl,hS.ab⟩
end Go.Proofs.YtoeiejliehgopaaGreatDoor
