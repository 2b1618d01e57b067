import Derived.Test.YtoeiejliehgopaaGreatDoorUd3
import Derived.ProofKit
import Derived.OpenShut
import Derived.LaidMore
import Derived.Lay
import Derived.ChangeSlices
import Derived.Carry
import Derived.WideShapes
import Derived.Test.YtoeiejliehgopaaGreatDoorTie
import Derived.SevenTiedAt
import Derived.Stop.Joined
set_option maxRecDepth 20000
set_option maxHeartbeats 8000000
namespace Go.Sx
open Go Go.RowKit
section
variable {P : Program} {ops : Array Oper} {Kend : Act → World → Prop} {n x : Nat} {ox : Oper}
def Fq (P:Program) (ops:Array Oper) (Kend:Act->World->Prop) (n x:Nat) (ox:Oper):List (Nat×Md)->Act->World->Prop
 | [],a,w=>mf P ops .ko ox a w Kend
 |(y,m)::σ,a,w=>mf P ops .ko ox a w (wr P ops Kend ((y,m)::σ))/\(rP ops n y x=false->match ops[y]?with
  |some oy=>mf P ops m oy a w (Fq P ops Kend n x ox σ)
  |none=>False)
theorem Ii {σ:List (Nat×Md)} {a:Act} {w:World} (h:Fq P ops Kend n x ox σ a w):mf P ops .ko ox a w (wr P ops Kend σ):=by
 cases σ with
 |nil=>exact mM (λa w h=>h) h
 |cons y σ=>exact h.1
theorem Aq {y:Nat} {m:Md} {oy:Oper} {σ:List (Nat×Md)} {a:Act} {w:World} (hs:wu ops) (hx:ops[x]?=some ox) (hy:ops[y]?=some oy) (hsw:nN ops (y,m) (x,.ko)=true)
  (h:mf P ops m oy a w (Fq P ops Kend n x ox σ)):Fq P ops Kend n x ox ((y,m)::σ) a w:=by
 refine⟨?_,λ_=>by rw[hy];exact h⟩;have h1:mf P ops m oy a w (λa w=>mf P ops .ko ox a w (wr P ops Kend σ)):=mM (λa w g=>Ii g) h;refine mM (λa w g=> ?_) (HR hy hx (λcs b=>hs y oy cs b hy) (λcs b=>hs x ox cs b hx) hsw h1);simp only[wr,hy];exact g
theorem I5 {o:Oper} {a:Act} {w:World} {K K':Act->World->Prop} (h:mf P ops .pure o a w K) (h':mf P ops .pure o a w K'):mf P ops .pure o a w (λa w=>K a w/\K' a w):=by
 by_cases hw:Region.wanted o (yielded ops a.tmps)=true
 ·rw[nL hw]at h h'⊢;obtain⟨v,g1,g2⟩:=h;obtain⟨v',g1',g2'⟩:=h';have e1:=g1 w;have e2:=g1' w;rw[e1]at e2;obtain rfl:v=v':=by simpa using e2
  exact⟨v,g1,g2,g2'⟩
 ·rw[qj hw]at h h'⊢;exact⟨h,h'⟩
theorem EP (hs:wu ops) (hx:ops[x]?=some ox) {i:Nat} {m:Md} {oi:Oper} (hi:ops[i]?=some oi) (hix:rP ops n i x=false) {post:List (Nat×Md)}:
  ∀(pre:List (Nat×Md)) (a:Act) (w:World),(∀y∈pre,nN ops y (i,m)=true)->(∀y∈pre,(m= .pure/\nN ops (x,.ko) (i,m)=true)\/(rP ops n y.1 x=false/\nN ops y (x,.ko)=true))->
   Fq P ops Kend n x ox (pre++(i,m)::post) a w->mf P ops m oi a w (Fq P ops Kend n x ox (pre++post))
 | [],a,w,_,_,h=>by
  have:=h.2 hix;rw[hi]at this;exact this
 |(y,my)::pre,a,w,hp,hf,h=>by
  obtain⟨h1,h2⟩:=h;have hp':∀z∈pre,nN ops z (i,m)=true:=λz hz=>hp z (aI _ hz);have hf':=λz hz=>hf z (aI _ hz);have hyi:=hp (y,my) (aJ ..);cases hy:ops[y]?with
  |none=>
   unfold nN at hyi;simp only[hy]at hyi;cases hyi
  |some oy=>
   have hB:rP ops n y x=false->mf P ops m oi a w (λa w=>mf P ops my oy a w (Fq P ops Kend n x ox (pre++post))):=λhd=>by
    have g:=h2 hd;rw[hy]at g;exact HR hy hi (λcs b=>hs y oy cs b hy) (λcs b=>hs i oi cs b hi) hyi (mM (λa w g=>EP hs hx hi hix pre a w hp' hf' g) g)
   rcases hf (y,my) (aJ ..)with⟨rfl,hsx⟩|⟨hd,hsy⟩
   ·have hA:mf P ops .pure oi a w (λa w=>mf P ops .ko ox a w (wr P ops Kend ((y,my)::(pre++post)))):=
     HR hx hi (λcs b=>hs x ox cs b hx) (λcs b=>hs i oi cs b hi) hsx (mM (λa w g=>Du hs hi ((y,my)::pre) a w hp g) h1)
    by_cases hd:rP ops n y x=false
    ·refine mM (λa w g=> ?_) (I5 hA (hB hd));exact⟨g.1,λ_=>by rw[hy];exact g.2⟩
    ·exact mM (λa w g=>⟨g,λq=>absurd q hd⟩) hA
   ·exact mM (λa w g=>Aq hs hx hy hsy g) (hB hd)
def rO (ops:Array Oper) (n x:Nat):List (Nat×Md)->Bool
 | []=>true
 |y::σ=> !Nat.beq y.1 x&&(σ.all λi=>rP ops n i.1 x||rP ops n i.1 y.1||((match i.2 with| .pure=>true|_=>false)&&nN ops (x,.ko) i)||(!rP ops n y.1 x&&nN ops y (x,.ko)))&&rO ops n x σ
theorem yi {z:Nat×Md}:∀ {σ τ:List (Nat×Md)},rO ops n x (σ++z::τ)=true->rO ops n x (σ++τ)=true
 | [],τ,h=>by simp only[ce,rO,bj]at h⊢;exact h.2
 |y::σ,τ,h=>by
  simp only[bW,rO,bj,fI,fV]at h⊢;exact⟨⟨h.1.1,h.1.2.1,h.1.2.2.2⟩,yi h.2⟩
theorem A3 {i:Nat} {m:Md}:∀ {pre post:List (Nat×Md)},rO ops n x (pre++(i,m)::post)=true->∀y∈pre,y.1≠x/\(rP ops n i x=true\/rP ops n i y.1=true\/(m= .pure/\nN ops (x,.ko) (i,m)=true)\/(rP ops n y.1 x=false/\nN ops y (x,.ko)=true))
 | [],_,_,y,hy=>by cases hy
 |z::pre,post,h,y,hy=>by
  simp only[bW,rO,bj,fI,fV]at h;rcases bC.1 hy with rfl|hy
  ·refine⟨wV h.1.1,?_⟩;have h1:=h.1.2.2.1;simp only[dp,bj,fL]at h1;rcases h1 with((h1|h1)|h1)|h1
   ·exact .inl h1
   ·exact .inr (.inl h1)
   ·refine .inr (.inr (.inl ⟨?_,h1.2⟩));cases m<;>first|rfl|(exfalso;exact absurd h1.1 dD)
   ·exact .inr (.inr (.inr h1))
  ·exact A3 h.2 y hy
theorem CS:∀ {σ:List (Nat×Md)},rO ops n x σ=true->∀y∈σ,y.1≠x
 | [],_,y,hy=>by cases hy
 |z::σ,h,y,hy=>by
  simp only[rO,bj]at h;rcases bC.1 hy with rfl|hy
  ·exact wV h.1.1
  ·exact CS h.2 y hy
theorem Fc {Q:Exit->Act->World->Prop} (hs:wu ops) (hQ:∀a w,Kend a w->Q .normal a w) (hx:ops[x]?=some ox) (hxd:∀e∈ox.after,Region.binds .any e=false):
  ∀(fuel:Nat) (σ:List (Nat×Md)) (listed:Array Bool) (a:Act) (w:World),σ.length+1<=fuel->listed.size=ops.size->closed ops listed->
   (∀i,listed.getD i true=false↔i=x\/∃m,(i,m)∈σ)->oW ops n σ=true->th ops ((x,.ko)::σ)=true->rO ops n x σ=true->Fq P ops Kend n x ox σ a w->wpAny P .any ops Q fuel listed a w:=by
 intro fuel;induction fuel with
 |zero=>intro σ listed a w hlen;omega
 |succ fuel ih=>
  intro σ listed a w hlen hsz hc hl hp ht hf h;have hxun:listed.getD x true=false:=(hl x).2 (.inl rfl);refine⟨λhr=> ?_,λi hi=> ?_⟩
  ·exfalso;have hxr:x∈Region.ready .any ops listed:=im.2 ⟨hxun,ox,hx,λe he hb=>by rw[hxd e he]at hb;cases hb⟩;rw[hr]at hxr;cases hxr
  ·obtain⟨hun,oi,hoi,hdeps⟩:=im.1 hi;have hilt:i<listed.size:=by
    rcases bH i listed.size with h2|h2
    ·exact h2
    ·simp[Array.getD,f9.2 h2]at hun
   have hclosed:closed ops (listed.setIfInBounds i true):=by
    intro j o hj hjl e he hb;by_cases hji:j=i
    ·subst hji;rw[hoi]at hj;obtain rfl:=bN hj;exact jH (hdeps e he hb)
    ·rw[iF true (jI hji)]at hjl;exact jH (hc j o hj hjl e he hb)
   have hself:∀ {p:Prop},¬p->((listed.setIfInBounds i true).getD i true=false↔p):=λhnp=>
    ⟨λhf=>by simp[Array.getD,hilt]at hf,λq=>absurd q hnp⟩
   have hne:=CS hf;by_cases hix:i=x
   ·subst hix;rw[hx]at hoi;obtain rfl:=bN hoi;refine sw hx (mM (λa w hh=> ?_) (Ii h));simp only[th,bj]at ht;refine A2 hs hQ n fuel σ (listed.setIfInBounds i true) a w oO (by simpa using hsz) hclosed ?_ hp ht.2 hh;intro j;by_cases hji:j=i
    ·subst hji;exact hself λ⟨m,hm⟩=>hne _ hm rfl
    ·rw[iF true (jI hji),hl j];exact⟨λq=>q.resolve_left hji,.inr⟩
   ·obtain⟨m,hm⟩:=((hl i).1 hun).resolve_left hix;obtain⟨pre,post,rfl⟩:=List.append_of_mem hm;have hlst:∀k,listed.getD k true=false->rP ops n i k=true->False:=λk hk hd=>by
     have h2:=AU hc n i k (λo ho e he hb=>by rw[hoi]at ho;obtain rfl:=bN ho;exact hdeps e he hb) hd;rcases bH k listed.size with hlt|hlt
     ·simp only[Array.getD,hlt,gg]at h2 hk;rw[h2]at hk;cases hk
     ·simp[Array.getD,f9.2 hlt]at h2
    have hnd:∀y∈pre,y.1≠i/\(rP ops n i y.1=true\/nN ops y (i,m)=true):=by
     clear ih h hl hlen ht hm hlst hf hne;induction pre with
     |nil=>intro y hy;cases hy
     |cons z pre ihp=>
      simp only[bW,oW,bj,fI,fV]at hp;intro y hy;rcases bC.1 hy with rfl|hy
      ·have h1:=hp.1.2.1;rw[dp]at h1;exact⟨wV h1.1,h1.2⟩
      ·exact ihp hp.2 y hy
    have hpost:∀y∈post,i≠y.1:=by
     clear ih h hl hlen ht hm hnd hlst hf hne;induction pre with
     |nil=>
      simp only[ce,oW,bj]at hp;intro y hy;have:=cJ.1 hp.1 y hy;simp only[bj]at this;exact wV this.1
     |cons z pre ihp=>
      simp only[bW,oW,bj]at hp;exact ihp hp.2
    have hyun:∀y∈pre,listed.getD y.1 true=false:=λy hy=>(hl y.1).2 (.inr ⟨y.2,by simp[hy]⟩);have hsw:∀y∈pre,nN ops y (i,m)=true:=λy hy=>(hnd y hy).2.resolve_left λq=>hlst _ (hyun y hy) q;have hixd:rP ops n i x=false:=by
     cases hd:rP ops n i x with
     |false=>rfl
     |true=>exact(hlst x hxun hd).elim
    have hfl:∀y∈pre,(m= .pure/\nN ops (x,.ko) (i,m)=true)\/(rP ops n y.1 x=false/\nN ops y (x,.ko)=true):=λy hy=>by
     rcases(A3 hf y hy).2 with q|q|q
     ·rw[hixd]at q;cases q
     ·exact(hlst _ (hyun y hy) q).elim
     ·exact q
    refine sw hoi (mM (λa w hh=> ?_) (EP hs hx hoi hixd pre a w hsw hfl h));refine ih (pre++post) (listed.setIfInBounds i true) a w (by simp at hlen⊢;omega) (by simpa using hsz) hclosed ?_ (uy hp) (vK (σ:=(x,.ko)::pre) ht) (yi hf) hh;intro j;by_cases hji:j=i
    ·subst hji;refine hself ?_;rintro(q|⟨m',hm'⟩)
     ·exact hix q
     ·rcases bB.1 hm' with h1|h1
      ·exact absurd rfl (hnd _ h1).1
      ·exact absurd rfl (hpost _ h1)
    ·rw[iF true (jI hji),hl j];constructor
     ·rintro(q|⟨m',hm'⟩)
      ·exact .inl q
      ·refine .inr ⟨m',?_⟩;rcases bB.1 hm' with h1|h1
       ·simp[h1]
       ·rcases bC.1 h1 with h2|h2
        ·exact absurd (bI Prod.fst h2) hji
        ·simp[h2]
     ·rintro(q|⟨m',hm'⟩)
      ·exact .inl q
      ·refine .inr ⟨m',?_⟩;rcases bB.1 hm' with h1|h1
       ·simp[h1]
       ·simp[h1]
def K8 (ops:Array Oper) (x:Nat) (σ:List (Nat×Md)):Bool:=
 Nat.ble (σ.length+1) ops.size&&(List.range ops.size).all (λi=>Nat.beq x i||σ.any λx=>Nat.beq x.1 i)&&σ.all (λx=>Nat.blt x.1 ops.size)&&oW ops ops.size σ&&th ops ((x,.ko)::σ)&&rO ops ops.size x σ&&
 (match ops[x]?with|some o=>o.after.all λe=> !Region.binds .any e|none=>false)&&
 ops.all λo=>match o.op with| .select .. =>false|_=>true
end
structure Wx (P:Program) (ops:Array Oper) (Kend:Act->World->Prop) (x:Nat) (σ:List (Nat×Md)) (N:Nat) (ρ:Nat->Value) (w:World):Prop where
 out:wu ops->∀ox,ops[x]?=some ox->Fq P ops Kend ops.size x ox σ (act N ρ) w
section
variable {P : Program} {N : Nat} {ρ : Nat → Value} {w0 w : World} {Q : Exit → Act → World → Prop} {ops : Array Oper} {H : List kV} {Kend : Act → World → Prop} {i x : Nat} {o : Oper} {σ : List (Nat × Md)}
theorem xw {id:Nat} {l:List Oper} (x:Nat) (σ:List (Nat×Md)) (hm:P.follows .mixedOrders=true) (hchk:K8 l.toArray x σ=true) (hS:St w0 w H)
  (h:∀w',St w0 w' H->Below w.heap.size w w'->Wx P l.toArray (Q .normal) x σ N ρ w'):(Code.region id l.toArray true).wp P Q (act N ρ) w:=by
 simp only[K8,bj]at hchk;obtain⟨⟨⟨⟨⟨⟨⟨h1,h2⟩,h3⟩,h4⟩,h5⟩,h7⟩,h8⟩,h6⟩:=hchk;have hs:wu l.toArray:=by
  intro i o cs b hi hsel;have:=dx.1 h6 o (gD hi);rw[hsel]at this;cases this
 cases hx:l.toArray[x]?with
 |none=>rw[hx]at h8;cases h8
 |some ox=>
  rw[hx]at h8;have hxd:∀e∈ox.after,Region.binds .any e=false:=λe he=>by
   have:=dx.1 h8 e he;simpa using this
  have hbd:Below w.heap.size w {w with drawn:=w.drawn+1}:=(Below.refl _ w).drew;have hxlt:x<l.toArray.size:=by
   rcases bH x l.toArray.size with q|q
   ·exact q
   ·rw[gy q]at hx;cases hx
  refine wp_region_any hm (Fc (n:=l.toArray.size) hs (λ_ _ h=>h) hx hxd l.toArray.size σ _ _ _ (eE h1) (by simp) ?_ ?_ h4 h5 h7 ((h _ (hS.ko hbd) hbd).out hs ox hx))
  ·intro j o _ hl;by_cases hj:j<l.toArray.size
   ·rw[Array.getD,dif_pos (by simpa using hj)]at hl;simp at hl
   ·rename_i hjo;rw[gy oO]at hjo;cases hjo
  ·intro j;constructor
   ·intro hf;have hj:j<l.toArray.size:=by
     rcases bH j l.toArray.size with hlt|hlt
     ·exact hlt
     ·simp at hlt;simp[Array.getD,f9.2 hlt]at hf
    have:=cJ.1 h2 j (by simpa using hj);rw[dp]at this;rcases this with q|q
    ·exact .inl (cF q).symm
    ·obtain⟨y,hy,hb⟩:=dA.1 q;exact .inr ⟨y.2,by rw[<-cF hb];exact hy⟩
   ·rintro(rfl|⟨m,hm'⟩)
    ·simp at hxlt;simp[Array.getD,hxlt]
    ·have:=cJ.1 h3 _ hm';rw[gG]at this;simp at this;simp[Array.getD,this]
theorem mC {d:Option Tmp} {p:Op} {ty:TypeId} {pos:String} {aft:Array Edge} {g:Option (Nat×Bool)} (hsw:nN ops (i,.pure) (x,.ko)=true) (ho:ops[i]?=some ⟨d,p,ty,pos,aft,g⟩) (hg:gd ops N ρ g=true) (h:mb P N ρ ⟨d,p,ty,pos,aft,g⟩ λv=>Wx P ops Kend x σ N (sW ρ d v) w):Wx P ops Kend x ((i,.pure)::σ) N ρ w:=by
 refine⟨λhs ox hx=>Aq hs hx ho hsw ?_⟩;rw[nL (oN ops N ρ ⟨d,p,ty,pos,aft,g⟩ hg),ow];obtain⟨v,h1,h2⟩:=h;exact⟨v,h1,by rw[o8];exact h2.out hs ox hx⟩
theorem qF {d:Option Tmp} {p:Op} {ty:TypeId} {pos:String} {aft:Array Edge} {g:Option (Nat×Bool)} (hsw:nN ops (i,.read) (x,.ko)=true) (ho:ops[i]?=some ⟨d,p,ty,pos,aft,g⟩) (hg:gd ops N ρ g=true) (h:qU P N ρ w ⟨d,p,ty,pos,aft,g⟩ λv=>Wx P ops Kend x σ N (sW ρ d v) w):Wx P ops Kend x ((i,.read)::σ) N ρ w:=by
 refine⟨λhs ox hx=>Aq hs hx ho hsw ?_⟩;rw[sn (oN ops N ρ ⟨d,p,ty,pos,aft,g⟩ hg),ow];obtain⟨v,h1,h2⟩:=h;exact⟨v,h1,by rw[o8];exact h2.out hs ox hx⟩
theorem tF {d:Option Tmp} {p:Op} {ty:TypeId} {pos:String} {aft:Array Edge} {g:Option (Nat×Bool)} (ho:ops[i]?=some ⟨d,p,ty,pos,aft,g⟩) (hg:gd ops N ρ g=true) (hnow:Wr P ops Kend ((x,.ko)::(i,.ko)::σ) N ρ w)
  (h:pi P N ρ w ⟨d,p,ty,pos,aft,g⟩ λv w'=>Below w.heap.size w w'/\Wx P ops Kend x σ N (sW ρ d v) w'):Wx P ops Kend x ((i,.ko)::σ) N ρ w:=by
 refine⟨λhs ox hx=>⟨?_,λ_=> ?_⟩⟩
 ·have:=hnow.out;simp only[wr,hx]at this;exact this
 ·rw[ho];show mf _ _ _ _ _ _ _;rw[qI (oN ops N ρ ⟨d,p,ty,pos,aft,g⟩ hg),ow];simp only[o8];exact oB (λv w h=>⟨h.1,h.2.out hs ox hx⟩) h.out
theorem AR {m:Md} (hd:rP ops ops.size i x=true) (hnow:Wr P ops Kend ((x,.ko)::(i,m)::σ) N ρ w):Wx P ops Kend x ((i,m)::σ) N ρ w:=by
 refine⟨λhs ox hx=>⟨?_,λq=>by rw[hd]at q;cases q⟩⟩;have:=hnow.out;simp only[wr,hx]at this;exact this
end
end Go.Sx
namespace Go.Proofs.YtoeiejliehgopaaGreatDoor
open Go Go.RowKit Go.Sx
theorem yM (n:Int) (w:World) (h1: -9223372036854775808<=n) (h2:n<=9223372036854775807):
  lW Tryz.prog 38 #[.int .i64 n] w λv w'=>v=lu (j9 (n:Rat))/\Below w.heap.size w w':=by
 have hS:=St.init w;refine enter Tryz.func38 rfl Tryz.ntmps38 rfl ?_;refine J1 ?_;intro b1 wz2 hS hBz2;refine J1 ?_;refine jh (j7 Tryz.call76 rfl (Q0 n _ h1 h2) ?_);rintro _ wc3 ⟨rfl,hBc3⟩;replace hS:=hS.ko hBc3;refine J1 ?_;intro wz4 hS;refine jt ?_;refine mq (k:=0) rfl rfl ki hS rfl rfl ?_;exact⟨rfl,hS.j5⟩
theorem PA (a:Int) (n:Nat) (w:World) (h1: -9223372036854775808<=a) (h2:a<=9223372036854775807) (hn0:0<n) (hn:n<=9223372036854775807):
  lW Tryz.prog 8 #[.int .i64 a,.int .i64 n] w λv w'=>v=lu (j9 (mkRat a n))/\Below w.heap.size w w':=by
 have hS:=St.init w;refine enter Tryz.func8 rfl Tryz.ntmps8 rfl ?_;refine J1 ?_;intro b4 wz1 hS hBz1;refine J2 ?_;refine jh (j7 Tryz.call23 rfl (GH a n _ h1 h2 hn0 hn) ?_);rintro _ wc2 ⟨rfl,hBc2⟩;replace hS:=hS.ko hBc2;refine J4 ?_;intro b3 wz4 hS hBz4;refine J1 ?_;intro wz5 hS;refine J3 ?_;intro wz6 hS;refine jt ?_;refine mq (k:=1) rfl rfl ki hS rfl rfl ?_;exact⟨rfl,hS.j5⟩
theorem o9 (m n:Nat):(m:Int).tmod n=((m%n:Nat):Int):=by rw[ff oO];omega
theorem Lm (m n:Nat):(m:Int).tdiv n=((m/n:Nat):Int):=by rw[Int.tdiv_eq_ediv_of_nonneg oO];omega
theorem BL (m n:Nat) (h:m<65536):IntKind.u16.wrap ((m:Int).tdiv n)=((m/n:Nat):Int):=by
 have:=dz m n;rw[Lm,Nh];generalize m/n=q at*;omega
def oM (x:Nat):Rat:=if x%5=0 then mkRat ((x/5%23:Nat):Int) (1+x/115%6)else if x%5=1 then(((10*(x/5%4):Nat):Int):Rat)else(((x/5%13:Nat):Int):Rat)
theorem Fk {n:Nat} (h:n<256):L ((n:Int):Rat)<=1:=by
 unfold L;have h1:(kG n).size<=1:=lN oO;have h2:(kG 1).size<=1:=lN oO;exact Nat.max_le.2 ⟨h1,h2⟩
theorem xJ (x:Nat) (w:World) (hx:x<65536):
  lW Tryz.prog 20 #[.int .u16 x] w λv w'=>v=lu (j9 (oM x))/\Below w.heap.size w w':=by
 have hS:=St.init w;refine enter Tryz.func20 rfl Tryz.ntmps20 rfl ?_;refine J1 ?_;intro b2 wz1 hS hBz1;refine J1 ?_;refine jp (pY rfl rfl oO (r:=((x%5:Nat):Int)) (by exact o9 x 5) ?_);refine V2 ?_;by_cases h0:x%5=0
 ·refine V1 ?_;have e:oM x=mkRat ((x/5%23:Nat):Int) (1+x/115%6):=aj h0;rw[e];refine J1 ?_;refine jp (sF rfl rfl oO (BL x 5 hx) (jp (pY rfl rfl oO (o9 (x/5) 23) (jp (kJ rfl Tryz.underlying3 ⟨_,Tryz.underlying25⟩ (r:=((x/5%23:Nat):Int)) (by exact pP _ ⟨rfl,oO,oO⟩) ?_)))));refine J1 ?_;refine jp (sF rfl rfl oO (BL x 115 hx) (jp (pY rfl rfl oO (o9 (x/115) 6) (jp (kJ rfl Tryz.underlying3 ⟨_,Tryz.underlying25⟩ (r:=((x/115%6:Nat):Int)) (by exact pP _ ⟨rfl,oO,oO⟩) (jp (pe rfl rfl (r:=((1+x/115%6:Nat):Int)) (by exact pP _ ⟨oO,oO,oO⟩) (jh (j7 Tryz.call8 rfl (PA ((x/5%23:Nat):Int) (1+x/115%6) _ oO oO oO oO) ?_)))))))));rintro _ wc2 ⟨rfl,hBc2⟩;replace hS:=hS.ko hBc2;refine J1 ?_;intro wz3 hS;refine jt ?_;refine mq (k:=0) rfl rfl ki hS rfl rfl ?_;exact⟨rfl,hS.j5⟩
 ·refine V3 ?_;by_cases h1:x%5=1
  ·refine V1 ?_;have e:oM x=(((10*(x/5%4):Nat):Int):Rat):=by unfold oM;rw[ah h0,aj h1]
   rw[e];refine J1 ?_;refine jp (sF rfl rfl oO (BL x 5 hx) (jp (pY rfl rfl oO (o9 (x/5) 4) (jp (kJ rfl Tryz.underlying3 ⟨_,Tryz.underlying25⟩ (r:=((x/5%4:Nat):Int)) (by exact pP _ ⟨rfl,oO,oO⟩) (jp (ws rfl rfl (r:=((10*(x/5%4):Nat):Int)) (by exact pP _ ⟨oO,oO,oO⟩) (jh (j7 Tryz.call38 rfl (yM ((10*(x/5%4):Nat):Int) _ oO oO) ?_)))))))));rintro _ wc4 ⟨rfl,hBc4⟩;replace hS:=hS.ko hBc4;refine J1 ?_;intro wz5 hS;refine jt ?_;refine mq (k:=0) rfl rfl ki hS rfl rfl ?_;exact⟨rfl,hS.j5⟩
  ·refine V1 ?_;have e:oM x=(((x/5%13:Nat):Int):Rat):=by unfold oM;rw[ah h0,ah h1]
   rw[e];refine J1 ?_;refine jp (sF rfl rfl oO (BL x 5 hx) (jp (pY rfl rfl oO (o9 (x/5) 13) (jp (kJ rfl Tryz.underlying3 ⟨_,Tryz.underlying25⟩ (r:=((x/5%13:Nat):Int)) (by exact pP _ ⟨rfl,oO,oO⟩) (jh (j7 Tryz.call38 rfl (yM ((x/5%13:Nat):Int) _ oO oO) ?_)))))));rintro _ wc6 ⟨rfl,hBc6⟩;replace hS:=hS.ko hBc6;refine J1 ?_;intro wz7 hS;refine jt ?_;refine mq (k:=0) rfl rfl ki hS rfl rfl ?_;exact⟨rfl,hS.j5⟩
theorem tE:∀x,(tg x).length=1:=λ_=>rfl
end Go.Proofs.YtoeiejliehgopaaGreatDoor
namespace Go.Sx
open Go Go.RowKit
section
variable {P : Program} {ops : Array Oper}
def yE (M:List Nat):List Edge->Nat
 | []=>0
 |e::l=>bif Region.binds .any e then(2^e.on|||M.getD e.on 0)|||yE M l else yE M l
def wN (i:Nat):List Edge->Bool
 | []=>true
 |e::l=>(!Region.binds .any e||Nat.blt e.on i)&&wN i l
def xN (M:List Nat):List Oper->Nat->Bool
 | [],_=>true
 |o::l,i=>wN i o.after.toList&&Nat.beq (M.getD i 0) (yE M o.after.toList)&&xN M l (i+1)
theorem EC:∀n i h,rP ops n i h=true->rP ops (n+1) i h=true
 |0,i,h,ht=>by cases ht
 |n+1,i,h,ht=>by
  unfold rP at ht⊢;cases ho:ops[i]?with
  |none=>rw[ho]at ht;cases ht
  |some o=>
   rw[ho]at ht;simp only[ij,bj,dp]at ht⊢;obtain⟨e,he,hb,h1⟩:=ht;exact⟨e,he,hb,h1.imp id (EC n e.on h)⟩
theorem EA {n m i h:Nat} (hnm:n<=m) (ht:rP ops n i h=true):rP ops m i h=true:=by
 induction hnm with
 |refl=>exact ht
 |step _ ih=>exact EC _ _ _ ih
theorem yy {M:List Nat} {h:Nat}:∀ {l:List Edge},(yE M l).testBit h=true->∃e∈l,Region.binds .any e=true/\(e.on=h\/(M.getD e.on 0).testBit h=true)
 | [],hb=>by simp[yE]at hb
 |e::l,hb=>by
  unfold yE at hb;cases hbi:Region.binds .any e with
  |false=>
   rw[hbi]at hb;obtain⟨e',he',h'⟩:=yy hb;exact⟨e',aI _ he',h'⟩
  |true=>
   rw[hbi]at hb;simp only[cond_true,Nat.testBit_or,dp]at hb;rcases hb with(hb|hb)|hb
   ·rw[Nat.testBit_two_pow]at hb;exact⟨e,aJ ..,hbi,.inl (gl hb)⟩
   ·exact⟨e,aJ ..,hbi,.inr hb⟩
   ·obtain⟨e',he',h'⟩:=yy hb;exact⟨e',aI _ he',h'⟩
theorem A7 {i:Nat}:∀ {l:List Edge},wN i l=true->∀e∈l,Region.binds .any e=true->e.on<i
 | [],_,e,he,_=>by cases he
 |x::l,h,e,he,hb=>by
  simp only[wN,bj,dp]at h;rcases bC.1 he with rfl|he
  ·rcases h.1 with q|q
   ·rw[hb]at q;cases q
   ·rwa[gG]at q
  ·exact A7 h.2 e he hb
theorem Cw {M:List Nat}:∀ {l:List Oper} {k:Nat},xN M l k=true->∀j o,l[j]?=some o->wN (k+j) o.after.toList=true/\M.getD (k+j) 0=yE M o.after.toList
 | [],k,_,j,o,ho=>by simp at ho
 |x::l,k,h,j,o,ho=>by
  simp only[xN,bj]at h;cases j with
  |zero=>
   simp only[List.getElem?_cons_zero,gn]at ho;subst ho;exact⟨h.1.1,cF h.1.2⟩
  |succ j=>
   have:=Cw h.2 j o (by simpa using ho);rw[show k+(j+1)=k+1+j by omega];exact this
theorem HM {l:List Oper} {M:List Nat} (hM:xN M l 0=true) (hML:M.length=l.length):∀i h,(M.getD i 0).testBit h=true->rP l.toArray (i+1) i h=true:=by
 intro i;induction i using Nat.strongRecOn with
 |_ i ih=>
  intro h hb;have hil:i<l.length:=by
   rcases bH i l.length with q|q
   ·exact q
   ·rw[ai,dg oO]at hb;simp at hb
  have ho:l[i]?=some l[i]:=aG hil;have hat:=Cw hM i _ ho;rw[bZ]at hat;rw[hat.2]at hb;obtain⟨e,he,hbi,h1⟩:=yy hb;have hlt:=A7 hat.1 e he hbi;unfold rP;rw[iZ,ho];simp only[ij,bj,dp];refine⟨e,by simpa using he,hbi,?_⟩;rcases h1 with q|q
  ·exact .inl (by rw[q];exact Nat.beq_refl h)
  ·exact .inr (EA oO (ih e.on hlt h q))
def zP (ops:Array Oper) (M:List Nat):List (Nat×Md)->Bool
 | []=>true
 |i::σ=>(σ.all λj=> !Nat.beq i.1 j.1&&((M.getD j.1 0).testBit i.1||nN ops i j))&&zP ops M σ
theorem z0 {l:List Oper} {M:List Nat} (hM:xN M l 0=true) (hML:M.length=l.length):∀ {σ:List (Nat×Md)},(∀x∈σ,x.1<l.length)->zP l.toArray M σ=true->oW l.toArray l.length σ=true
 | [],_,_=>rfl
 |i::σ,hlt,h=>by
  simp only[zP,bj,cJ,dp]at h;simp only[oW,bj,cJ,dp];refine⟨λj hj=>⟨(h.1 j hj).1,(h.1 j hj).2.imp (λq=> ?_) id⟩,z0 hM hML (λx hx=>hlt x (aI _ hx)) h.2⟩;have:=hlt j (aI _ hj);exact EA oO (HM hM hML _ _ q)
def FP (l:List Oper) (M:List Nat) (σ:List (Nat×Md)):Bool:=
 Nat.ble σ.length l.length&&(List.range l.length).all (λi=>σ.any λx=>Nat.beq x.1 i)&&σ.all (λx=>Nat.blt x.1 l.length)&&(Nat.beq M.length l.length&&xN M l 0&&zP l.toArray M σ)&&th l.toArray σ&&
 l.all λo=>match o.op with| .select .. =>false|_=>true
theorem GZ {l:List Oper} {M:List Nat} {σ:List (Nat×Md)} (h:FP l M σ=true):Fs l.toArray σ=true:=by
 simp only[FP,bj]at h;obtain⟨⟨⟨⟨⟨h1,h2⟩,h3⟩,⟨⟨h4,h5⟩,h6⟩⟩,h7⟩,h8⟩:=h;have hs:l.toArray.size=l.length:=by simp
 simp only[Fs,bj,hs];refine⟨⟨⟨⟨⟨h1,h2⟩,h3⟩,z0 h5 (cF h4) (λx hx=> ?_) h6⟩,h7⟩,?_⟩
 ·have:=cJ.1 h3 x hx;rwa[gG]at this
 ·rw[<-hs,dx];intro x hx;have hx:=cJ.1 h8 x (by simpa using hx);cases hop:x.op<;>first|rfl|(rw[hop]at hx;cases hx)
end
section
variable {P : Program} {N : Nat} {ρ : Nat → Value} {w0 w : World} {Q : Exit → Act → World → Prop} {H : List kV}
theorem nb {C:Code} {ρ:Nat->Value} {w:World} (M:(Nat->Value)->Prop) (h0:M ρ) (h:∀ρ,M ρ->C.wp P Q (act N ρ) w):C.wp P Q (act N ρ) w:=h ρ h0
theorem RZ {id:Nat} {l:List Oper} (M:List Nat) (σ:List (Nat×Md)) (hm:P.follows .mixedOrders=true) (hchk:FP l M σ=true) (hS:St w0 w H)
  (h:∀w',St w0 w' H->Below w.heap.size w w'->Wr P l.toArray (Q .normal) σ N ρ w'):(Code.region id l.toArray true).wp P Q (act N ρ) w:=
 kE σ hm (GZ hchk) hS h
end
open Go Go.RowKit Go.ChangeShapes Go.WideShapes Go.Proofs.YtoeiejliehgopaaGreatDoor
section
variable {H : Type} {enc : TypeId × Value → H} {P : Program} {w : World}
theorem add_add (a:Addr) (m n:Nat):(a.add m).add n=a.add (m+n):=by
 obtain⟨b,o,s⟩:=a;unfold Addr.add;by_cases hn:n=0
 ·subst hn;simp
 ·by_cases hm:m=0
  ·subst hm;simp[hn]
  ·simp[hn,hm,dR]
theorem at_one {a:Addr} {u:Value} (h:w.cell? a=some u):At w a [u]:=At.one h
theorem D9 {t e:TypeId} {v:Value} {d:DataW H} {ps:List MemPlace} {b0:Nat} (ht:P.underlying t=some (.slice e)) (he:P.underlying e=some (.int .u16)) (hc:P.cellsOf e=1)
  (hval:Value.okWide P w .any b0 t v) (h:DataW.Trod enc P w 0 (λ_=>true) true t v d ps):∃l:List Nat,Sl (uk .u16) 1 w v l/\∀x∈l,x<65536:=by
 obtain⟨a0,len0,cap0,rfl⟩:=okWide_slice ht hval;obtain⟨fuel,hf⟩:=h;rcases open_ints ht he hc hf with⟨h1,_⟩|⟨a,len,cap,zs,h1,_,hlc,hm,hz,_,hcell,hw⟩
 ·simp only[Value.cells,fY,and_true]at h1;rw[h1];exact⟨[],Sl.nil _ _ _,λx hx=>by cases hx⟩
 ·simp only[Value.cells,fY,and_true]at h1;rw[h1];have hzl:zs.length=cap:=by simpa using hz
  have hb:∀n∈zs,0<=n/\n<=65535:=λn hn=>bounds_u16 (hw n hn);have hl:((zs.take len).map Int.toNat).length=len:=by rw[aO,cG];omega
  refine⟨(zs.take len).map Int.toNat,⟨⟨some a,cap,by rw[hl],by rw[hl];exact hlc,hm,λq=>by cases q⟩,λi hi=> ?_⟩,λx hx=> ?_⟩
  ·rw[hl]at hi;have hi2:i<zs.length:=oO;have h2:=hcell i hi2;have h3:zs.getD i 0=zs[i]:=by rw[ai,aG hi2];rfl
   have h4:=hb _ (jU hi2);rw[eC];refine at_one ?_;show w.cell? (a.add i)=_;rw[h2,h3,en,iu,fA h4.1]
  ·obtain⟨z,hz2,rfl⟩:=bT.1 hx;have:=hb z (gP hz2);omega
theorem Ek (hl:laidOutB P=true) {w':World} (hb:Below w.heap.size w w'):∀ {ts:List TypeId} {vs:List Value} {ds:List (DataW H)} {ps:List MemPlace},(∀t∈ts,P.readableRec t=true/\t<P.types.size)->(∀x∈ps,x.block<w.heap.size)->
  DataW.TrodAll enc P w 0 (λ_=>true) true ts vs ds ps->DataW.TrodAll enc P w' 0 (λb=>decide (b<w.heap.size)) true ts vs ds ps
 | [],[],[],_,_,_,h=>h
 |t::ts,v::vs,d::ds,ps,hT,hlt,⟨p,q,h1,h2,e⟩=>by
  subst e;exact⟨p,q,Below.trod hl (hT t (aJ ..)).1 (hT t (aJ ..)).2 h1 hb (λx hx=>hlt x (fM _ hx)),
   Ek hl hb (λt ht=>hT t (aI _ ht)) (λx hx=>hlt x (iX _ hx)) h2,rfl⟩
 | [],[],_::_,_,_,_,h=>h.elim
 | [],_::_,[],_,_,_,h=>h.elim
 | [],_::_,_::_,_,_,_,h=>h.elim
 |_::_,[],[],_,_,_,h=>h.elim
 |_::_,[],_::_,_,_,_,h=>h.elim
 |_::_,_::_,[],_,_,_,h=>h.elim
theorem Qv {f:Func} {s:ChangeSpec} {w':World} {args:Array Value} {v:Value} {ds gs:List (DataW H)} {before:List MemPlace} (hl:laidOutB P=true)
  (hW:DataW.Whole enc P f.params.toList s.vars false w args.toList ds gs before) (hT:∀t∈f.params.toList,P.readableRec t=true/\t<P.types.size) (hv:s.vars=[]) (hb:Below w.heap.size w w')
  (hres:DataW.TrodAll enc P w' w.heap.size (λ_=>false) false f.resultTypes.toList (v.resultList f.resultTypes.size) (s.fn H (ds++gs)).results []) (hargs:(s.fn H (ds++gs)).args=ds) (hvars:(s.fn H (ds++gs)).vars=[]):
  s.post enc P f false true false false w args v w':=by
 have hlt:∀x∈before,x.block<w.heap.size:=λx hx=>hW.lt x hx;have hW2:=hW;obtain⟨p,q,h1,h2,rfl,_,_⟩:=hW;rw[hv]at h2;obtain⟨rfl,rfl⟩:=trodVars_none h2;rw[aK]at hlt;refine⟨ds,[],_,[],p,[],hW2,hres,?_,?_,hb.frame _,λq=>by cases q⟩
 ·rw[hargs];exact Ek hl hb hT hlt h1
 ·rw[hvars,hv];exact rfl
end
end Go.Sx
namespace Go.Proofs.YtoeiejliehgopaaGreatDoor
open Go Go.RowKit Go.Sx Go.ChangeShapes Go.WideShapes Go.ChangeAt
theorem RT:ownKnob Tryz.prog.godebug=none:=by kernel_rfl
theorem laidOut:laidOutB Tryz.prog=true:=by kernel_rfl
end Go.Proofs.YtoeiejliehgopaaGreatDoor
namespace Go.Sx
open Go Go.RowKit
section
variable {P : Program} {N : Nat} {ρ : Nat → Value} {w0 w w' : World}
  {d : Option Tmp} {ty : TypeId} {pos : String} {aft : Array Edge} {g : Option (Nat × Bool)} {x y z : Operand} {t t' e : TypeId} {H : List kV} {k b o : Nat} {v : Value} {K : Value → Prop} {K2 : Value → World → Prop}
theorem I9 {α:Type} {enc:α->List Value} {size:Nat} (hu:∀x,(enc x).length=size) (L:List α) (sp:List Value) (d:α) {i:Nat} (hi:i<L.length):((L.flatMap enc++sp).drop (i*size)).take size=enc (L.getD i d):=by
 have h1:(i+1)*size<=L.length*size:=aH _ hi;rw[bl]at h1;have h2:=lK hu L;rw[fE oO,fD (by rw[eN];omega)];exact ES hu L d hi
theorem NE {α:Type} {enc:α->List Value} {size:Nat} (hu:∀x,(enc x).length=size) (L:List α) (sp:List Value) (x:α) {i:Nat} (hi:i<L.length):splice (L.flatMap enc++sp) (i*size) (enc x)=(L.set i x).flatMap enc++sp:=by
 have h1:(i+1)*size<=L.length*size:=aH _ hi;rw[bl]at h1;have h2:=lK hu L;rw[<-xd hu L x hi];unfold splice;rw[fD oO,fE (by rw[hu];omega)];simp
theorem Ci {α:Type} {enc:α->List Value} {size:Nat} {L:List α} {sp:List Value} {i:Nat} {zz:List Value} {agg:Bool} (dd:α) (hu:∀x,(enc x).length=size) (hx:ev N ρ x= .pointer (some ⟨b,o,none⟩)) (ht:lS P t=some (size,agg,zz)) (hS:St w0 w H) (hk:H[k]?=some (b,t',L.flatMap enc++sp))
  (ho:o=i*size) (hi:i<L.length) (hv:RE agg (enc (L.getD i dd))=v) (hagg:agg=true\/size=1) (h:K v):qU P N ρ w ⟨d,.load t x,ty,pos,aft,g⟩ K:=by
 subst ho;have hat:=hS.at hk (i*size) size;rw[I9 hu L sp dd hi]at hat;exact oL hx ht hat (hu _) hv hagg h
theorem Cq {α:Type} {enc:α->List Value} {size:Nat} {L:List α} {sp:List Value} {i:Nat} {zz:List Value} {agg:Bool} (u:α) (hu:∀x,(enc x).length=size) (hx:ev N ρ x= .pointer (some ⟨b,o,none⟩)) (hy:ev N ρ y=v) (ht:lS P t=some (size,agg,zz)) (hS:St w0 w H) (hk:H[k]?=some (b,t',L.flatMap enc++sp))
  (ho:o=i*size) (hi:i<L.length) (hv:v.cells.toList=enc u) (h1:(enc u).all (·.oneCell')=true)
  (h:∀w',St w0 w' (H.set k (b,t',(L.set i u).flatMap enc++sp))->K2 undef w'):pi P N ρ w ⟨d,.store t x y,ty,pos,aft,g⟩ K2:=by
 subst ho;refine lG hx hy ht hS hk hv (hu u) ?_ h1 (λw' hS'=> ?_)
 ·rw[aw,lK hu];have:(i+1)*size<=L.length*size:=aH _ hi;rw[bl]at this;omega
 ·rw[NE hu L sp u hi]at hS';exact h w' hS'
theorem mN {a:Addr} (hx:ev N ρ x= .pointer (some a)) (h:K (.pointer (some a))):mb P N ρ ⟨d,.nilCheck x,ty,pos,aft,g⟩ K:=
 ⟨_,λw=>(by simp[execOp,hx]),h⟩
theorem PF {fn:Fn} (hx:ev N ρ x=v) (h:K (.func fn #[] #[v])):mb P N ρ ⟨d,.makeFunc fn #[] #[x],ty,pos,aft,g⟩ K:=
 ⟨_,λw=>(by simp[execOp,hx,Instr.makeFunc]),h⟩
theorem St.Xx {α:Type} {enc:α->List Value} {size:Nat} {L:List α} {sp:List Value} (h:St w0 w H) (hk:H[k]?=some (b,t,L.flatMap enc++sp)) (hu:∀x,(enc x).length=size) {n cap:Nat} (hn:n<=L.length) (h1:n<=cap) (h2:cap<=9223372036854775807):
  Sl enc size w (.slice (some ⟨b,0,none⟩) n cap) (L.take n):=by
 have hl:(L.take n).length=n:=by rw[cG];omega
 have e:L.flatMap enc++sp=(L.take n).flatMap enc++((L.drop n).flatMap enc++sp):=by
  rw[<-aF,<-dk,da]
 rw[e]at hk;have:=h.sl (enc:=enc) (size:=size) (L:=L.take n) (spare:=(L.drop n).flatMap enc++sp) (cap:=cap) hk rfl hu (by rw[hl];exact h1) (by unfold Go.maxLen;omega);rwa[hl]at this
end
section
variable {α : Type}
def zH (lt:α->α->Bool) (S:List α) (x:α):List α:=(S.reverse.dropWhile (lt x)).reverse++x::(S.reverse.takeWhile (lt x)).reverse
def sJ (lt:α->α->Bool) (L:List α):List α:=L.foldl (zH lt) []
theorem Io {lt:α->α->Bool} {A B:List α} {x:α} (hB:∀y∈B,lt x y=true) (hA:∀y,A.getLast?=some y->lt x y=false):zH lt (A++B) x=A++x::B:=by
 have h1:A.reverse.takeWhile (lt x)=[]/\A.reverse.dropWhile (lt x)=A.reverse:=by
  cases h:A.reverse with
  |nil=>exact⟨rfl,rfl⟩
  |cons y t=>
   have hy:A.getLast?=some y:=by rw[<-List.head?_reverse,h];rfl
   have:=hA y hy;simp[this]
 unfold zH;rw[ji,List.takeWhile_append_of_pos (λy hy=>hB y (dV.1 hy)),List.dropWhile_append_of_pos (λy hy=>hB y (dV.1 hy)),h1.1,h1.2];simp
theorem JG (lt:α->α->Bool) (L:List α) (x:α):sJ lt (L++[x])=zH lt (sJ lt L) x:=by unfold sJ;rw[ey];rfl
theorem G2 (lt:α->α->Bool) (S:List α) (x:α):∃A B,S=A++B/\zH lt S x=A++x::B/\(∀y∈B,lt x y=true)/\∀y,A.getLast?=some y->lt x y=false:=by
 refine⟨(S.reverse.dropWhile (lt x)).reverse,(S.reverse.takeWhile (lt x)).reverse,?_,rfl,λy hy=> ?_,λy hy=> ?_⟩
 ·rw[<-ji,List.takeWhile_append_dropWhile,gO]
 ·rw[dV]at hy;generalize S.reverse=T at hy;induction T with
  |nil=>cases hy
  |cons z T ih=>
   rw[List.takeWhile_cons]at hy;split at hy
   ·next h=>
    rcases bC.1 hy with rfl|hy
    ·exact h
    ·exact ih hy
   ·cases hy
 ·rw[List.getLast?_reverse]at hy;generalize S.reverse=T at hy;induction T with
  |nil=>cases hy
  |cons z T ih=>
   rw[List.dropWhile_cons]at hy;split at hy
   ·exact ih hy
   ·next h=>
    obtain rfl:z=y:=bN hy;exact Bool.eq_false_iff.2 h
theorem IX (lt:α->α->Bool) (S:List α) (x:α):(zH lt S x).Perm (x::S):=by
 obtain⟨A,B,rfl,e,_⟩:=G2 lt S x;rw[e];exact List.perm_middle
theorem qJ (lt:α->α->Bool) (L:List α):(sJ lt L).Perm L:=by
 have key:∀(L S:List α),(L.foldl (zH lt) S).Perm (S++L):=by
  intro L;induction L with
  |nil=>intro S;simp
  |cons x L ih=>
   intro S;rw[List.foldl_cons];refine(ih _).trans ?_;refine((IX lt S x).append_right L).trans ?_;exact List.perm_middle.symm
 have:=key L [];rwa[ce]at this
theorem Aj (lt:α->α->Bool) (L:List α):(sJ lt L).length=L.length:=(qJ lt L).length_eq
end
end Go.Sx
namespace Go.Proofs.YtoeiejliehgopaaGreatDoor
open Go Go.RowKit Go.Sx
theorem OR (p q:Rat) (X Y:Nat):mkRat (sg (decide (p.num<0)!=decide (q.num<0)) X) Y=mkRat (sg (decide (p.num<0)) 1*sg (decide (q.num<0)) 1*X) Y:=by
 congr 1;by_cases h1:p.num<0<;>by_cases h2:q.num<0<;>simp[h1,h2,sg]
theorem FL (n:Int):sg (decide (n<0)) 1*(n.natAbs:Int)=n:=by
 by_cases h:n<0
 ·simp[h,sg];omega
 ·simp[h,sg];omega
theorem R4 (p q:Rat):mkRat (sg (decide (p.num<0)!=decide (q.num<0)) (p.num.natAbs*q.num.natAbs)) (p.den*q.den)=p*q:=by
 rw[OR];have e:sg (decide (p.num<0)) 1*sg (decide (q.num<0)) 1*((p.num.natAbs*q.num.natAbs:Nat):Int)=p.num*q.num:=by
  have h1:=FL p.num;have h2:=FL q.num;calc _=(sg (decide (p.num<0)) 1*(p.num.natAbs:Int))*(sg (decide (q.num<0)) 1*(q.num.natAbs:Int)):=by push_cast;grind
   _=_:=by rw[h1,h2]
 rw[e];conv=>rhs;rw[<-eu p,<-eu q]
 exact(Rat.mkRat_mul_mkRat _ _ _ _).symm
theorem Q3 (p q:Rat):mkRat (sg (decide (p.num<0)!=decide (q.num<0)) (p.num.natAbs*q.den)) (p.den*q.num.natAbs)=p/q:=by
 by_cases hq:q=0
 ·subst hq;simp[Rat.mkRat_zero,bR]
 have hqn:q.num.natAbs≠0:=λh=>hq (fG.1 (jD.1 h));have key:mkRat (sg (decide (p.num<0)!=decide (q.num<0)) (p.num.natAbs*q.den)) (p.den*q.num.natAbs)*q=p:=by
  rw[OR];conv=>lhs;rhs;rw[<-eu q]
  rw[Rat.mkRat_mul_mkRat];have h1:=FL p.num;have h2:=FL q.num;have hs:sg (decide (q.num<0)) 1*sg (decide (q.num<0)) 1=1:=by
   by_cases h:q.num<0<;>simp[h,sg]
  have e:sg (decide (p.num<0)) 1*sg (decide (q.num<0)) 1*((p.num.natAbs*q.den:Nat):Int)*q.num=p.num*((q.num.natAbs*q.den:Nat):Int):=by
   calc _=(sg (decide (p.num<0)) 1*(p.num.natAbs:Int))*(sg (decide (q.num<0)) 1*q.num*(q.den:Int)):=by push_cast;grind
    _=p.num*(sg (decide (q.num<0)) 1*(sg (decide (q.num<0)) 1*(q.num.natAbs:Int))*(q.den:Int)):=by rw[h1,h2]
    _=p.num*((sg (decide (q.num<0)) 1*sg (decide (q.num<0)) 1)*(q.num.natAbs:Int)*(q.den:Int)):=by grind
    _=_:=by rw[hs];push_cast;grind
  rw[e,bf];have:=i9 (n:=p.num) (d:=p.den) (a:=q.num.natAbs*q.den) (fW hqn q.den_nz);rw[this,eu]
 rw[<-key,bR,iz,bX _ hq,fp,key]
theorem rE (r s:RR) (w:World) (hr:Lr r+Lr s<=MX):
  lW Tryz.prog 11 #[lu r,lu s] w λv w'=>v=lu (j9 (toQ r*toQ s))/\Below w.heap.size w w':=by
 have hM:MX=1099511627776:=rfl;have hL1:=uK r;have hL2:=uK s;obtain⟨p,hp⟩:=jz (toQ r);obtain⟨q,hq⟩:=jz (toQ s);have hc1:=λw=>nX r w (show Lr r<=MX by omega);have hc2:=λw=>nX s w (show Lr s<=MX by omega);unfold fx at hc1 hc2;rw[<-hp]at hL1 hc1⊢;rw[<-hq]at hL2 hc2⊢;have hn1:=tU p;have hn2:=tU q;have hd1:=to p;have hd2:=to q;have hm1:=lO p.num.natAbs q.num.natAbs;have hm2:=lO p.den q.den;have hD2:val (kG (p.den*q.den))≠0:=by rw[li];exact fW p.den_nz q.den_nz
 have hred:=λw=>rX (decide (p.num<0)!=decide (q.num<0)) (kG (p.num.natAbs*q.num.natAbs)) (kG (p.den*q.den)) w oO oO hD2;rw[li,li,R4]at hred;have hS:=St.init w;refine enter Tryz.func11 rfl Tryz.ntmps11 rfl ?_;refine jr ?_;refine jh (lj (new:=j6 r) rfl rfl hS ?_);intro b1 wz2 hS hBz2;refine jh (lj (new:=j6 s) rfl rfl hS ?_);intro b3 wz4 hS hBz4;refine J1 ?_;intro b5 wz6 hS hBz6;refine ja ?_;refine kE [ju 0,ju 2,jv 1,jv 3,jw 4,jw 5] kR kR hS ?_;intro wz7 hS hBz7;refine J2 ?_;refine jn rfl (j7 Tryz.call28 rfl (hc1 _) ?_);rintro _ wc8 ⟨rfl,hBc8⟩;replace hS:=hS.ko hBc8;refine⟨hBc8,?_⟩;refine jn rfl (j7 Tryz.call28 rfl (hc2 _) ?_);rintro _ wc9 ⟨rfl,hBc9⟩;replace hS:=hS.ko hBc9;refine⟨hBc9,?_⟩;refine J1 ?_;intro wz10 hS;refine J1 ?_;intro wz11 hS;refine ja ?_;refine kE [jo 0,ju 1,jo 2,ju 3,jo 4,jo 5,ju 6,jo 7,ju 8,ju 10,ju 12,jv 9,jv 11,jv 13,jv 14,jv 15,jw 16] kR kR hS ?_;intro wz12 hS hBz12;refine J4 ?_;refine jl rfl (Co rfl rfl Tryz.underlying4 ?_);refine J6 ?_;refine jn rfl (j7 Tryz.call30 rfl (wB p.num.natAbs q.num.natAbs _ oO oO) ?_);rintro _ wc13 ⟨rfl,hBc13⟩;replace hS:=hS.ko hBc13;refine⟨hBc13,?_⟩;refine jn rfl (j7 Tryz.call31 rfl (tT p _) ?_);rintro _ wc14 ⟨rfl,hBc14⟩;replace hS:=hS.ko hBc14;refine⟨hBc14,?_⟩;refine jn rfl (j7 Tryz.call31 rfl (tT q _) ?_);rintro _ wc15 ⟨rfl,hBc15⟩;replace hS:=hS.ko hBc15;refine⟨hBc15,?_⟩;refine jn rfl (j7 Tryz.call30 rfl (wB p.den q.den _ oO oO) ?_);rintro _ wc16 ⟨rfl,hBc16⟩;replace hS:=hS.ko hBc16;refine⟨hBc16,?_⟩;refine jn rfl (j7 Tryz.call29 rfl (hred _) ?_);rintro _ wc17 ⟨rfl,hBc17⟩;replace hS:=hS.ko hBc17;refine⟨hBc17,?_⟩;refine J1 ?_;intro wz18 hS;refine jt ?_;refine mq (k:=0) rfl rfl ki hS rfl rfl ?_;exact⟨rfl,hS.j5⟩
theorem Hx (b:Bool) (num den:ByteArray) (w:World) (hn:num.size<=2*MX) (hd:den.size<=2*MX) (h0:val den≠0):
  lW Tryz.prog 146 #[.bool b,.string num,.string den] w λv w'=>v= .tuple #[lu (j9 (mkRat (sg b (val num)) (val den))),.bool true]/\Below w.heap.size w w':=by
 have hM:MX=1099511627776:=rfl;have hS:=St.init w;refine enter Tryz.func146 rfl Tryz.ntmps146 rfl ?_;refine J1 ?_;intro b1 wz2 hS hBz2;refine J2 ?_;refine jh (j7 Tryz.call66 rfl (nk _ _ (show den.size<=_ by omega)) ?_);rintro _ wq3 ⟨rfl,hq3⟩;replace hq3:=hq3.symm;subst hq3;refine jp (tr rfl rfl ?_);refine ja ?_;refine lx rfl (ae (λh=>h0 (ob.1 h))) ?_;refine J3 ?_;refine jh (j7 Tryz.call29 rfl (rX b num den _ hn hd h0) ?_);rintro _ wc4 ⟨rfl,hBc4⟩;replace hS:=hS.ko hBc4;refine J1 ?_;intro wz5 hS;refine J1 ?_;refine jt ?_;refine nj (k:=0) rfl rfl rfl ki hS rfl rfl ?_;exact⟨rfl,hS.j5⟩
theorem wh (r s:RR) (w:World) (hr:Lr r+Lr s<=MX) (hs:toQ s≠0):
  lW Tryz.prog 108 #[lu r,lu s] w λv w'=>v= .tuple #[lu (j9 (toQ r/toQ s)),.bool true]/\Below w.heap.size w w':=by
 have hM:MX=1099511627776:=rfl;have hL1:=uK r;have hL2:=uK s;obtain⟨p,hp⟩:=jz (toQ r);obtain⟨q,hq⟩:=jz (toQ s);have hc1:=λw=>nX r w (show Lr r<=MX by omega);have hc2:=λw=>nX s w (show Lr s<=MX by omega);unfold fx at hc1 hc2;rw[<-hp]at hL1 hc1⊢;rw[<-hq]at hL2 hc2 hs⊢;have hn1:=tU p;have hn2:=tU q;have hd1:=to p;have hd2:=to q;have hm1:=lO p.num.natAbs q.den;have hm2:=lO p.den q.num.natAbs;have hqn:q.num.natAbs≠0:=λh=>hs (fG.1 (jD.1 h));have hD2:val (kG (p.den*q.num.natAbs))≠0:=by rw[li];exact fW p.den_nz hqn
 have hred:=λw=>Hx (decide (p.num<0)!=decide (q.num<0)) (kG (p.num.natAbs*q.den)) (kG (p.den*q.num.natAbs)) w oO oO hD2;rw[li,li,Q3]at hred;have hS:=St.init w;refine enter Tryz.func108 rfl Tryz.ntmps108 rfl ?_;refine jr ?_;refine jh (lj (new:=j6 r) rfl rfl hS ?_);intro b1 wz2 hS hBz2;refine jh (lj (new:=j6 s) rfl rfl hS ?_);intro b3 wz4 hS hBz4;refine J1 ?_;intro b5 wz6 hS hBz6;refine V1 ?_;refine kE [ju 0,ju 2,jv 1,jv 3,jw 4,jw 5] kR kR hS ?_;intro wz7 hS hBz7;refine J2 ?_;refine jn rfl (j7 Tryz.call28 rfl (hc1 _) ?_);rintro _ wc8 ⟨rfl,hBc8⟩;replace hS:=hS.ko hBc8;refine⟨hBc8,?_⟩;refine jn rfl (j7 Tryz.call28 rfl (hc2 _) ?_);rintro _ wc9 ⟨rfl,hBc9⟩;replace hS:=hS.ko hBc9;refine⟨hBc9,?_⟩;refine J1 ?_;intro wz10 hS;refine J1 ?_;intro wz11 hS;refine ja ?_;refine kE [jo 0,ju 1,jo 2,ju 3,jo 4,jo 5,ju 6,ju 7,ju 10,jo 12,ju 13,jv 8,jv 9,jv 11,jv 14,jv 15,jo 16,jo 17,jw 18,jo 19] kR kR hS ?_;intro wz12 hS hBz12;refine J4 ?_;refine jl rfl (Co rfl rfl Tryz.underlying4 ?_);refine J6 ?_;refine jn rfl (j7 Tryz.call31 rfl (tT q _) ?_);rintro _ wc13 ⟨rfl,hBc13⟩;replace hS:=hS.ko hBc13;refine⟨hBc13,?_⟩;refine jn rfl (j7 Tryz.call30 rfl (wB p.num.natAbs q.den _ oO oO) ?_);rintro _ wc14 ⟨rfl,hBc14⟩;replace hS:=hS.ko hBc14;refine⟨hBc14,?_⟩;refine jn rfl (j7 Tryz.call31 rfl (tT p _) ?_);rintro _ wc15 ⟨rfl,hBc15⟩;replace hS:=hS.ko hBc15;refine⟨hBc15,?_⟩;refine jn rfl (j7 Tryz.call30 rfl (wB p.den q.num.natAbs _ oO oO) ?_);rintro _ wc16 ⟨rfl,hBc16⟩;replace hS:=hS.ko hBc16;refine⟨hBc16,?_⟩;refine jn rfl (j7 Tryz.call146 rfl (hred _) ?_);rintro _ wc17 ⟨rfl,hBc17⟩;replace hS:=hS.ko hBc17;refine⟨hBc17,?_⟩;refine J3 ?_;intro wz18 hS;refine J1 ?_;refine jt ?_;refine nj (k:=0) rfl rfl rfl ki hS rfl rfl ?_;exact⟨rfl,hS.j5⟩
theorem yA (r:RR) (w:World) (hr:Lr r<=MX):
  lW Tryz.prog 105 #[lu r] w λv w'=>v=lu (j9 (-toQ r))/\Below w.heap.size w w':=by
 have hc1:=λw=>nX r w hr;unfold fx at hc1;have hS:=St.init w;refine enter Tryz.func105 rfl Tryz.ntmps105 rfl ?_;refine jr ?_;refine jh (lj (new:=j6 r) rfl rfl hS ?_);intro b1 wz2 hS hBz2;refine J1 ?_;intro b3 wz4 hS hBz4;refine J1 ?_;refine jh (j7 Tryz.call28 rfl (hc1 _) ?_);rintro _ wc5 ⟨rfl,hBc5⟩;replace hS:=hS.ko hBc5;refine jh (j7 Tryz.call37 rfl (ED (toQ r) _) ?_);rintro _ wc6 ⟨rfl,hBc6⟩;replace hS:=hS.ko hBc6;refine J1 ?_;intro wz7 hS;refine jt ?_;refine mq (k:=0) rfl rfl ki hS rfl rfl ?_;exact⟨rfl,hS.j5⟩
end Go.Proofs.YtoeiejliehgopaaGreatDoor
namespace Go.Sx
open Go Go.RowKit
theorem Sl.flat {w:World} {α:Type} {enc:α->List Value} {size:Nat} {v:Value} {L:List α} (h:Sl enc size w v L) (hu:∀x,(enc x).length=size) (hs:0<size):At w (tW v) (L.flatMap enc):=by
 intro j u hj;have hlt:j<L.length*size:=by
  have:=(dI.1 hj).1;rwa[lK hu]at this
 have hi:j/size<L.length:=(iV hs).2 hlt;have hr:j%size<size:=bG _ hs;have e:j/size*size+j%size=j:=by rw[bF];exact cH _ _
 have h2:=flat_get hu L (j/size) (j%size) hi hr;rw[e,hj]at h2;have h3:=h.elt (j/size) hi (j%size) u h2.symm;rwa[zU _ _ _ (h.spot hu hs (bY (ax _) hi)),e]at h3
section
variable {P : Program} {N : Nat} {ρ : Nat → Value} {w0 w w' : World} {d : Option Tmp} {ty : TypeId} {pos : String} {aft : Array Edge} {g : Option (Nat × Bool)} {x y z : Operand} {t t' e : TypeId} {H L : List kV} {b : Nat} {cs : List Value} {v : Value} {K : Value → Prop} {K2 : Value → World → Prop}
theorem BO {a:Option Addr} {n c:Nat} (hx:ev N ρ x= .slice a n c) (hy:ev N ρ y= .slice none 0 0) (ht:∃e,P.underlying t=some (.slice e)) (h:K (.bool a.isNone)):mb P N ρ ⟨d,.binOp .eql t x y t',ty,pos,aft,g⟩ K:=by
 obtain⟨e,ht⟩:=ht;refine⟨.bool a.isNone,λw=> ?_,h⟩;have h2:(binOp .eql t (.slice a n c) (.slice none 0 0)).run P w= .ok (.bool a.isNone) w:=by
  have h4:∀k,(Op.equalIn (k+1) t (.slice a n c) (.slice none 0 0)).run P w= .ok a.isNone w:=λk=>by cases a<;>simp[Op.equalIn,cK ht]
  have h3:=h4 9999;simp only[binOp];simp[Op.equal,Op.maxDepth,h3]
 simp only[execOp,hx,hy,dN];have h1:(eqGuard .eql t x y (.slice a n c) (.slice none 0 0)).run P w= .ok () w:=rfl;rw[h1,di,h2,di];rfl
theorem Oh {sz by_:Nat} {zz:List Value} (ht:sinfo P t=some (e,sz,by_,zz)) (hS:St w0 w H)
  (h:∀b w',St w0 w' ((b,e,[])::H)->Below w.heap.size w w'->K2 (.slice (some ⟨b,0,none⟩) 0 0) w'):
  pi P N ρ w ⟨d,.buildSlice t 0 #[],ty,pos,aft,g⟩ K2:=by
 obtain⟨hu,ii,zv,hi1,hz,hsz,hby,hcz,hzl⟩:=mF ht;have hr:(Instr.buildSlice t 0 #[]).run P w= .ok (.slice (some ⟨w.heap.size,0,none⟩) 0 0) (w.alloc (.cells #[] e)):=by
  simp[Instr.buildSlice,cK hu,sizeOf,typeInfo,hi1,newRow,Instr.fill];rw[show Array.range 0= #[]from Array.eq_empty_of_size_eq_zero (by simp)];simp
 refine n7 ?_ (h w.heap.size _ (hS.alloc [] e) (pZ w _));have hp:((#[]:Array (Nat×Operand)).map λ(i,x)=>(i,ev N ρ x))= #[]:=by simp
 simp only[execOp,hp,dN,hr,di];rfl
theorem AP {α:Type} {enc:α->List Value} {size bytes:Nat} {zz:List Value} {X Y:List α} {xv:Value} (hx:ev N ρ x=v) (hy:ev N ρ y=xv) (ht:sinfo P t=some (e,size,bytes,zz)) (hsz:0<size)
  (hG:Gl enc e size v X L) (hS:St w0 w (H++L)) (hY:Sl enc size w xv Y) (hu:∀x,(enc x).length=size) (h1:∀u∈Y.flatMap enc,u.oneCell'=true)
  (h63:X.length+Y.length<=9223372036854775807) (hb:(X.length+Y.length)*bytes<=140737488355328)
  (h:∀v' L' w',Gl enc e size v' (X++Y) L'->St w0 w' (H++L')->w.heap.size<=w'.heap.size->((∀i,i<w.heap.size->v.ownBlock≠some i->w'.heap[i]?=w.heap[i]?))->K2 v' w'):
  pi P N ρ w ⟨d,.call ⟨.builtin .append,#[x,y],#[t,t]⟩,ty,pos,aft,g⟩ K2:=by
 obtain⟨ad,c,hxv,hc1,hc2,hn⟩:=hY.form;cases ad with
 |some ad=>
  have hat:=hY.flat hu hsz;rw[hxv]at hat;refine Tf (H:=H) hx hy ht hsz hG (hS.perm ay) hxv (by rw[lK hu]) hat h1 h63 hb (λv' L' w' hG' hS' hun hge=> ?_);refine h v' L' w' ?_ (hS'.perm ay) hge hun;unfold Gl;rw[aw,dk];exact hG'
 |none=>
  have hc0:=hn rfl;obtain rfl:Y=[]:=cB oO;subst hc0;obtain⟨hus,ii,zv,hi1,hz,hsize,hby,hcz,hzl⟩:=mF ht;have hr:(Builtin.append_ #[t,t] ty #[v,.slice none 0 0]).run P w= .ok v w:=by
   obtain⟨_,⟨rfl,_,_⟩|⟨b',cap',sp',rfl,_,g1,_,_⟩⟩:=hG
   ·simp[Builtin.append_,cK hus,sizeOf,typeInfo,hi1,Builtin.lenOf,Builtin.firstCells]
   ·simp[Builtin.append_,cK hus,sizeOf,typeInfo,hi1,Builtin.lenOf,Builtin.firstCells,g1,storeCells]
  refine n7 ?_ (h v L w (by rw[aK];exact hG) hS (aB _) (λ_ _ _=>rfl));rw[hxv]at hy;have hy':ev N ρ y= .slice none 0 0:=hy;simp[execOp,resolve,invoke,builtin,hx,hy',hr]
theorem tM {α:Type} {enc:α->List Value} {size bytes:Nat} {zz:List Value} {Y:List α} {xv:Value} (hx:ev N ρ x= .slice none 0 0) (hy:ev N ρ y=xv) (ht:sinfo P t=some (e,size,bytes,zz)) (hsz:0<size)
  (hS:St w0 w H) (hY:Sl enc size w xv Y) (hu:∀x,(enc x).length=size) (h1:∀u∈Y.flatMap enc,u.oneCell'=true)
  (h63:Y.length<=9223372036854775807) (hb:Y.length*bytes<=140737488355328)
  (h:∀v' L' w',Gl enc e size v' Y L'->St w0 w' (H++L')->Below w.heap.size w w'->K2 v' w'):
  pi P N ρ w ⟨d,.call ⟨.builtin .append,#[x,y],#[t,t]⟩,ty,pos,aft,g⟩ K2:=by
 refine AP (H:=H) (L:=[]) (X:=[]) hx hy ht hsz (Gl.nil enc e size) (by rw[aK];exact hS) hY hu h1 (by rw[fX];omega) (by rw[fX,bZ];exact hb) (λv' L' w' hG' hS' hge hun=> ?_);rw[ce]at hG';exact h v' L' w' hG' hS' ⟨hS'.j5.os.trans hS.j5.os.symm,hS'.j5.tape.trans hS.j5.tape.symm,hS'.j5.output.trans hS.j5.output.symm,hge,λk hk=>hun k hk (by simp[Value.ownBlock])⟩
end
section
variable {P : Program} {N : Nat} {ρ : Nat → Value} {w0 w : World} {H : List kV} {k b : Nat} {t : TypeId} {cs : List Value}
theorem Aw {fn:Func} {p u:Tmp} {ty:TypeId} (h:fn.results= #[.tmp u,.cell p ty]) (tmps:Array Value) (P:Program) (w:World):
  (results fn tmps).run P w=
   ((asAddr (tmps.getD p undef)).run P w).andThen λa w₁=>((loadVar ty a).run P w₁).andThen λv w₂=> .ok (.tuple #[tmps.getD u undef,v]) w₂:=by
 simp only[results,h];simp[dN,Result.andThen]
theorem tY {fn:Func} {p u n:Nat} {ty:TypeId} {zz:List Value} {y:Value} {R:Value->World->Prop} (hr:fn.results= #[.tmp u,.cell p ty]) (hp:ev N ρ (.tmp p)= .pointer (some ⟨b,0,none⟩)) (hy:ev N ρ (.tmp u)=y) (ht:lS P ty=some (n,true,zz))
  (hS:St w0 w H) (hk:H[k]?=some (b,t,cs)) (hn:cs.length=n) (h:R (.tuple #[y,.agg cs.toArray]) w):
  bodyPost P fn (λe w'=>∃v,e= .returned v/\R v w') .ret (act N ρ) w:=by
 refine gz (v:= .tuple #[y,.agg cs.toArray]) ?_ rfl ⟨_,rfl,h⟩;rw[Aw hr,n5,n5,hp,hy];have hl:=hS.loadVar hk ht hn;simp only[asAddr,ik,di];rw[hl];simp[Result.andThen]
end
section
variable {P : Program} {ops : Array Oper} {Kend : Act → World → Prop}
def uZ (ops:Array Oper) (U:List (Nat×Md)) (i:Nat):Bool:=match ops[i]?with
 |some o=>o.after.all λe=> !Region.binds .any e|| !(U.any λy=>Nat.beq y.1 e.on)
 |none=>false
def del (U:List (Nat×Md)) (i:Nat):List (Nat×Md):=U.filter λy=> !Nat.beq y.1 i
theorem qC {U:List (Nat×Md)} {i:Nat} {y:Nat×Md}:y∈del U i↔y∈U/\y.1≠i:=by
 unfold del;rw[dS];constructor
 ·rintro⟨h1,h2⟩;refine⟨h1,λe=> ?_⟩;rw[e]at h2;simp at h2
 ·rintro⟨h1,h2⟩;refine⟨h1,?_⟩;rw[fL];cases hb:Nat.beq y.1 i with
  |false=>rfl
  |true=>exact absurd (cF hb) h2
theorem NY (U:List (Nat×Md)) (i j:Nat):del (del U i) j=del (del U j) i:=by
 unfold del;rw[List.filter_filter,List.filter_filter];congr 1;funext y;exact Bool.and_comm _ _
theorem G0 {U V:List (Nat×Md)} (h:∀y∈V,y∈U) {i:Nat} (hr:uZ ops U i=true):uZ ops V i=true:=by
 unfold uZ at*;cases ho:ops[i]?with
 |none=>rw[ho]at hr;cases hr
 |some o=>
  rw[ho]at hr;simp only at hr⊢;rw[dx]at hr⊢;intro e he;have:=hr e he;rw[dp]at this⊢;rcases this with q|q
  ·exact .inl q
  ·right;rw[fL]at q⊢;rw[gw]at q⊢;exact λy hy=>q y (h y hy)
theorem Cv {U:List (Nat×Md)} {i:Nat} (hr:uZ ops U i=true):∃o,ops[i]?=some o/\∀e∈o.after,Region.binds .any e=true->∀y∈U,y.1≠e.on:=by
 unfold uZ at hr;cases ho:ops[i]?with
 |none=>rw[ho]at hr;cases hr
 |some o=>
  rw[ho]at hr;simp only at hr;rw[dx]at hr;refine⟨o,rfl,λe he hb y hy q=> ?_⟩;have:=hr e he;rw[hb,iD,iE,fL,gw]at this;exact this y hy (by rw[q];simp)
def JF (P:Program) (ops:Array Oper) (Kend:Act->World->Prop):Nat->List (Nat×Md)->Act->World->Prop
 |0,U,a,w=>U=[]/\Kend a w
 |n+1,U,a,w=>(U=[]->Kend a w)/\∀x∈U,uZ ops U x.1=true->∃o,ops[x.1]?=some o/\mf P ops x.2 o a w (JF P ops Kend n (del U x.1))
def Mm (ops:Array Oper):Bool:=(List.range ops.size).all λi=>match ops[i]?with
 |some o=>o.after.all λe=> !Region.binds .any e||Nat.blt e.on i
 |none=>true
theorem OS (h:Mm ops=true) {i:Nat} {o:Oper} (hi:ops[i]?=some o):∀e∈o.after,Region.binds .any e=true->e.on<i:=by
 intro e he hb;have hlt:i<ops.size:=by
  rcases bH i ops.size with q|q
  ·exact q
  ·rw[gy q]at hi;cases hi
 have:=cJ.1 h i (cS.2 hlt);rw[hi]at this;have:=dx.1 this e he;rw[hb,iD,iE,gG]at this;exact this
theorem TG (hlow:Mm ops=true) {U:List (Nat×Md)} (hU:∀y∈U,y.1<ops.size):∀k m,(k,m)∈U->∃x∈U,uZ ops U x.1=true:=by
 intro k;induction k using Nat.strongRecOn with
 |_ k ih=>
  intro m hm;by_cases hr:uZ ops U k=true
  ·exact⟨_,hm,hr⟩
  ·have hk:=hU _ hm;have ho:ops[k]?=some ops[k]:=Array.getElem?_eq_getElem hk;unfold uZ at hr;rw[ho]at hr;simp only at hr;rw[dx]at hr;have:∃e∈ops[k].after,¬(!Region.binds .any e|| !(U.any λy=>Nat.beq y.1 e.on))=true:=by
    refine Classical.byContradiction λhc=>hr λe he=> ?_;exact Classical.byContradiction λhn=>hc ⟨e,he,hn⟩
   obtain⟨e,he,hn⟩:=this;rw[dp,not_or]at hn;obtain⟨h1,h2⟩:=hn;have hb:Region.binds .any e=true:=by simpa using h1
   have h3:(U.any λy=>Nat.beq y.1 e.on)=true:=by simpa using h2
   obtain⟨y,hy,hyb⟩:=dA.1 h3;have hye:=cF hyb;obtain⟨y1,y2⟩:=y;simp only at hye;exact ih y1 (by rw[hye];exact OS hlow ho e he hb) y2 hy
theorem DV {Q:Exit->Act->World->Prop} (hQ:∀a w,Kend a w->Q .normal a w) (hlow:Mm ops=true):
  ∀(n:Nat) (U:List (Nat×Md)) (listed:Array Bool) (a:Act) (w:World),listed.size=ops.size->(∀i,listed.getD i true=false↔∃m,(i,m)∈U)->(∀y∈U,y.1<ops.size)->JF P ops Kend n U a w->wpAny P .any ops Q n listed a w:=by
 intro n;induction n with
 |zero=>
  intro U listed a w _ hl _ h;obtain⟨rfl,h⟩:=h;refine⟨gL.2 λi hi=> ?_,hQ _ _ h⟩;obtain⟨m,hm⟩:=(hl i).1 (im.1 hi).1;cases hm
 |succ n ih=>
  intro U listed a w hsz hl hU h;obtain⟨h1,h2⟩:=h;have hrd:∀i,listed.getD i true=false->(∀(o:Oper),ops[i]?=some o->∀e∈o.after,Region.binds .any e=true->listed.getD e.on false=true)->(∃o,ops[i]?=some o)->uZ ops U i=true:=by
   rintro i _ hd ⟨o,ho⟩;unfold uZ;rw[ho];simp only;rw[dx];intro e he;cases hb:Region.binds .any e with
   |false=>rfl
   |true=>
    rw[iD,iE,fL,gw];intro y hy hyb;have hye:=cF hyb;have h3:=hd o ho e he hb;have h4:=(hl y.1).2 ⟨y.2,hy⟩;rw[hye]at h4;rcases bH e.on listed.size with q|q
    ·simp only[Array.getD,q,gg]at h3 h4;rw[h3]at h4;cases h4
    ·simp[Array.getD,f9.2 q]at h3
  refine⟨λhr=> ?_,λi hi=> ?_⟩
  ·refine hQ _ _ (h1 (gL.2 λx hx=> ?_));obtain⟨y,hy,hyr⟩:=TG hlow hU x.1 x.2 hx;obtain⟨o,ho,hd⟩:=Cv hyr;have:y.1∈Region.ready .any ops listed:=im.2 ⟨(hl y.1).2 ⟨y.2,hy⟩,o,ho,λe he hb=>by
    have hne:=hd e he hb;have hlt:e.on<listed.size:=by
     have:=OS hlow ho e he hb;have:=hU y hy;omega
    have h5:¬listed.getD e.on true=false:=λg=>by
     obtain⟨m,hm⟩:=(hl e.on).1 g;exact hne _ hm rfl
    simp only[Array.getD,hlt,gg]at h5⊢;simpa using h5⟩
   rw[hr]at this;cases this
  ·obtain⟨hun,oi,hoi,hdeps⟩:=im.1 hi;obtain⟨m,hm⟩:=(hl i).1 hun;have hr:=hrd i hun (λo ho=>by rw[hoi]at ho;obtain rfl:=bN ho;exact hdeps) ⟨oi,hoi⟩;obtain⟨o,ho,hst⟩:=h2 (i,m) hm hr;have hilt:i<listed.size:=by rw[hsz];exact hU _ hm
   refine sw ho (mM (λa w hh=> ?_) hst);refine ih (del U i) (listed.setIfInBounds i true) a w (by simpa using hsz) ?_ (λy hy=>hU y (qC.1 hy).1) hh;intro j;by_cases hji:j=i
   ·subst hji;constructor
    ·intro hf;simp[Array.getD,hilt]at hf
    ·rintro⟨m',hm'⟩;exact absurd rfl (qC.1 hm').2
   ·rw[iF true (jI hji),hl j];constructor
    ·rintro⟨m',hm'⟩;exact⟨m',qC.2 ⟨hm',hji⟩⟩
    ·rintro⟨m',hm'⟩;exact⟨m',(qC.1 hm').1⟩
theorem PU {m:Md} {o:Oper} {a:Act} {w:World} {K:Act->World->Prop} (h:mf P ops m o a w K):∃a' w',K a' w':=by
 unfold mf at h;split at h
 ·cases m with
  |pure=>obtain⟨v,_,h⟩:=h;exact⟨_,_,h⟩
  |read=>obtain⟨v,_,h⟩:=h;exact⟨_,_,h⟩
  |ko=>obtain⟨v,w',h⟩:=yR h;exact⟨_,_,h.2⟩
  |free=>obtain⟨v,w',h⟩:=yR h;exact⟨_,_,h⟩
 ·exact⟨_,_,h⟩
inductive Bl (ops:Array Oper) (U:List (Nat×Md)) (i:Nat):Nat->Prop
 |one {y:Nat} {o:Oper} {e:Edge}:ops[y]?=some o->e∈o.after->Region.binds .any e=true->e.on=i->Bl ops U i y
 |far {y:Nat} {o:Oper} {e:Edge} {z:Nat×Md}:ops[y]?=some o->e∈o.after->Region.binds .any e=true->e.on=z.1->z∈U->Bl ops U i z.1->Bl ops U i y
theorem Bl.Xw {i:Nat} {m:Md} {U:List (Nat×Md)} (hm:(i,m)∈U) {y:Nat} (h:Bl ops U i y):uZ ops U y≠true:=by
 intro hr;obtain⟨o,ho,hd⟩:=Cv hr;cases h with
 |one h1 h2 h3 h4=>
  rw[ho]at h1;obtain rfl:=bN h1;exact hd _ h2 h3 _ hm h4.symm
 |far h1 h2 h3 h4 h5 _=>
  rw[ho]at h1;obtain rfl:=bN h1;exact hd _ h2 h3 _ h5 h4.symm
theorem Bl.del {i:Nat} {m:Md} {U:List (Nat×Md)} (hm:(i,m)∈U) {x:Nat} (hx:uZ ops U x=true) {y:Nat} (h:Bl ops U i y):Bl ops (del U x) i y:=by
 induction h with
 |one h1 h2 h3 h4=>exact .one h1 h2 h3 h4
 |far h1 h2 h3 h4 h5 h6 ih=>exact .far h1 h2 h3 h4 (qC.2 ⟨h5,λe=>h6.Xw hm (by rw[e];exact hx)⟩) ih
def WN (ops:Array Oper) (U:List (Nat×Md)) (i:Nat):Nat->Nat->Bool
 |0,_=>false
 |n+1,y=>match ops[y]?with
  |some o=>o.after.any λe=>Region.binds .any e&&(Nat.beq e.on i||((U.any λz=>Nat.beq z.1 e.on)&&WN ops U i n e.on))
  |none=>false
theorem M4 {U:List (Nat×Md)} {i:Nat}:∀(n y:Nat),WN ops U i n y=true->Bl ops U i y:=by
 intro n;induction n with
 |zero=>intro y h;cases h
 |succ n ih=>
  intro y h;unfold WN at h;cases ho:ops[y]?with
  |none=>rw[ho]at h;cases h
  |some o=>
   rw[ho]at h;simp only at h;rw[ij]at h;obtain⟨e,he,hq⟩:=h;rw[bj,dp,bj]at hq;obtain⟨hb,q|⟨q,r⟩⟩:=hq
   ·exact .one ho he hb (cF q)
   ·obtain⟨z,hz,hzb⟩:=dA.1 q;have e2:=cF hzb;exact .far ho he hb e2.symm hz (by rw[e2];exact ih _ r)
def F6 (ops:Array Oper) (x:Nat×Md) (U:List (Nat×Md)):Bool:=
 uZ ops U x.1&&(U.any λy=>Nat.beq y.1 x.1)&&U.all λy=>(Nat.beq y.1 x.1&&decide (y.2=x.2))||(!Nat.beq y.1 x.1&&(WN ops U x.1 6 y.1||nN ops x y))
theorem B9 (hs:wu ops) {i:Nat} {m:Md} {oi:Oper} (hi:ops[i]?=some oi):
  ∀(n:Nat) (U:List (Nat×Md)) (a:Act) (w:World),(i,m)∈U->uZ ops U i=true->(∀y∈U,y.1=i->y.2=m)->
   (∀y∈U,y.1≠i->Bl ops U i y.1\/nN ops (i,m) y=true)->
   mf P ops m oi a w (JF P ops Kend n (del U i))->JF P ops Kend (n+1) U a w:=by
 intro n;induction n with
 |zero=>
  intro U a w hm hr hu hsw h;refine⟨λe=>(by rw[e]at hm;cases hm),λx hx hxr=> ?_⟩;by_cases hxi:x.1=i
  ·obtain⟨x1,x2⟩:=x;simp only at hxi;subst hxi;obtain rfl:=hu _ hx rfl;exact⟨oi,hi,h⟩
  ·exfalso;obtain⟨_,_,h3,_⟩:=PU h;have:=qC.2 ⟨hx,hxi⟩;rw[h3]at this;cases this
 |succ n ih=>
  intro U a w hm hr hu hsw h;refine⟨λe=>(by rw[e]at hm;cases hm),λx hx hxr=> ?_⟩;by_cases hxi:x.1=i
  ·obtain⟨x1,x2⟩:=x;simp only at hxi;subst hxi;obtain rfl:=hu _ hx rfl;exact⟨oi,hi,h⟩
  ·obtain⟨ox,hox,hxd⟩:=Cv hxr;have hsx:nN ops (i,m) x=true:=by
    rcases hsw x hx hxi with q|q
    ·exact absurd hxr (q.Xw hm)
    ·exact q
   refine⟨ox,hox,?_⟩;have h1:mf P ops m oi a w (λa w=>mf P ops x.2 ox a w (JF P ops Kend n (del (del U i) x.1))):=mM (λa w g=>by
    obtain⟨o,ho,g⟩:=g.2 x (qC.2 ⟨hx,hxi⟩) (G0 (λy hy=>(qC.1 hy).1) hxr);rw[hox]at ho;obtain rfl:=bN ho;exact g) h
   obtain⟨x1,x2⟩:=x;have h2:=HR hi hox (λcs b=>hs i oi cs b hi) (λcs b=>hs x1 ox cs b hox) hsx h1;refine mM (λa w g=> ?_) h2;rw[NY]at g;exact ih (del U x1) a w (qC.2 ⟨hm,jI hxi⟩) (G0 (λy hy=>(qC.1 hy).1) hr) (λy hy=>hu y (qC.1 hy).1) (λy hy hne=>(hsw y (qC.1 hy).1 hne).imp (λq=>q.del hm hxr) id) g
end
structure Wz (P:Program) (ops:Array Oper) (Kend:Act->World->Prop) (n:Nat) (U:List (Nat×Md)) (N:Nat) (ρ:Nat->Value) (w:World):Prop where
 out:wu ops->JF P ops Kend n U (act N ρ) w
def wk (P:Program) (ops:Array Oper) (Kend:Act->World->Prop) (n:Nat) (U':List (Nat×Md)) (x:Nat×Md) (N:Nat) (ρ:Nat->Value) (w:World):Prop:=
 wu ops->∃o,ops[x.1]?=some o/\mf P ops x.2 o (act N ρ) w (JF P ops Kend n U')
def QG (ops:Array Oper) (n:Nat) (U:List (Nat×Md)):Bool:=
 Nat.beq ops.size n&&decide (U.map (·.1)=List.range n)&&Mm ops&&ops.all λo=>match o.op with| .select .. =>false|_=>true
section
variable {P : Program} {N : Nat} {ρ : Nat → Value} {w0 w : World} {Q : Exit → Act → World → Prop} {ops : Array Oper} {H : List kV} {Kend : Act → World → Prop} {i n : Nat} {o : Oper} {U U' : List (Nat × Md)}
theorem Bk {id:Nat} {l:List Oper} (n:Nat) (U:List (Nat×Md)) (hm:P.follows .mixedOrders=true) (hchk:QG l.toArray n U=true) (hS:St w0 w H)
  (h:∀w',St w0 w' H->Below w.heap.size w w'->Wz P l.toArray (Q .normal) n U N ρ w'):(Code.region id l.toArray true).wp P Q (act N ρ) w:=by
 simp only[QG,bj,fJ]at hchk;obtain⟨⟨⟨h1,h2⟩,h3⟩,h6⟩:=hchk;have hsz:=cF h1;have hs:wu l.toArray:=by
  intro i o cs b hi hsel;have:=dx.1 h6 o (gD hi);rw[hsel]at this;cases this
 have hbd:Below w.heap.size w {w with drawn:=w.drawn+1}:=(Below.refl _ w).drew;have hUm:∀i,(∃m,(i,m)∈U)↔i<n:=by
  intro i;rw[<-cS,<-h2,bT];constructor
  ·rintro⟨m,hm⟩;exact⟨_,hm,rfl⟩
  ·rintro⟨⟨a,m⟩,hm,rfl⟩;exact⟨m,hm⟩
 refine wp_region_any hm ?_;rw[hsz];refine DV (λ_ _ h=>h) h3 n U _ _ _ (by simp;simpa using hsz.symm) ?_ (λy hy=>by rw[hsz];exact(hUm y.1).1 ⟨y.2,hy⟩) ((h _ (hS.ko hbd) hbd).out hs);intro i;rw[hUm];constructor
 ·intro hf;rcases bH i n with q|q
  ·exact q
  ·simp[Array.getD,f9.2 q]at hf
 ·intro q;simp[Array.getD,q]
theorem na (h:Kend (act N ρ) w):Wz P ops Kend n [] N ρ w:=⟨λ_=>by
 cases n with
 |zero=>exact⟨rfl,h⟩
 |succ n=>exact⟨λ_=>h,λx hx=>by cases hx⟩⟩
theorem A0 {x:Nat×Md} (h:F6 ops x U=true):x∈U/\uZ ops U x.1=true/\(∀y∈U,y.1=x.1->y.2=x.2)/\
  ∀y∈U,y.1≠x.1->Bl ops U x.1 y.1\/nN ops x y=true:=by
 simp only[F6,bj]at h;obtain⟨⟨h1,h2⟩,h3⟩:=h;have hu:∀y∈U,y.1=x.1->y.2=x.2:=λy hy e=>by
  have:=cJ.1 h3 y hy;rw[e]at this;simp at this;exact this
 refine⟨?_,h1,hu,λy hy hne=> ?_⟩
 ·obtain⟨y,hy,hb⟩:=dA.1 h2;have e:=cF hb;have e2:=hu y hy e;obtain⟨y1,y2⟩:=y;obtain⟨x1,x2⟩:=x;simp only at e e2;rw[<-e,<-e2];exact hy
 ·have:=cJ.1 h3 y hy;have hb:Nat.beq y.1 x.1=false:=by
   cases hb:Nat.beq y.1 x.1 with
   |false=>rfl
   |true=>exact absurd (cF hb) hne
  rw[hb,i7,iE,Bool.not_false,Bool.true_and,dp]at this;rcases this with q|q
  ·exact .inl (M4 _ _ q)
  ·exact .inr q
theorem kO {d:Option Tmp} {p:Op} {ty:TypeId} {pos:String} {aft:Array Edge} {g:Option (Nat×Bool)} (hf:F6 ops (i,.pure) U=true) (hd:del U i=U') (ho:ops[i]?=some ⟨d,p,ty,pos,aft,g⟩) (hg:gd ops N ρ g=true)
  (h:mb P N ρ ⟨d,p,ty,pos,aft,g⟩ λv=>Wz P ops Kend n U' N (sW ρ d v) w):Wz P ops Kend (n+1) U N ρ w:=by
 subst hd;obtain⟨f1,f2,f3,f4⟩:=A0 hf;refine⟨λhs=>B9 hs ho n U _ _ f1 f2 f3 f4 ?_⟩;rw[nL (oN ops N ρ ⟨d,p,ty,pos,aft,g⟩ hg),ow];obtain⟨v,h1,h2⟩:=h;exact⟨v,h1,by rw[o8];exact h2.out hs⟩
theorem pb {d:Option Tmp} {p:Op} {ty:TypeId} {pos:String} {aft:Array Edge} {g:Option (Nat×Bool)} (hf:F6 ops (i,.read) U=true) (hd:del U i=U') (ho:ops[i]?=some ⟨d,p,ty,pos,aft,g⟩) (hg:gd ops N ρ g=true)
  (h:qU P N ρ w ⟨d,p,ty,pos,aft,g⟩ λv=>Wz P ops Kend n U' N (sW ρ d v) w):Wz P ops Kend (n+1) U N ρ w:=by
 subst hd;obtain⟨f1,f2,f3,f4⟩:=A0 hf;refine⟨λhs=>B9 hs ho n U _ _ f1 f2 f3 f4 ?_⟩;rw[sn (oN ops N ρ ⟨d,p,ty,pos,aft,g⟩ hg),ow];obtain⟨v,h1,h2⟩:=h;exact⟨v,h1,by rw[o8];exact h2.out hs⟩
theorem kI {d:Option Tmp} {p:Op} {ty:TypeId} {pos:String} {aft:Array Edge} {g:Option (Nat×Bool)} (ho:ops[i]?=some ⟨d,p,ty,pos,aft,g⟩) (hg:gd ops N ρ g=true)
  (h:pi P N ρ w ⟨d,p,ty,pos,aft,g⟩ λv w'=>Below w.heap.size w w'/\Wz P ops Kend n U' N (sW ρ d v) w'):wk P ops Kend n U' (i,.ko) N ρ w:=λhs=>by
 refine⟨_,ho,?_⟩;rw[qI (oN ops N ρ ⟨d,p,ty,pos,aft,g⟩ hg),ow];simp only[o8];exact oB (λv w h=>⟨h.1,h.2.out hs⟩) h.out
theorem kY {d:Option Tmp} {p:Op} {ty:TypeId} {pos:String} {aft:Array Edge} {g:Option (Nat×Bool)} (ho:ops[i]?=some ⟨d,p,ty,pos,aft,g⟩) (hg:gd ops N ρ g=true)
  (h:pi P N ρ w ⟨d,p,ty,pos,aft,g⟩ λv w'=>Wz P ops Kend n U' N (sW ρ d v) w'):wk P ops Kend n U' (i,.free) N ρ w:=λhs=>by
 refine⟨_,ho,?_⟩;rw[sh (oN ops N ρ ⟨d,p,ty,pos,aft,g⟩ hg),ow];simp only[o8];exact oB (λv w h=>Wz.out h hs) h.out
theorem kT {x:Nat×Md} (hR:(U.filter λy=>uZ ops U y.1)=[x]) (hd:del U x.1=U') (h:wk P ops Kend n U' x N ρ w):Wz P ops Kend (n+1) U N ρ w:=by
 subst hd;refine⟨λhs=>⟨λe=>(by rw[e]at hR;cases hR),λy hy hr=> ?_⟩⟩;have:y∈[x]:=by rw[<-hR];exact dS.2 ⟨hy,hr⟩
 obtain rfl:=aQ.1 this;exact h hs
theorem qt {x y:Nat×Md} {U'':List (Nat×Md)} (hR:(U.filter λy=>uZ ops U y.1)=[x,y]) (hd:del U x.1=U') (hd':del U y.1=U'') (h:wk P ops Kend n U' x N ρ w) (h':wk P ops Kend n U'' y N ρ w):Wz P ops Kend (n+1) U N ρ w:=by
 subst hd hd';refine⟨λhs=>⟨λe=>(by rw[e]at hR;cases hR),λz hz hr=> ?_⟩⟩;have:z∈[x,y]:=by rw[<-hR];exact dS.2 ⟨hz,hr⟩
 rcases bC.1 this with rfl|this
 ·exact h hs
 ·obtain rfl:=aQ.1 this;exact h' hs
theorem BW {x y z:Nat×Md} {U1 U2 U3:List (Nat×Md)} (hR:(U.filter λy=>uZ ops U y.1)=[x,y,z]) (hd1:del U x.1=U1) (hd2:del U y.1=U2) (hd3:del U z.1=U3)
  (h1:wk P ops Kend n U1 x N ρ w) (h2:wk P ops Kend n U2 y N ρ w) (h3:wk P ops Kend n U3 z N ρ w):Wz P ops Kend (n+1) U N ρ w:=by
 subst hd1 hd2 hd3;refine⟨λhs=>⟨λe=>(by rw[e]at hR;cases hR),λt ht hr=> ?_⟩⟩;have:t∈[x,y,z]:=by rw[<-hR];exact dS.2 ⟨ht,hr⟩
 rcases bC.1 this with rfl|this
 ·exact h1 hs
 ·rcases bC.1 this with rfl|this
  ·exact h2 hs
  ·obtain rfl:=aQ.1 this;exact h3 hs
end
def Gq {α:Type} (enc:α->List Value) (e:TypeId) (size:Nat) (v:Value) (X:List α) (L:List kV):Prop:=
 (X=[]/\∃a cap,v= .slice a 0 cap)\/
 ∃b cap pre sp,v= .slice (some ⟨b,pre.length,none⟩) X.length cap/\L=[(b,e,pre++(X.flatMap enc++sp))]/\X.length<=cap/\cap<=Go.maxLen/\sp.length=(cap-X.length)*size
section
variable {α : Type} {enc : α → List Value} {e : TypeId} {size : Nat} {w0 w : World} {H L : List kV} {X : List α} {v : Value}
theorem Gq.sl (h:Gq enc e size v X L) (hS:St w0 w (H++L)) (hu:∀x,(enc x).length=size) (hne:X≠ []):Sl enc size w v X:=by
 obtain⟨rfl,_⟩|⟨b,cap,pre,sp,rfl,rfl,h1,h2,h3⟩:=h
 ·exact absurd rfl hne
 have hh:=(hS.perm ay).get (k:=0) (b:=b) (t:=e) (cs:=pre++(X.flatMap enc++sp)) rfl;refine⟨⟨some ⟨b,pre.length,none⟩,cap,rfl,h1,h2,λh=>by cases h⟩,λi hi j u hj=> ?_⟩;have hj':j<size:=by
  have:=(dI.1 hj).1;rwa[hu]at this
 rw[show tW (.slice (some ⟨b,pre.length,none⟩) X.length cap)=⟨b,pre.length,none⟩from rfl,add_lit,add_lit,cell_of_row w b _ _ e _ hh];have hlt:i*size+j<(X.flatMap enc).length:=by
  rw[lK hu];have:(i+1)*size<=X.length*size:=aH _ hi;rw[bl]at this;omega
 rw[iZ,dR,bV (jS _ _),cW,cZ hlt,flat_get hu X i j hi hj'];exact hj
end
section
variable {P : Program} {N : Nat} {ρ : Nat → Value} {w0 w w' : World} {d : Option Tmp} {ty : TypeId} {pos : String} {aft : Array Edge} {g : Option (Nat × Bool)} {x y z : Operand} {t t' e : TypeId} {H L : List kV} {b : Nat} {cs : List Value} {v : Value} {K2 : Value → World → Prop} {K : Value → Prop}
end
abbrev Mx:=Nat->Nat->Rat
def kg (f:Nat->Rat):Nat->Rat
 |0=>0
 |n+1=>kg f n+f n
theorem km {f g:Nat->Rat}:∀ {n:Nat},(∀i,i<n->f i=g i)->kg f n=kg g n
 |0,_=>rfl
 |n+1,h=>by
  show kg f n+f n=kg g n+g n;rw[km λi hi=>h i oO,h n oO]
theorem kW {f:Nat->Rat}:∀ {n:Nat},(∀i,i<n->f i=0)->kg f n=0
 |0,_=>rfl
 |n+1,h=>by
  show kg f n+f n=0;rw[kW λi hi=>h i oO,h n oO];exact iL 0
theorem mX (f g:Nat->Rat) (t:Rat):∀n,kg (λi=>f i+t*g i) n=kg f n+t*kg g n
 |0=>by show(0:Rat)=0+t*0;grind
 |n+1=>by
  show kg (λi=>f i+t*g i) n+(f n+t*g n)=kg f n+f n+t*(kg g n+g n);rw[mX f g t n];grind
theorem nF {f:Nat->Rat} {p:Nat}:∀ {n:Nat},p<n->(∀i,i<n->i≠p->f i=0)->kg f n=f p
 |n+1,hp,h=>by
  show kg f n+f n=f p;by_cases e:p=n
  ·subst e;rw[kW λi hi=>h i oO oO];exact iL _
  ·rw[nF oO λi hi=>h i oO,h n oO oO];exact gY _
theorem G7 {f:Nat->Rat} {p:Nat}:∀ {n:Nat},p+1<n->(∀i,i<n->i≠p->i≠p+1->f i=0)->kg f n=f p+f (p+1)
 |n+1,hp,h=>by
  show kg f n+f n=_;by_cases e:p+1=n
  ·subst e;show kg f p+f p+f (p+1)=_;rw[kW λi hi=>h i oO oO oO,iL]
  ·rw[G7 oO λi hi=>h i oO,h n oO oO oO];exact gY _
def yH (A:Mx) (i:Nat):Mx:=λr c=>A (if r<i then r else r+1) (c+1)
def E8 (i:Nat):Rat:=if i%2=0 then 1 else-1
theorem Nl (i:Nat):E8 (i+1)= -E8 i:=by
 unfold E8;by_cases h:i%2=0
 ·rw[ah oO,aj h]
 ·rw[aj oO,ah h];rfl
def qZ:Nat->Mx->Rat
 |0,_=>1
 |n+1,A=>kg (λi=>E8 i*A i 0*qZ n (yH A i)) (n+1)
theorem sH (n:Nat) (A:Mx):qZ (n+1) A=kg (λi=>E8 i*A i 0*qZ n (yH A i)) (n+1):=rfl
theorem n6:∀ {n:Nat} {A B:Mx},(∀i,i<n->∀j,j<n->A i j=B i j)->qZ n A=qZ n B
 |0,_,_,_=>rfl
 |n+1,A,B,h=>by
  rw[sH,sH];refine km λi hi=> ?_;rw[h i hi 0 oO];rw[n6 (A:=yH A i) (B:=yH B i) λr hr c hc=>h _ (by split<;>omega) _ oO]
theorem FE:∀ {n:Nat} {A:Mx},(∀i,i<n->∀j,j<n->∃z:Int,A i j=z)->∃z:Int,qZ n A=z
 |0,_,_=>⟨1,rfl⟩
 |n+1,A,h=>by
  have key:∀k,k<=n+1->∃z:Int,kg (λi=>E8 i*A i 0*qZ n (yH A i)) k=z:=by
   intro k;induction k with
   |zero=>exact λ_=>⟨0,rfl⟩
   |succ k ih=>
    intro hk;obtain⟨z,hz⟩:=ih oO;obtain⟨a,ha⟩:=h k oO 0 oO;obtain⟨d,hd⟩:=FE (A:=yH A k) (n:=n) λr hr c hc=>h _ (by split<;>omega) _ oO;show∃y:Int,kg (λi=>E8 i*A i 0*qZ n (yH A i)) k+E8 k*A k 0*qZ n (yH A k)=y;rw[hz,ha,hd];unfold E8;by_cases e:k%2=0
    ·rw[aj e];exact⟨z+a*d,by rw[dW,Rat.intCast_add,eR]⟩
    ·rw[ah e];exact⟨z-a*d,by rw[j0,eR];grind⟩
  exact key (n+1) (aB _)
theorem Sc {i p:Nat} (h:p≠i):∃p',(∀r,(if r<i then r else r+1)=p↔r=p')/\(∀n,p<n+1->i<n+1->p'<n)/\p'=if p<i then p else p-1:=by
 refine⟨if p<i then p else p-1,λr=> ?_,λn hp hi=> ?_,rfl⟩
 ·split<;>split<;>omega
 ·split<;>omega
theorem yL:∀ {n:Nat} {A B C:Mx} {p:Nat} {t:Rat},p<n->(∀j,C p j=A p j+t*B p j)->(∀i,i≠p->∀j,B i j=A i j/\C i j=A i j)->qZ n C=qZ n A+t*qZ n B
 |n+1,A,B,C,p,t,hp,h1,h2=>by
  rw[sH,sH,sH,<-mX];refine km λi hi=> ?_;by_cases e:i=p
  ·subst e;have e1:yH B i=yH A i:=by funext r c;exact(h2 _ (by split<;>omega) _).1
   have e2:yH C i=yH A i:=by funext r c;exact(h2 _ (by split<;>omega) _).2
   rw[h1,e1,e2];grind
  ·obtain⟨p',hp',hlt,_⟩:=Sc (i:=i) (p:=p) (λg=>e g.symm);rw[(h2 i e 0).1,(h2 i e 0).2];rw[yL (A:=yH A i) (B:=yH B i) (C:=yH C i) (p:=p') (t:=t) (hlt n hp hi) ?_ ?_]
   ·grind
   ·intro j;have:=(hp' p').2 rfl;unfold yH;rw[this];exact h1 _
   ·intro r hr j;exact h2 _ (λg=>hr ((hp' r).1 g)) _
theorem BV:∀ {n:Nat} {A:Mx} {p:Nat},p+1<n->(∀j,A p j=A (p+1) j)->qZ n A=0
 |n+1,A,p,hp,h=>by
  rw[sH,G7 hp ?_]
  ·have e:yH A (p+1)=yH A p:=by
    funext r c;unfold yH;by_cases h1:r<p
    ·rw[aj oO,aj h1]
    ·by_cases h3:r=p
     ·subst h3;rw[aj oO,ah oO];exact h _
     ·rw[ah oO,ah h1]
   rw[e,Nl,h 0];grind
  ·intro i hi h1 h2;have e:qZ n (yH A i)=0:=by
    by_cases g:i<p
    ·refine BV (p:=p-1) oO λj=> ?_;unfold yH;rw[ah oO,ah oO];have:p-1+1=p:=oO;rw[this];exact h _
    ·refine BV (p:=p) oO λj=> ?_;unfold yH;rw[aj oO,aj oO];exact h _
   rw[e,dZ]
def qy (A:Mx) (p:Nat) (x:Nat->Rat):Mx:=λi j=>if i=p then x j else A i j
theorem l9 (A:Mx) (p:Nat) (x:Nat->Rat) (j:Nat):qy A p x p j=x j:=aj rfl
theorem nv (A:Mx) {p i:Nat} (x:Nat->Rat) (h:i≠p) (j:Nat):qy A p x i j=A i j:=ah h
def oH (A:Mx) (p q:Nat):Mx:=λi j=>if i=p then A q j else if i=q then A p j else A i j
theorem Kq {n:Nat} {p q:Nat} (hp:p<n) (hq:q<n) (hpq:p≠q) (alt:∀A:Mx,(∀j,A p j=A q j)->qZ n A=0) (A:Mx):qZ n (oH A p q)= -qZ n A:=by
 have D:=λ(x y:Nat->Rat)=>qy (qy A p x) q y;have hl:∀x x' y,qZ n (qy (qy A p λj=>x j+1*x' j) q y)=qZ n (qy (qy A p x) q y)+1*qZ n (qy (qy A p x') q y):=by
  intro x x' y;refine yL hp (λj=> ?_) λi hi j=> ?_
  ·rw[nv _ _ hpq,nv _ _ hpq,nv _ _ hpq,l9,l9,l9]
  ·by_cases g:i=q
   ·subst g;simp only[l9,and_self]
   ·simp only[nv _ _ g,nv _ _ hi,and_self]
 have hr:∀x y y',qZ n (qy (qy A p x) q λj=>y j+1*y' j)=qZ n (qy (qy A p x) q y)+1*qZ n (qy (qy A p x) q y'):=by
  intro x y y';refine yL hq (λj=> ?_) λi hi j=> ?_
  ·rw[l9,l9,l9]
  ·simp only[nv _ _ hi,and_self]
 have ha:∀x,qZ n (qy (qy A p x) q x)=0:=λx=>alt _ λj=>by rw[nv _ _ hpq,l9,l9]
 have h0:=ha λj=>A p j+1*A q j;rw[hl,hr,hr,ha,ha]at h0;have e1:qZ n (qy (qy A p (A p)) q (A q))=qZ n A:=n6 λi _ j _=>by
  by_cases g:i=q
  ·subst g;rw[l9]
  ·rw[nv _ _ g];by_cases g':i=p
   ·subst g';rw[l9]
   ·rw[nv _ _ g']
 have e2:qZ n (qy (qy A p (A q)) q (A p))=qZ n (oH A p q):=n6 λi _ j _=>by
  unfold oH;by_cases g:i=q
  ·subst g;rw[l9,ah (λe=>hpq e.symm),aj rfl]
  ·rw[nv _ _ g];by_cases g':i=p
   ·subst g';rw[l9,aj rfl]
   ·rw[nv _ _ g',ah g',ah g]
 rw[<-e1,<-e2];grind
theorem CN {n p:Nat}:∀(d:Nat) {q:Nat} {A:Mx},q=p+1+d->q<n->(∀j,A p j=A q j)->qZ n A=0
 |0,q,A,hq,hn,h=>BV (p:=p) oO λj=>by rw[h j,hq]
 |d+1,q,A,hq,hn,h=>by
  have e:=Kq (n:=n) (p:=q-1) (q:=q) oO hn oO (λB hB=>BV (p:=q-1) oO λj=>by
   have:q-1+1=q:=oO;rw[this];exact hB j) A
  have e0:qZ n (oH A (q-1) q)=0:=CN (p:=p) d (q:=q-1) oO oO λj=>by
   show(if p=q-1 then A q j else if p=q then A (q-1) j else A p j)=(if q-1=q-1 then A q j else _);rw[ah oO,ah oO,aj rfl];exact h j
  rw[e0]at e;grind
theorem Mc {n p q:Nat} (hp:p<n) (hq:q<n) (hpq:p≠q) {A:Mx} (h:∀j,A p j=A q j):qZ n A=0:=by
 rcases Nat.lt_or_gt_of_ne hpq with g|g
 ·exact CN (q-p-1) (p:=p) oO hq h
 ·exact CN (p-q-1) (p:=q) (q:=p) oO hp λj=>(h j).symm
theorem Pe {n p q:Nat} (hp:p<n) (hq:q<n) (hpq:p≠q) (A:Mx):qZ n (oH A p q)= -qZ n A:=Kq hp hq hpq (λ_ h=>Mc hp hq hpq h) A
theorem Ku {n p q:Nat} (hp:p<n) (hq:q<n) (hpq:p≠q) (A:Mx) (t:Rat):qZ n (qy A p λj=>A p j+t*A q j)=qZ n A:=by
 rw[yL (A:=A) (B:=qy A p (A q)) (p:=p) (t:=t) hp (λj=>by rw[l9,l9]) λi hi j=>⟨nv _ _ hi _,nv _ _ hi _⟩];rw[Mc hp hq hpq (A:=qy A p (A q)) λj=>by rw[l9,nv _ _ λe=>hpq e.symm]];grind
theorem EV {n p:Nat} (hp:p<n) (A:Mx) (t:Rat):qZ n (qy A p λj=>t*A p j)=t*qZ n A:=by
 rw[yL (A:=A) (B:=A) (p:=p) (t:=t-1) hp (λj=>by rw[l9];grind) λi hi j=>⟨rfl,nv _ _ hi _⟩];grind
theorem Dc {n p:Nat} (hp:p<n) {A:Mx} (h:∀j,j<n->A p j=0):qZ n A=0:=by
 have e:=EV hp A 0;rw[fO]at e;rw[<-e];exact n6 λi _ j hj=>by
  by_cases g:i=p
  ·subst g;rw[l9,h j hj,fO]
  ·rw[nv _ _ g]
theorem EL {n:Nat} {A:Mx} (h:∀i,0<i->i<n+1->A i 0=0):qZ (n+1) A=A 0 0*qZ n (yH A 0):=by
 rw[sH,nF (p:=0) oO λi hi h0=>by rw[h i oO hi,dZ,fO]];show(1:Rat)*A 0 0*_=_;rw[dW]
def IU (i j:Nat):Rat:=if i=j then 1 else 0
theorem Dt (r c:Nat):IU (r+1) (c+1)=IU r c:=by
 unfold IU;by_cases g:r=c
 ·rw[aj oO,aj g]
 ·rw[ah oO,ah g]
theorem wY (r:Nat):IU r r=1:=aj rfl
theorem tm {r c:Nat} (h:r≠c):IU r c=0:=ah h
theorem C6 (A:Mx) (r c:Nat):yH A 0 r c=A (r+1) (c+1):=by
 unfold yH;rw[ah oO]
theorem GJ:∀n,qZ n IU=1
 |0=>rfl
 |n+1=>by
  rw[EL λi h0 _=>ah oO];have e:yH IU 0=IU:=by
   funext r c;rw[C6,Dt]
  rw[e,GJ n,wY];exact dW 1
def yo (i:Nat) (v:Nat->Rat):Mx:=λr c=>if c=i then v r else IU r c
theorem CV:∀ {n i:Nat} (v:Nat->Rat),i<n->qZ n (yo i v)=v i
 |n+1,0,v,_=>by
  rw[sH,nF (p:=0) oO]
  ·have e:yH (yo 0 v) 0=IU:=by
    funext r c;rw[C6];unfold yo;rw[ah oO,Dt]
   rw[e,GJ];show(1:Rat)*v 0*1=v 0;grind
  ·intro i hi h0;rw[Dc (n:=n) (p:=0) (A:=yH (yo 0 v) i) oO λj _=> ?_,dZ];unfold yH yo;rw[ah oO,aj oO,tm oO]
 |n+1,i+1,v,hi=>by
  rw[EL λr h0 _=>by unfold yo;rw[ah oO,tm oO]];have e:yH (yo (i+1) v) 0=yo i λr=>v (r+1):=by
   funext r c;rw[C6];unfold yo;by_cases g:c=i
   ·rw[aj oO,aj g]
   ·rw[ah oO,ah g,Dt]
  have e0:yo (i+1) v 0 0=1:=by
   unfold yo;rw[ah oO,wY]
  rw[e,CV _ oO,e0,dW]
def elim (A:Mx) (r:Nat) (a:Rat) (f:Nat->Rat):Mx:=λi j=>if i=r then A r j/a else A i j-f i*(A r j/a)
theorem HZ {n r:Nat} (hr:r<n) (A:Mx) {a:Rat} (ha:a≠0) (f:Nat->Rat):qZ n A=a*qZ n (elim A r a f):=by
 have e1:qZ n (qy A r λj=>a⁻¹ *A r j)=a⁻¹ *qZ n A:=EV hr A _;have key:∀t,t<=n->qZ n (λi j=>if i<t/\i≠r then A i j-f i*(a⁻¹ *A r j)else qy A r (λj=>a⁻¹ *A r j) i j)=a⁻¹ *qZ n A:=by
  intro t;induction t with
  |zero=>
   intro _;rw[<-e1];exact n6 λi _ j _=>ah oO
  |succ t ih=>
   intro ht;rw[<-ih oO];by_cases g:t=r
   ·refine n6 λi _ j _=> ?_;by_cases h:i<t
    ·rw[aj ⟨oO,oO⟩,aj ⟨h,oO⟩]
    ·rw[ah oO,ah oO]
   ·have:=Ku (n:=n) (p:=t) (q:=r) oO hr g (λi j=>if i<t/\i≠r then A i j-f i*(a⁻¹ *A r j)else qy A r (λj=>a⁻¹ *A r j) i j) (-f t);rw[<-this];refine n6 λi _ j _=> ?_;by_cases h:i=t
    ·subst h;rw[l9,aj ⟨oO,g⟩,ah oO,ah (λe=>e.2 rfl),nv _ _ g,l9];grind
    ·rw[nv _ _ h];by_cases h':i<t/\i≠r
     ·rw[aj ⟨oO,h'.2⟩,aj h']
     ·rw[ah oO,ah h']
 have e2:qZ n (elim A r a f)=a⁻¹ *qZ n A:=by
  rw[<-key n (aB _)];refine n6 λi hi j _=> ?_;unfold elim;rw[bR,gm];by_cases g:i=r
  ·subst g;rw[aj rfl,ah (λe=>e.2 rfl),l9]
  ·rw[ah g,aj ⟨hi,g⟩]
 rw[e2,<-iz,bX _ ha,dW]
def NO (A:Mx) (c:Nat):Nat->Nat->Nat
 |0,i=>i
 |k+1,i=>if A i c=0 then NO A c k (i+1)else i
def pv (A:Mx) (c n r:Nat):Nat:=NO A c (n-r) r
theorem IB (A:Mx) (c:Nat):∀k i,i<=NO A c k i/\NO A c k i<=i+k/\(∀l,i<=l->l<NO A c k i->A l c=0)/\(NO A c k i<i+k->A (NO A c k i) c≠0)
 |0,i=>⟨aB _,aB _,λl h1 h2=>absurd (bY h1 h2) (dB _),λh=>absurd h (dB _)⟩
 |k+1,i=>by
  unfold NO;by_cases h:A i c=0
  ·rw[aj h];obtain⟨h1,h2,h3,h4⟩:=IB A c k (i+1);refine⟨oO,oO,λl g1 g2=> ?_,λg=>h4 oO⟩;by_cases e:l=i
   ·rw[e];exact h
   ·exact h3 l oO g2
  ·rw[ah h];exact⟨aB _,oO,λl g1 g2=>absurd (bY g1 g2) (dB _),λ_=>h⟩
theorem py (A:Mx) (c:Nat) {n r:Nat} (h:r<=n):r<=pv A c n r/\pv A c n r<=n/\(∀l,r<=l->l<pv A c n r->A l c=0)/\(pv A c n r<n->A (pv A c n r) c≠0):=by
 obtain⟨h1,h2,h3,h4⟩:=IB A c (n-r) r;exact⟨h1,by unfold pv;omega,h3,λg=>h4 (by unfold pv at g;omega)⟩
theorem FI {A:Mx} {c n r p:Nat} (h:r<=p) (hp:p<=n) (hz:∀l,r<=l->l<p->A l c=0) (hn:p<n->A p c≠0):pv A c n r=p:=by
 obtain⟨h1,h2,h3,h4⟩:=py A c (n:=n) (r:=r) oO;rcases Nat.lt_trichotomy (pv A c n r) p with g|g|g
 ·exact absurd (hz _ h1 g) (h4 oO)
 ·exact g
 ·exact absurd (h3 _ h g) (hn oO)
theorem N6 {A B:Mx} {c n r:Nat} (hr:r<=n) (h:∀i,r<=i->i<n->(A i c=0↔B i c=0)):pv A c n r=pv B c n r:=by
 obtain⟨h1,h2,h3,h4⟩:=py B c (n:=n) (r:=r) hr;exact FI h1 h2 (λl g1 g2=>(h l g1 oO).2 (h3 l g1 g2)) λg e=>h4 g ((h _ h1 g).1 e)
structure Rd where
 M:Mx
 P:List Nat
 d:Rat
def sO (n c:Nat) (s:Rd):Rd:=
 if pv s.M c n s.P.length<n then
  ⟨elim (oH s.M s.P.length (pv s.M c n s.P.length)) s.P.length (s.M (pv s.M c n s.P.length) c) λi=>oH s.M s.P.length (pv s.M c n s.P.length) i c,s.P++[c],
   (if pv s.M c n s.P.length=s.P.length then s.d else-s.d)*s.M (pv s.M c n s.P.length) c⟩
 else s
def lF (n:Nat) (A:Mx):Nat->Rd
 |0=>⟨A,[],1⟩
 |c+1=>sO n c (lF n A c)
theorem pT (A:Mx) (p q j:Nat):oH A p q p j=A q j:=aj rfl
theorem sP (A:Mx) (p q j:Nat):oH A p q q j=A p j:=by
 unfold oH;by_cases h:q=p
 ·rw[aj h,h]
 ·rw[ah h,aj rfl]
theorem ud (A:Mx) {p q i:Nat} (h1:i≠p) (h2:i≠q) (j:Nat):oH A p q i j=A i j:=by unfold oH;rw[ah h1,ah h2]
theorem EG (A:Mx) (p:Nat):oH A p p=A:=by
 funext i j;unfold oH;by_cases h:i=p
 ·rw[aj h,h]
 ·rw[ah h,ah h]
theorem tA (A:Mx) (r:Nat) (a:Rat) (f:Nat->Rat) (j:Nat):elim A r a f r j=A r j/a:=aj rfl
theorem rN (A:Mx) {r i:Nat} {a:Rat} {f:Nat->Rat} (h:i≠r) (j:Nat):elim A r a f i j=A i j-f i*(A r j/a):=ah h
structure MW (n c:Nat) (s:Rd):Prop where
 len:s.P.length<=n
 inc:s.P.Pairwise (· < ·)
 lt:∀p∈s.P,p<c
 unit:∀l,l<s.P.length->∀i,i<n->s.M i (s.P.getD l 0)=IU i l
 low:∀i,s.P.length<=i->i<n->∀j,j<c->s.M i j=0
theorem PC {l:List Nat} {x d i:Nat}:(l++[x]).getD i d=if i<l.length then l.getD i d else if i=l.length then x else d:=by
 by_cases h:i<l.length
 ·rw[aj h,ai,cZ h,ai]
 ·rw[ah h,ai,bV oO];by_cases e:i=l.length
  ·rw[aj e,e,dU];rfl
  ·rw[ah e,dg (by simp;omega)];rfl
theorem pf {l:List Nat} {i:Nat} (h:i<l.length):l.getD i 0∈l:=by
 rw[ai,aG h];exact jU h
theorem rinv (n:Nat) (A:Mx):∀c,MW n c (lF n A c)
 |0=>⟨ax _,List.Pairwise.nil,λ_ h=>(by cases h),λl h=>absurd h (aS _),λ_ _ _ j hj=>absurd hj (aS _)⟩
 |c+1=>by
  have I:=rinv n A c;show MW n (c+1) (sO n c (lF n A c));generalize lF n A c=s at I;obtain⟨hp1,hp2,hp3,hp4⟩:=py s.M c I.len;unfold sO;by_cases h:pv s.M c n s.P.length<n
  ·rw[aj h];generalize pv s.M c n s.P.length=p at*;have ha:=hp4 h;generalize hr:s.P.length=r at*;have hS:∀i,i<n->∀l,l<r->oH s.M r p i (s.P.getD l 0)=IU i l:=by
    intro i hi l hl;by_cases e1:i=r
    ·rw[e1,pT,I.unit l oO p h,tm oO,tm oO]
    ·by_cases e2:i=p
     ·rw[e2,sP,I.unit l oO r oO,tm oO,tm oO]
     ·rw[ud _ e1 e2,I.unit l oO i hi]
   refine⟨by simp only[aw,eG];omega,?_,?_,?_,?_⟩
   ·exact List.pairwise_append.2 ⟨I.inc,List.pairwise_singleton _ _,λa ha b hb=>by rw[aQ.1 hb];exact I.lt a ha⟩
   ·intro q hq;rcases bB.1 hq with g|g
    ·have:=I.lt q g;omega
    ·rw[aQ.1 g];omega
   ·intro l hl i hi;simp only[aw,eG,hr]at hl;dsimp only;rw[PC,hr];by_cases g:l<r
    ·rw[aj g];by_cases e:i=r
     ·rw[e,tA,hS r oO l g,tm oO,bR,fO]
     ·rw[rN _ e,hS i hi l g,hS r oO l g,tm (r:=r) oO,bR];grind
    ·rw[ah g,aj oO];obtain rfl:l=r:=oO;by_cases e:i=l
     ·rw[e,tA,pT,wY,bR,bX _ ha]
     ·rw[rN _ e,pT,bR,bX _ ha,tm e];grind
   ·intro i hi1 hi j hj;simp only[aw,eG,hr]at hi1;dsimp only;rw[rN _ oO,pT];by_cases g:j=c
    ·subst g;rw[bR,bX _ ha];grind
    ·have e1:s.M p j=0:=I.low p oO h j oO;have e2:oH s.M r p i j=0:=by
      by_cases e2:i=p
      ·rw[e2,sP];exact I.low r oO oO j oO
      ·rw[ud _ oO e2];exact I.low i oO hi j oO
     rw[e1,e2,bR];grind
  ·rw[ah h];refine⟨I.len,I.inc,λq hq=>by have:=I.lt q hq;omega,I.unit,λi hi1 hi j hj=> ?_⟩;by_cases g:j=c
   ·subst g;exact hp3 i hi1 oO
   ·exact I.low i hi1 hi j oO
theorem yr (n:Nat) (A:Mx) (c:Nat):∀k,(lF n A c).P.length<=(lF n A (c+k)).P.length/\(lF n A (c+k)).P.length<=(lF n A c).P.length+k
 |0=>⟨aB _,aB _⟩
 |k+1=>by
  obtain⟨h1,h2⟩:=yr n A c k;show _<=(sO n (c+k) (lF n A (c+k))).P.length/\(sO n (c+k) (lF n A (c+k))).P.length<=_;generalize lF n A (c+k)=s at*;unfold sO;split
  ·simp only[aw,eG];omega
  ·omega
theorem zY (n:Nat) (A:Mx) (c:Nat):(lF n A c).P.length<=c:=by
 have:=(yr n A 0 c).2;rw[bZ]at this;exact dt this (by show [].length+c<=c;simp)
theorem C0 {n:Nat} {A:Mx} {c:Nat} (h:n<=(lF n A c).P.length):∀k,lF n A (c+k)=lF n A c
 |0=>rfl
 |k+1=>by
  show sO n (c+k) (lF n A (c+k))=_;rw[C0 h k];unfold sO;rw[ah];have:=(py (lF n A c).M (c+k) (rinv n A c).len).1;omega
def mJ (A:Mx) (x:Nat->Rat) (m i:Nat):Rat:=kg (λj=>A i j*x j) m
def Iv (n m:Nat) (A:Mx) (x:Nat->Rat):Prop:=∀i,i<n->mJ A x m i=0
theorem qx (f:Nat->Rat) (t:Rat) (n:Nat):kg (λi=>t*f i) n=t*kg f n:=by
 have:=mX (λ_=>0) f t n;rw[kW (f:=λ_=>0) λ_ _=>rfl,iL]at this;rw[<-this];exact km λi _=>(iL _).symm
theorem BA (A:Mx) (x:Nat->Rat) (m p q i:Nat):mJ (oH A p q) x m i=if i=p then mJ A x m q else if i=q then mJ A x m p else mJ A x m i:=by
 unfold mJ;by_cases h1:i=p
 ·rw[aj h1,h1];exact km λj _=>by rw[pT]
 ·rw[ah h1];by_cases h2:i=q
  ·rw[aj h2,h2];exact km λj _=>by rw[sP]
  ·rw[ah h2];exact km λj _=>by rw[ud _ h1 h2]
theorem Si {n m p q:Nat} (hp:p<n) (hq:q<n) (A:Mx) (x:Nat->Rat):Iv n m (oH A p q) x↔Iv n m A x:=by
 constructor
 ·intro h i hi;by_cases h1:i=p
  ·have:=h q hq;rw[BA]at this;by_cases h2:q=p
   ·rw[aj h2]at this;rw[h1,<-h2];exact this
   ·rw[ah h2,aj rfl]at this;rw[h1];exact this
  ·by_cases h2:i=q
   ·have:=h p hp;rw[BA,aj rfl]at this;rw[h2];exact this
   ·have:=h i hi;rw[BA,ah h1,ah h2]at this;exact this
 ·intro h i hi;rw[BA];split
  ·exact h q hq
  ·split
   ·exact h p hp
   ·exact h i hi
theorem Cb (A:Mx) (x:Nat->Rat) (m r i:Nat) (a:Rat) (f:Nat->Rat):mJ (elim A r a f) x m i=if i=r then a⁻¹ *mJ A x m r else mJ A x m i+(-(f i*a⁻¹))*mJ A x m r:=by
 unfold mJ;by_cases h:i=r
 ·rw[aj h,h,<-qx];refine km λj _=> ?_;unfold elim;rw[aj rfl,bR];grind
 ·rw[ah h,<-mX];refine km λj _=> ?_;unfold elim;rw[ah h,bR];grind
theorem QE {n m r:Nat} (hr:r<n) (A:Mx) (x:Nat->Rat) {a:Rat} (ha:a≠0) (f:Nat->Rat):Iv n m (elim A r a f) x↔Iv n m A x:=by
 constructor
 ·intro h;have h0:mJ A x m r=0:=by
   have:=h r hr;rw[Cb,aj rfl]at this;rcases fH.1 this with g|g
   ·exact absurd (by have:=bX a ha;rw[g,dZ]at this;exact absurd this dD) ha
   ·exact g
  intro i hi;by_cases e:i=r
  ·rw[e];exact h0
  ·have:=h i hi;rw[Cb,ah e,h0,dZ,gY]at this;exact this
 ·intro h i hi;rw[Cb,h r hr,h i hi];split<;>grind
theorem Bz (n m:Nat) (A:Mx) (x:Nat->Rat):∀c,Iv n m (lF n A c).M x↔Iv n m A x
 |0=>Iff.rfl
 |c+1=>by
  rw[<-Bz n m A x c];show Iv n m (sO n c (lF n A c)).M x↔_;have hl:=(rinv n A c).len;generalize lF n A c=s at*;obtain⟨h1,h2,h3,h4⟩:=py s.M c hl;unfold sO;split
  ·next h=>rw[QE oO _ _ (h4 h),Si oO h]
  ·exact Iff.rfl
theorem K6 (n:Nat) (A:Mx):∀c,qZ n A=(lF n A c).d*qZ n (lF n A c).M
 |0=>(dW _).symm
 |c+1=>by
  rw[K6 n A c];show _=(sO n c (lF n A c)).d*qZ n (sO n c (lF n A c)).M;have hl:=(rinv n A c).len;generalize lF n A c=s at*;obtain⟨h1,h2,h3,h4⟩:=py s.M c hl;unfold sO;split
  ·next h=>
   show _=((if pv s.M c n s.P.length=s.P.length then s.d else-s.d)*s.M (pv s.M c n s.P.length) c)*qZ n (elim _ _ _ _);rw[iz,<-HZ oO _ (h4 h)];split
   ·next e=>rw[e,EG]
   ·next e=>rw[Pe oO h (λg=>e g.symm)];grind
  ·rfl
theorem Ed:∀ {P:List Nat} {a n:Nat},P.Pairwise (· < ·)->(∀p∈P,a<=p/\p<a+n)->P.length=n->P=List.range' a n
 | [],a,n,_,_,h=>by rw[<-h];rfl
 |q::P,a,n,hi,hm,hl=>by
  obtain⟨n,rfl⟩:∃k,n=k+1:=⟨P.length,by rw[<-hl];rfl⟩;rw[ba]at hl;obtain⟨h1,h2⟩:=List.pairwise_cons.1 hi;have hq:=hm q (aJ ..);have key:∀ {P:List Nat} {b:Nat},P.Pairwise (· < ·)->(∀p∈P,b<=p/\p<a+(n+1))->P.length+b<=a+(n+1)\/P=[]:=by
   intro P;induction P with
   |nil=>exact λ_ _=> .inr rfl
   |cons x P ih=>
    intro b g1 g2;obtain⟨g3,g4⟩:=List.pairwise_cons.1 g1;have gx:=g2 x (aJ ..);rcases ih (b:=x+1) g4 (λp hp=>⟨g3 p hp,(g2 p (aI _ hp)).2⟩)with h|h
    ·left;rw[ba];omega
    ·left;rw[h];simp only[ba,fX];omega
  have hk:=key (b:=q+1) h2 λp hp=>⟨h1 p hp,(hm p (aI _ hp)).2⟩;have hqa:q=a:=by
   rcases hk with g|g
   ·omega
   ·have:n=0:=by rw[g]at hl;simpa using hl.symm
    omega
  subst hqa;rw[List.range'_succ,Ed (a:=q+1) (n:=n) h2 (λp hp=>⟨h1 p hp,by have:=(hm p (aI _ hp)).2;omega⟩) oO]
theorem CF {n c:Nat} {s:Rd} (I:MW n c s) (h:s.P.length=c):s.P=List.range c:=by
 rw[List.range_eq_range'];exact Ed I.inc (λp hp=>⟨ax _,by have:=I.lt p hp;omega⟩) h
theorem Ai {n c:Nat} {s:Rd} (I:MW n c s) (h:s.P.length=c) {l i:Nat} (hl:l<c) (hi:i<n):s.M i l=IU i l:=by
 have:=I.unit l oO i hi;rwa[CF I h,ai,List.getElem?_range hl,eZ]at this
def Us (n:Nat) (A:Mx):Rat:=if(lF n A n).P.length=n then(lF n A n).d else 0
theorem Rq (n:Nat) (A:Mx):Us n A=qZ n A:=by
 have I:=rinv n A n;have hl:=zY n A n;rw[K6 n A n];unfold Us;generalize lF n A n=s at*;by_cases h:s.P.length=n
 ·rw[aj h,n6 (B:=IU) λi hi j hj=>Ai I h hj hi,GJ,fp]
 ·rw[ah h,Dc (p:=n-1) oO λj hj=>I.low (n-1) oO oO j hj,dZ]
def kv (P:List Nat) (M:Mx) (f j:Nat):Rat:=if j=f then 1 else if j∈P then-M (P.idxOf j) f else 0
theorem xT {P:List Nat} (h:P.Pairwise (· < ·)):P.Nodup:=h.imp λg=>Nat.ne_of_lt g
theorem PQ {P:List Nat} {M:Mx} {f l:Nat} (hi:P.Pairwise (· < ·)) (hf:f∉P) (hl:l<P.length):kv P M f (P.getD l 0)= -M l f:=by
 have hm:=pf hl;unfold kv;rw[ah (λe=>hf (by rw[<-e];exact hm)),aj hm];congr 2;rw[ai,aG hl,eZ];exact(xT hi).idxOf_getElem l hl
theorem getD_inj {P:List Nat} (hi:P.Pairwise (· < ·)) {l k:Nat} (hl:l<P.length) (hk:k<P.length) (h:P.getD l 0=P.getD k 0):l=k:=by
 rw[ai,ai,aG hl,aG hk,eZ,eZ]at h;exact(jV (xT hi)).1 h
theorem Dv {P:List Nat} {j:Nat} (h:j∈P):∃l,l<P.length/\P.getD l 0=j:=by
 obtain⟨l,hl,e⟩:=eV h;exact⟨l,hl,by rw[ai,aG hl];exact e⟩
theorem Tx {P:List Nat} {M:Mx} {f m:Nat} (hi:P.Pairwise (· < ·)) (hf:f∉P) (hm:∀p∈P,p<m) (hfm:f<m) (A:Mx) (i:Nat) (hu:∀l,l<P.length->A i (P.getD l 0)=IU i l):
  mJ A (kv P M f) m i=if i<P.length then A i f-M i f else A i f:=by
 have e:mJ A (kv P M f) m i=kg (λj=>(if j=f then A i f else 0)+1*(if i<P.length/\j=P.getD i 0 then-M i f else 0)) m:=by
  refine km λj hj=> ?_;by_cases h1:j=f
  ·rw[aj h1,ah (λg=>hf (by rw[<-h1,g.2];exact pf g.1)),h1];unfold kv;rw[aj rfl];grind
  ·rw[ah h1];by_cases h2:j∈P
   ·obtain⟨l,hl,rfl⟩:=Dv h2;rw[PQ hi hf hl,hu l hl];by_cases h3:i=l
    ·rw[aj ⟨oO,by rw[h3]⟩,h3,wY];grind
    ·rw[ah (λg=>h3 (getD_inj hi g.1 hl g.2.symm)),tm h3];grind
   ·rw[ah (λg=>h2 (by rw[g.2];exact pf g.1))];unfold kv;rw[ah h1,ah h2];grind
 rw[e,mX,nF (p:=f) hfm λj _ h=>ah h,aj rfl];by_cases h:i<P.length
 ·rw[aj h,nF (p:=P.getD i 0) (hm _ (pf h)) λj _ g=>ah λq=>g q.2,aj ⟨h,rfl⟩];grind
 ·rw[ah h,kW λj _=>ah λq=>h q.1];grind
theorem Kb {n m:Nat} {s:Rd} (I:MW n m s) {f:Nat} (hf:f∉s.P) (hfm:f<m):Iv n m s.M (kv s.P s.M f):=by
 intro i hi;rw[Tx I.inc hf I.lt hfm s.M i λl hl=>I.unit l hl i hi];split
 ·grind
 ·exact I.low i oO hi f hfm
theorem Nc {n m:Nat} {A:Mx} {x y:Nat->Rat} (h:∀j,j<m->x j=y j):Iv n m A x↔Iv n m A y:=by
 have:∀i,mJ A x m i=mJ A y m i:=λi=>km λj hj=>by rw[h j hj]
 unfold Iv;constructor
 ·intro g i hi;rw[<-this];exact g i hi
 ·intro g i hi;rw[this];exact g i hi
theorem SZ (n c:Nat) (A:Mx):(lF n A (c+1)).P=if pv (lF n A c).M c n (lF n A c).P.length<n then(lF n A c).P++[c]else(lF n A c).P:=by
 show(sO n c (lF n A c)).P=_;unfold sO;split<;>rfl
theorem AZ {α:Type} (q:α->Bool):∀l:List α,(l.filter q).length+(l.filter λa=> !q a).length=l.length
 | []=>rfl
 |a::l=>by
  have:=AZ q l;rw[fB,fB];cases q a<;>simp only[jE,jG,gX,iD,Bool.not_false,ba]<;>omega
theorem B6 {P:List Nat} {m:Nat} (hi:P.Pairwise (· < ·)) (hm:∀p∈P,p<m):((List.range m).filter λf=> !decide (f∈P)).length+P.length=m:=by
 have hp:((List.range m).filter λf=>decide (f∈P)).Perm P:=by
  refine(List.perm_ext_iff_of_nodup (List.nodup_range.filter _) (xT hi)).2 λa=> ?_;rw[dS,cS,fJ];exact⟨λh=>h.2,λh=>⟨hm a h,h⟩⟩
 have h1:=hp.length_eq;have h2:=AZ (λf=>decide (f∈P)) (List.range m);rw[dE]at h2;omega
theorem wF {n k:Nat} {A:Mx} (h:(lF n A (k+1)).P.length=k+1):(lF n A k).P.length=k/\pv (lF n A k).M k n k<n:=by
 have h1:=(yr n A k 1).2;have h2:=zY n A k;have e:(lF n A k).P.length=k:=oO;refine⟨e,?_⟩;rw[SZ,e]at h;by_cases g:pv (lF n A k).M k n k<n
 ·exact g
 ·rw[ah g,e]at h;omega
theorem wJ {n k:Nat} {A:Mx} (h:(lF n A k).P.length=k) (hp:pv (lF n A k).M k n k<n):(lF n A (k+1)).P.length=k+1/\(lF n A (k+1)).M=elim (oH (lF n A k).M k (pv (lF n A k).M k n k)) k ((lF n A k).M (pv (lF n A k).M k n k) k) λi=>oH (lF n A k).M k (pv (lF n A k).M k n k) i k:=by
 refine⟨by rw[SZ,h,aj hp];simp[h],?_⟩;show(sO n k (lF n A k)).M=_;unfold sO;rw[h,aj hp]
def dd (n:Nat) (B:Mx):Nat->Rat
 |0=>1
 |k+1=>dd n B k*(lF n B k).M (pv (lF n B k).M k n k) k
def vw (B:Mx):Prop:=∀i j,∃z:Int,B i j=z
def S5 (n:Nat) (B:Mx) (k:Nat) (B':Mx):Prop:=vw B'/\∀(K:Nat) (s σ:Nat->Nat),k<=K->(∀a,a<k->s a=a)->(∀a,k<=a->a<K->k<=s a/\s a<n)->
 qZ K (λa b=>B' (s a) (σ b))=dd n B k*qZ K λa b=>(lF n B k).M (s a) (σ b)
theorem P3 {n:Nat} {B:Mx} (hB:vw B):∀k,(lF n B k).P.length=k->∃B',S5 n B k B'
 |0,_=>⟨B,hB,λK s σ _ _ _=>(dW _).symm⟩
 |k+1,h=>by
  obtain⟨hk,hp⟩:=wF h;obtain⟨B',hB',hI⟩:=P3 hB k hk;obtain⟨_,eM⟩:=wJ hk hp;have hlen:=(rinv n B k).len;obtain⟨h1,_,_,h4⟩:=py (lF n B k).M k (n:=n) (r:=k) oO;have ha:=h4 hp;unfold S5;rw[eM];show∃B',vw B'/\∀(K:Nat) (s σ:Nat->Nat),k+1<=K->(∀a,a<k+1->s a=a)->(∀a,k+1<=a->a<K->k+1<=s a/\s a<n)->qZ K (λa b=>B' (s a) (σ b))=(dd n B k*(lF n B k).M (pv (lF n B k).M k n k) k)*_;generalize pv (lF n B k).M k n k=p at*;generalize (lF n B k).M=N at*;refine⟨oH B' k p,λi j=> ?_,λK s σ hK hs1 hs2=> ?_⟩
  ·unfold oH;split
   ·exact hB' _ _
   ·split
    ·exact hB' _ _
    ·exact hB' _ _
  ·have hsw:∀X:Mx,(λa b=>oH X k p (s a) (σ b))=λa b=>X (if s a=k then p else if s a=p then k else s a) (σ b):=by
    intro X;funext a b;unfold oH;split
    ·rfl
    ·split<;>rfl
   have e:=hI K (λa=>if s a=k then p else if s a=p then k else s a) σ oO (λa ha=>by
    have:=hs1 a oO;show(if s a=k then p else if s a=p then k else s a)=a;rw[this,ah oO,ah oO]) λa h1' h2'=>by
     show k<=(if s a=k then p else if s a=p then k else s a)/\(if s a=k then p else if s a=p then k else s a)<n;by_cases g:a=k
     ·rw[hs1 a oO,aj g];omega
     ·have:=hs2 a oO h2';rw[ah oO];split<;>omega
   rw[hsw B',e,iz];congr 1;rw[<-hsw N];have hsk:=hs1 k oO;have ed:=HZ (n:=K) (r:=k) oO (λa b=>oH N k p (s a) (σ b)) ha λa=>oH N k p (s a) k;rw[ed];congr 1;refine n6 λa ha' b _=> ?_;by_cases g:a=k
   ·rw[g,tA,hsk,tA]
   ·have hne:s a≠k:=by
     by_cases g2:a<k
     ·rw[hs1 a oO];exact g
     ·have:=hs2 a oO ha';omega
    rw[rN _ g,rN _ hne,hsk]
theorem UC {n:Nat} {B:Mx} (hB:vw B) {k:Nat} (hk:(lF n B k).P.length=k) {i:Nat} (hi:i<n) (j:Nat):∃z:Int,dd n B k*(lF n B k).M i j=z:=by
 obtain⟨B',hB',hI⟩:=P3 hB k hk;have I:=rinv n B k;have hlen:=I.len;have hu:∀ {l i:Nat},l<k->i<n->(lF n B k).M i l=IU i l:=λhl hi=>Ai I hk hl hi;by_cases g:i<k
 ·have e:=hI k (λa=>a) (λb=>if b=i then j else b) (aB _) (λa _=>rfl) λa h1 h2=>absurd h2 oO;rw[n6 (A:=λa b=>(lF n B k).M a (if b=i then j else b)) (B:=yo i λa=>(lF n B k).M a j) λa ha b hb=> ?_,CV _ g]at e
  ·rw[<-e];exact FE λa _ b _=>hB' _ _
  ·unfold yo;by_cases h:b=i
   ·rw[aj h,aj h]
   ·rw[ah h,ah h];exact hu hb oO
 ·have e:=hI (k+1) (λa=>if a<k then a else i) (λb=>if b<k then b else j) oO (λa ha=>aj ha) λa h1 h2=>by
   show k<=(if a<k then a else i)/\(if a<k then a else i)<n;rw[ah oO];omega
  rw[n6 (A:=λa b=>(lF n B k).M (if a<k then a else i) (if b<k then b else j)) (B:=yo k λa=>(lF n B k).M (if a<k then a else i) j) λa ha b hb=> ?_,CV _ oO,ah (dB _)]at e
  ·rw[<-e];exact FE λa _ b _=>hB' _ _
  ·unfold yo;by_cases h:b=k
   ·rw[ah (show¬b<k by omega),aj h]
   ·rw[aj (show b<k by omega),ah h];by_cases h2:a<k
    ·rw[aj h2];exact hu oO oO
    ·rw[ah h2,hu oO hi,tm oO,tm oO]
theorem HG {n:Nat} {B:Mx}:∀k,(lF n B k).P.length=k->dd n B k≠0
 |0,_=>by show(1:Rat)≠0;decide
 |k+1,h=>by
  obtain⟨hk,hp⟩:=wF h;have hlen:=(rinv n B k).len;intro e;rcases fH.1 e with g|g
  ·exact HG k hk g
  ·exact(py (lF n B k).M k (n:=n) (r:=k) oO).2.2.2 hp g
def Jn (W:Nat->Nat->Int) (p q:Nat):Nat->Nat->Int:=λi j=>if i=p then W q j else if i=q then W p j else W i j
def D7 (W:Nat->Nat->Int) (k:Nat) (last:Int):Nat->Nat->Int:=λi j=>if i=k then W k j else if j=k then 0 else(W k k*W i j-W i k*W k j).tdiv last
def H7 (n m:Nat) (B:Mx) (k:Nat) (W:Nat->Nat->Int):Prop:=∀i,i<n->∀j,j<m->((W i j:Int):Rat)=dd n B k*(lF n B k).M i j
theorem N7 {n m k:Nat} {B:Mx} {W:Nat->Nat->Int} (h:H7 n m B k W) (hk:(lF n B k).P.length=k) {i j:Nat} (hi:i<n) (hj:j<m):W i j=0↔(lF n B k).M i j=0:=by
 have e:=h i hi j hj;constructor
 ·intro g;rw[g]at e;rcases fH.1 e.symm with q|q
  ·exact absurd q (HG k hk)
  ·exact q
 ·intro g;rw[g,dZ]at e;exact gR.1 e
theorem OX {n m k:Nat} {B:Mx} {W:Nat->Nat->Int} (hB:vw B) (h:H7 n m B k W) (hk:(lF n B k).P.length=k) (hkm:k<m) (hp:pv (lF n B k).M k n k<n) {last:Int} (hl:((last:Int):Rat)=dd n B k):
  H7 n m B (k+1) (D7 (Jn W k (pv (lF n B k).M k n k)) k last)/\((D7 (Jn W k (pv (lF n B k).M k n k)) k last k k:Int):Rat)=dd n B (k+1):=by
 obtain⟨hk1,eM⟩:=wJ hk hp;have hlen:=(rinv n B k).len;obtain⟨h1,_,_,h4⟩:=py (lF n B k).M k (n:=n) (r:=k) oO;have ha:=h4 hp;have hd:dd n B (k+1)=dd n B k*(lF n B k).M (pv (lF n B k).M k n k) k:=rfl;have hd0:=HG k hk;have hex:=λi (hi:i<n) j=>UC hB hk1 hi j;have hW:∀i,i<n->∀j,j<m->((Jn W k (pv (lF n B k).M k n k) i j:Int):Rat)=dd n B k*oH (lF n B k).M k (pv (lF n B k).M k n k) i j:=by
  intro i hi j hj;unfold Jn oH;split
  ·exact h _ hp j hj
  ·split
   ·exact h _ oO j hj
   ·exact h _ hi j hj
 unfold H7;rw[eM]at hex⊢;rw[hd]at hex⊢;generalize hpp:pv (lF n B k).M k n k=p at*;generalize (lF n B k).M=N at*;generalize Jn W k p=V at*;generalize dd n B k=D at*;have hkk:((V k k:Int):Rat)=D*N p k:=by rw[hW k oO k hkm,pT]
 refine⟨λi hi j hj=> ?_,by unfold D7;rw[aj rfl];exact hkk⟩;unfold D7;by_cases g:i=k
 ·rw[aj g,g,hW k oO j hj,tA];rw[bR];have:=bX _ ha;grind
 ·rw[ah g];by_cases g2:j=k
  ·rw[aj g2,g2,rN _ g,pT,bR,bX _ ha];show((0:Int):Rat)=_;grind
  ·rw[ah g2];obtain⟨z,hz⟩:=hex i hi j;have e:V k k*V i j-V i k*V k j=last*z:=by
    refine gR.1 ?_;rw[j0,eR,eR,eR,hkk,hW i hi j hj,hW i hi k hkm,hW k oO j hj,hl,<-hz,rN _ g,pT,bR];have:=bX _ ha;grind
   have hl0:last≠0:=λq=>hd0 (by rw[<-hl,q];rfl);rw[e,Int.mul_tdiv_cancel_left _ hl0,<-hz]
theorem vB {n:Nat} {A B:Mx} {c:Nat->Rat} (hc:∀i,i<n->c i≠0) (hB:∀i,i<n->∀j,B i j=c i*A i j):∀k,(lF n A k).P.length=k->
  (lF n B k).P.length=k/\∃c':Nat->Rat,(∀i,i<n->c' i≠0)/\∀i,i<n->∀j,(lF n B k).M i j=(if i<k then 1 else c' i)*(lF n A k).M i j
 |0,_=>⟨rfl,c,hc,λi hi j=>by rw[ah (aS _)];exact hB i hi j⟩
 |k+1,h=>by
  obtain⟨hk,hp⟩:=wF h;obtain⟨hkB,c',hc',hM⟩:=vB hc hB k hk;obtain⟨hk1,eA⟩:=wJ hk hp;have hlen:=(rinv n A k).len;have ep:pv (lF n B k).M k n k=pv (lF n A k).M k n k:=N6 oO λi h1 h2=>by
   rw[hM i h2,ah oO];constructor
   ·intro g;rcases fH.1 g with q|q
    ·exact absurd q (hc' i h2)
    ·exact q
   ·intro g;rw[g,dZ]
  obtain⟨hk2,eB⟩:=wJ hkB (by rw[ep];exact hp);refine⟨hk2,?_⟩;rw[eA,eB,ep];obtain⟨h1,_,_,h4⟩:=py (lF n A k).M k (n:=n) (r:=k) oO;have ha:=h4 hp;generalize pv (lF n A k).M k n k=p at*;generalize (lF n A k).M=M at*;generalize (lF n B k).M=N at*;have hcp:=hc' p hp;have hr:∀j,N p j/N p k=M p j/M p k:=by
   intro j;rw[hM p hp j,hM p hp k,ah oO,bR,bR];have e1:=bX _ ha;have e2:=bX _ hcp;have e3:(c' p*M p k)⁻¹ =(c' p)⁻¹ *(M p k)⁻¹ :=by
    have h0:c' p*M p k≠0:=λq=>by
     rcases fH.1 q with w|w
     ·exact hcp w
     ·exact ha w
    have e4:=bX _ h0;grind
   rw[e3];grind
  refine⟨λi=>if i=p then c' k else c' i,λi hi=> ?_,λi hi j=> ?_⟩
  ·show(if i=p then c' k else c' i)≠0;split
   ·exact hc' k oO
   ·exact hc' i hi
  ·by_cases g:i=k
   ·rw[g,tA,tA,pT,pT,hr,aj oO,dW]
   ·rw[rN _ g,rN _ g,pT,pT,hr];by_cases g2:i=p
    ·have f1:oH N k p p j=c' k*M k j:=by rw[sP,hM k oO,ah oO]
     have f2:oH N k p p k=c' k*M k k:=by rw[sP,hM k oO,ah oO]
     have f3:oH M k p p j=M k j:=by rw[sP]
     have f4:oH M k p p k=M k k:=by rw[sP]
     dsimp only;rw[g2,f1,f2,f3,f4,ah oO,aj rfl];grind
    ·have f1:=hM i hi j;have f2:=hM i hi k;rw[ud N g g2,ud M g g2];dsimp only;have q1:oH N k p i k=N i k:=ud _ g g2 _;have q2:oH M k p i k=M i k:=ud _ g g2 _;rw[q1,q2];by_cases g3:i<k
     ·rw[aj g3]at f1 f2;rw[f1,f2,aj oO];grind
     ·rw[ah g3]at f1 f2;rw[f1,f2,ah oO,ah g2];grind
open Go Go.RowKit Go.Proofs.YtoeiejliehgopaaGreatDoor
structure Rw (α:Type)where
 b:Nat
 cap:Nat
 X:List α
 sp:List Value
def oK {α:Type}:Rw α:=⟨0,0,[],[]⟩
def Rw.v {α:Type} (r:Rw α):Value:= .slice (some ⟨r.b,0,none⟩) r.X.length r.cap
def Rw.x4 {α:Type} (enc:α->List Value) (t:TypeId) (r:Rw α):kV:=(r.b,t,r.X.flatMap enc++r.sp)
def Rw.put {α:Type} (r:Rw α) (j:Nat) (u:α):Rw α:=⟨r.b,r.cap,r.X.set j u,r.sp⟩
def mB {α:Type} (enc:α->List Value) (t tS:TypeId) (bo:Nat) (R:List (Rw α)) (H:List kV):List kV:=(bo,tS,R.map Rw.v)::(R.map (Rw.x4 enc t)++H)
theorem nz {α:Type} (l:List α) (d:α) {i:Nat} (h:i<l.length):l.getD i d=l[i]:=by
 rw[ai,aG h];rfl
theorem nq {α:Type} (l:List α) (d u:α) {i j:Nat} (hi:i<l.length):(l.set i u).getD j d=if j=i then u else l.getD j d:=by
 rw[ai,fv,ai];by_cases h:j=i
 ·subst h;simp[hi]
 ·rw[ah (λe=>h e.symm),ah h]
theorem PD {α:Type} {enc:α->List Value} {t tS:TypeId} {bo:Nat} {R:List (Rw α)} {H:List kV} {i:Nat} (hi:i<R.length):(mB enc t tS bo R H)[i+1]?=some ((R.getD i oK).b,t,(R.getD i oK).X.flatMap enc++(R.getD i oK).sp):=by
 unfold mB;rw[List.getElem?_cons_succ,cZ (by rw[aO];exact hi),eQ,aG hi,nz R oK hi];rfl
theorem Dj {α:Type} {R:List (Rw α)} {i:Nat} (hi:i<R.length):(R.map Rw.v)[i]?=some (R.getD i oK).v:=by
 rw[eQ,aG hi,nz R oK hi];rfl
theorem Vi {α:Type} (r:Rw α) (j:Nat) (u:α):(r.put j u).v=r.v:=by
 unfold Rw.v Rw.put;rw[cj]
theorem Nn {α:Type} (R:List (Rw α)) {i:Nat} (j:Nat) (u:α) (hi:i<R.length):(R.set i ((R.getD i oK).put j u)).map Rw.v=R.map Rw.v:=by
 rw[gZ,Vi,nz R oK hi];refine fa (by simp) λk h1 h2=> ?_;rw[List.getElem_set];split
 ·next h=>subst h;rw[en]
 ·rfl
theorem Ux {α:Type} {enc:α->List Value} {t tS:TypeId} {bo:Nat} {R:List (Rw α)} {H:List kV} {i:Nat} (j:Nat) (u:α) (hi:i<R.length):
  (mB enc t tS bo R H).set (i+1) ((R.getD i oK).b,t,((R.getD i oK).X.set j u).flatMap enc++(R.getD i oK).sp)=mB enc t tS bo (R.set i ((R.getD i oK).put j u)) H:=by
 unfold mB;rw[Nn R j u hi,List.set_cons_succ,List.set_append_left _ _ (by rw[aO];exact hi),gZ];rfl
def CW {α:Type} (R:List (Rw α)) (i j:Nat):List (Rw α):=(R.set i (R.getD j oK)).set j (R.getD i oK)
theorem OF {α:Type} (R:List (Rw α)) (i j:Nat):(CW R i j).length=R.length:=by unfold CW;rw[cj,cj]
theorem H3 {α:Type} (R:List (Rw α)) {i j:Nat} (hi:i<R.length) (hj:j<R.length) (k:Nat):(CW R i j).getD k oK=if k=j then R.getD i oK else if k=i then R.getD j oK else R.getD k oK:=by
 unfold CW;rw[nq _ _ _ (by rw[cj];exact hj),nq _ _ _ hi]
structure mx {α:Type} (R:List (Rw α)) (n m:Nat) (f:Nat->Nat->α):Prop where
 len:R.length=n
 row:∀i,i<n->(R.getD i oK).X=ku m (f i)
 cap:∀i,i<n->m<=(R.getD i oK).cap/\(R.getD i oK).cap<=9223372036854775807
section
variable {α : Type} {R : List (Rw α)} {n m : Nat} {f g : Nat → Nat → α}
theorem mx.xV (h:mx R n m f) {i:Nat} (hi:i<n):(R.getD i oK).X.length=m:=by rw[h.row i hi,ka]
theorem mx.v (h:mx R n m f) {i:Nat} (hi:i<n):(R.getD i oK).v= .slice (some ⟨(R.getD i oK).b,0,none⟩) m (R.getD i oK).cap:=by unfold Rw.v;rw[h.xV hi]
theorem mx.get (h:mx R n m f) {i j:Nat} (hi:i<n) (hj:j<m) (d:α):(R.getD i oK).X.getD j d=f i j:=by rw[h.row i hi];exact kw _ _ hj
theorem mx.congr (h:mx R n m f) (e:∀i,i<n->∀j,j<m->f i j=g i j):mx R n m g:=⟨h.len,λi hi=>by rw[h.row i hi];exact kB λj hj=>e i hi j hj,h.cap⟩
theorem mx.put (h:mx R n m f) {i:Nat} (hi:i<n) (j:Nat) (u:α):mx (R.set i ((R.getD i oK).put j u)) n m λa b=>if a=i/\b=j then u else f a b:=by
 have hl:i<R.length:=by rw[h.len];exact hi
 refine⟨by rw[cj,h.len],λa ha=> ?_,λa ha=> ?_⟩
 ·rw[nq _ _ _ hl];by_cases e:a=i
  ·rw[aj e];show(R.getD i oK).X.set j u=_;rw[h.row i hi,nx,e];exact kB λb _=>by
    by_cases q:b=j
    ·rw[aj q,aj ⟨rfl,q⟩]
    ·rw[ah q,ah λz=>q z.2]
  ·rw[ah e,h.row a ha];exact kB λb _=>by rw[ah λz=>e z.1]
 ·rw[nq _ _ _ hl];by_cases e:a=i
  ·rw[aj e];exact h.cap i hi
  ·rw[ah e];exact h.cap a ha
theorem mx.GR (h:mx R n m f) {i j:Nat} (hi:i<n) (hj:j<n):mx (CW R i j) n m λa b=>if a=j then f i b else if a=i then f j b else f a b:=by
 have hi':i<R.length:=by rw[h.len];exact hi
 have hj':j<R.length:=by rw[h.len];exact hj
 refine⟨by rw[OF,h.len],λa ha=> ?_,λa ha=> ?_⟩
 ·rw[H3 R hi' hj'];by_cases e1:a=j
  ·simp only[aj e1];exact h.row i hi
  ·by_cases e2:a=i
   ·simp only[ah e1,aj e2];exact h.row j hj
   ·simp only[ah e1,ah e2];exact h.row a ha
 ·rw[H3 R hi' hj'];split
  ·exact h.cap i hi
  ·split
   ·exact h.cap j hj
   ·exact h.cap a ha
theorem mx.sl {enc:α->List Value} {size:Nat} {t tS:TypeId} {bo:Nat} {H:List kV} {w0 w:World} (h:mx R n m f) (hS:St w0 w (mB enc t tS bo R H)) (hu:∀x,(enc x).length=size) {i:Nat} (hi:i<n):Sl enc size w (R.getD i oK).v (ku m (f i)):=by
 have hl:i<R.length:=by rw[h.len];exact hi
 have:=hS.Xx (PD hl) hu (n:=m) (cap:=(R.getD i oK).cap) (by rw[h.xV hi];omega) (h.cap i hi).1 (h.cap i hi).2;rwa[h.row i hi,aU (by rw[ka];omega),<-h.v hi]at this
def sU (v:Value):List Value:=[v]
theorem Cy (l:List Value):l.flatMap sU=l:=by
 induction l with
 |nil=>rfl
 |cons a l ih=>rw[cw,ih];rfl
theorem mx.outer {enc:α->List Value} {t tS:TypeId} {bo:Nat} {H:List kV} {w0 w:World} (h:mx R n m f) (hS:St w0 w (mB enc t tS bo R H)) {cap:Nat} (h1:n<=cap) (h2:cap<=9223372036854775807):Sl sU 1 w (.slice (some ⟨bo,0,none⟩) n cap) (R.map Rw.v):=by
 have hk:(mB enc t tS bo R H)[0]?=some (bo,tS,R.map Rw.v):=rfl;rw[<-Cy (R.map Rw.v)]at hk;have:=hS.sle hk (λ_=>rfl) (n:=n) (cap:=cap) (by rw[aO,h.len];omega) h1 h2;rwa[aU (by rw[aO,h.len];omega)]at this
end
structure qE {α:Type} (enc:α->List Value) (size:Nat) (w:World) (v:Value) (A:List (List α)) (vs:List Value):Prop where
 len:vs.length=A.length
 sl:Sl sU 1 w v vs
 row:∀i,i<A.length->Sl enc size w (vs.getD i undef) (A.getD i [])
theorem qE.j5 {α:Type} {enc:α->List Value} {size:Nat} {w w':World} {v:Value} {A:List (List α)} {vs:List Value} (h:qE enc size w v A vs) (hb:Below w.heap.size w w'):qE enc size w' v A vs:=⟨h.len,h.sl.j5 hb,λi hi=>(h.row i hi).j5 hb⟩
def wD {α:Type} (n m:Nat) (f:Nat->Nat->α):List (List α):=ku n λi=>ku m (f i)
theorem mQ {α:Type} (n m:Nat) (f:Nat->Nat->α):(wD n m f).length=n:=ka _ _
theorem pD {α:Type} {n m:Nat} (f:Nat->Nat->α) {i:Nat} (hi:i<n):(wD n m f).getD i []=ku m (f i):=kw _ _ hi
theorem mx.K0 {α:Type} {R:List (Rw α)} {n m:Nat} {f:Nat->Nat->α} {enc:α->List Value} {size:Nat} {t tS:TypeId} {bo:Nat} {H:List kV} {w0 w:World} (h:mx R n m f) (hS:St w0 w (mB enc t tS bo R H)) (hu:∀x,(enc x).length=size) {cap:Nat} (h1:n<=cap) (h2:cap<=9223372036854775807):
  qE enc size w (.slice (some ⟨bo,0,none⟩) n cap) (wD n m f) (R.map Rw.v):=by
 refine⟨by rw[aO,h.len,mQ],h.outer hS h1 h2,λi hi=> ?_⟩;rw[mQ]at hi;rw[pD f hi,ai,Dj (by rw[h.len];exact hi)];exact h.sl hS hu hi
section
variable {P : Program} {N : Nat} {ρ : Nat → Value} {w0 w w' : World} {d : Option Tmp} {ty : TypeId} {pos : String} {aft : Array Edge} {g : Option (Nat × Bool)} {x y z : Operand} {t t' e : TypeId} {H : List kV} {k b o : Nat} {v : Value} {K : Value → Prop} {K2 : Value → World → Prop}
  {α : Type} {enc : α → List Value} {size : Nat} {R : List (Rw α)} {tR tS : TypeId} {bo : Nat} {zz : List Value}
end
end Go.Sx
namespace Go.Proofs.YtoeiejliehgopaaGreatDoor
open Go Go.RowKit Go.Sx
def mZ (A:List (List RR)):Nat:=(A.getD 0 []).length
def Bd (A:List (List RR)):Bool:=A.all λr=>decide (r.length=mZ A)
def ua (A:List (List RR)):Int:=if A.length=0\/mZ A=0 then 4 else if Bd A=false then 4 else if 16<A.length\/16<mZ A then 2 else 0
def OA (A:List (List RR)):Int:=if ua A≠0 then ua A else if A.length≠mZ A then 4 else 0
theorem xz {A:List (List RR)} (h:ua A=0):1<=A.length/\A.length<=16/\1<=mZ A/\mZ A<=16/\∀i,i<A.length->(A.getD i []).length=mZ A:=by
 unfold ua at h;split at h
 ·cases h
 ·next h1=>
  split at h
  ·cases h
  ·next h2=>
   split at h
   ·cases h
   ·next h3=>
    refine⟨oO,oO,oO,oO,λi hi=> ?_⟩;have h4:Bd A=true:=by cases q:Bd A with
     |true=>rfl
     |false=>exact absurd q h2
    have:=cJ.1 h4 _ (kH A i [] hi);exact gl this
theorem Ip {α:Type} (f:α->Bool) (l:List α) (d:α) {i:Nat} (hi:i<l.length) (h:(l.take i).all f=true):
  (f (l.getD i d)=true->(l.take (i+1)).all f=true)/\(f (l.getD i d)=false->l.all f=false):=by
 have e:l.take (i+1)=l.take i++[l.getD i d]:=by
  rw[jL hi,ai,aG hi];rfl
 constructor
 ·intro g;rw[e,fI,h,fV,g];rfl
 ·intro g;rw[List.all_eq_false];exact⟨_,kH l i d hi,by rw[g];simp⟩
theorem EO (v:Value) (A:List (List RR)) (vs:List Value) (w:World) (hA:qE j6 3 w v A vs):
  lW Tryz.prog 170 #[v] w λr w'=>r= .int .i64 (ua A)/\Below w.heap.size w w':=by
 have hS:=St.init w;have hmx:=hA.sl.maxLen;have hlen:=hA.len;refine enter Tryz.func170 rfl Tryz.ntmps170 rfl ?_;refine V1 ?_;by_cases h0:A.length=0
 ·have he:ua A=4:=aj (.inl h0);rw[he];refine J1 ?_;refine jp (kj rfl (hA.sl.j5 hS.j5) ⟨_,Tryz.underlying35⟩ ?_);refine J2 ?_;refine kN (kb 8 kR rfl dT) (kN (kb 8 kR rfl dT) (kN (kb 8 kR rfl dT) (kN (kb 8 kR rfl dT) (kN (kb 8 kR rfl dT) (jp (kC (vb rfl dT) rfl ?_))))));refine ja ?_;refine k9 rfl (rfl) ?_;refine J1 ?_;refine jt ?_;refine kD rfl rfl ?_;exact⟨rfl,hS.j5⟩
 have hr0:=hA.row 0 oO;have hm0:=hr0.maxLen;refine J1 ?_;refine jp (kj rfl (hA.sl.j5 hS.j5) ⟨_,Tryz.underlying35⟩ ?_);refine J2 ?_;refine kf (j8 8 kR rfl dF) (ks rfl (kf (j8 8 kR rfl dF) (kp (i:=0) rfl rfl (hA.sl.j5 hS.j5) oO dO lL (lD (j8 8 kR rfl dF) (ky (i:=0) undef rfl lV (hA.sl.j5 hS.j5) dO rfl rfl (.inr rfl) (kf (j8 8 kR rfl dF) (kj rfl (hr0.j5 hS.j5) ⟨_,Tryz.underlying34⟩ (kf (j8 8 kR rfl dF) (qd rfl rfl (jp (kC (vb rfl dF) rfl ?_)))))))))));refine ja ?_;have hc0:mZ A=(A.getD 0 []).length:=rfl;by_cases h1:mZ A=0
 ·have he:ua A=4:=aj (.inr h1);rw[he];refine J2 ?_;refine jt ?_;refine kD rfl rfl ?_;exact⟨rfl,hS.j5⟩
 refine V1 ?_;have e1:ua A=if Bd A=false then 4 else if 16<A.length\/16<mZ A then 2 else 0:=ah oO
 refine J1 ?_;refine jp (kj rfl (hA.sl.j5 hS.j5) ⟨_,Tryz.underlying35⟩ ?_);refine J1 ?_;refine jb ?_;refine kz (λρ w'=>Bd A=true/\ρ 0=v/\St w w' []) ?_ ?_
 ·refine ja ?_;refine kx (σ:=Nat) (λi ρ w'=>i<=A.length/\(A.take i).all (λr=>decide (r.length=mZ A))=true/\ρ 0=v/\ρ 15=v/\ρ 16=iB A.length/\ρ 17=iB i/\St w w' []) (λi=>A.length-i) 0
   ⟨ax _,by simp,rfl,rfl,vi rfl oO,rfl,hS⟩ ?_
  clear hS;rintro i ρ w2 ⟨hi,hall,h0',h15,h16,h17,hS⟩;refine V1 ?_;by_cases hlt:i<A.length
  ·refine V1 ?_;have hri:=hA.row i hlt;have hmi:=hri.maxLen;have hd:(A.getD i []).length=mZ A↔decide ((A.getD i []).length=mZ A)=true:=(fF).symm;refine jr ?_;refine jp (kp (i:=i) h15 h17 (hA.sl.j5 hS.j5) oO dO lL (jq (ky (i:=i) undef rfl lV (hA.sl.j5 hS.j5) dO rfl rfl (.inr rfl) ?_)));refine J2 ?_;refine jp (kj rfl (hri.j5 hS.j5) ⟨_,Tryz.underlying34⟩ ?_);refine J1 ?_;refine jp (kp (i:=0) rfl rfl (hA.sl.j5 hS.j5) oO dO lL (jq (ky (i:=0) undef rfl lV (hA.sl.j5 hS.j5) dO rfl rfl (.inr rfl) (jp (kj rfl (hr0.j5 hS.j5) ⟨_,Tryz.underlying34⟩ ?_)))));refine V1 ?_;by_cases hne:(A.getD i []).length=mZ A
   ·refine V3 ?_;exact⟨i+1,_,rfl,⟨hlt,(Ip (λr:List RR=>decide (r.length=mZ A)) A [] hlt hall).1 (hd.1 hne),jY,jY,jY,vi rfl oO,hS⟩,oO⟩
   ·refine V1 ?_;have he:ua A=4:=by
     have hev:Bd A=false:=(Ip (λr:List RR=>decide (r.length=mZ A)) A [] hlt hall).2 (ae hne);rw[e1,aj hev]
    rw[he];refine J1 ?_;refine jt ?_;refine kD rfl rfl ?_;exact⟨rfl,hS.j5⟩
  ·refine J1 ?_;refine jt ?_;obtain rfl:i=A.length:=oO;rw[bK]at hall;exact⟨_,rfl,hall,h0',hS⟩
 clear hS;rintro ρ w2 ⟨hev,h0',hS⟩;refine ja ?_;have e2:ua A=if 16<A.length\/16<mZ A then 2 else 0:=by rw[e1,ah (by rw[hev];simp)]
 rw[e2];by_cases h3:16<A.length
 ·rw[aj (.inl h3)];refine J1 ?_;refine jp (kj rfl (hA.sl.j5 hS.j5) ⟨_,Tryz.underlying35⟩ ?_);refine J2 ?_;refine kN (kb 32 kR rfl dT) (kN (kb 32 kR rfl dT) (kN (kb 32 kR rfl dT) (kN (kb 32 kR rfl dT) (kN (kb 32 kR rfl dT) (jp (kC (vb rfl dT) rfl ?_))))));refine ja ?_;refine k9 rfl (rfl) ?_;refine J1 ?_;refine jt ?_;refine kD rfl rfl ?_;exact⟨rfl,hS.j5⟩
 refine J1 ?_;refine jp (kj rfl (hA.sl.j5 hS.j5) ⟨_,Tryz.underlying35⟩ ?_);refine J2 ?_;refine kf (j8 32 kR rfl dF) (ks h0' (kf (j8 32 kR rfl dF) (kp (i:=0) rfl rfl (hA.sl.j5 hS.j5) oO dO lL (lD (j8 32 kR rfl dF) (ky (i:=0) undef rfl lV (hA.sl.j5 hS.j5) dO rfl rfl (.inr rfl) (kf (j8 32 kR rfl dF) (kj rfl (hr0.j5 hS.j5) ⟨_,Tryz.underlying34⟩ (kf (j8 32 kR rfl dF) (uc rfl rfl (jp (kC (vb rfl dF) rfl ?_)))))))))));refine ja ?_;by_cases h4:16<mZ A
 ·rw[aj (.inr h4)];refine J2 ?_;refine jt ?_;refine kD rfl rfl ?_;exact⟨rfl,hS.j5⟩
 rw[ah oO];refine J2 ?_;refine jt ?_;refine kD rfl rfl ?_;exact⟨rfl,hS.j5⟩
theorem Jk (v:Value) (A:List (List RR)) (vs:List Value) (w:World) (hA:qE j6 3 w v A vs):
  lW Tryz.prog 140 #[v] w λr w'=>r= .int .i64 (OA A)/\Below w.heap.size w w':=by
 have hS:=St.init w;have hmx:=hA.sl.maxLen;have hlen:=hA.len;refine enter Tryz.func140 rfl Tryz.ntmps140 rfl ?_;refine J2 ?_;refine jh (j7 Tryz.call170 rfl (EO v A vs _ (hA.j5 hS.j5)) ?_);rintro _ wc1 ⟨rfl,hBc1⟩;replace hS:=hS.ko hBc1;refine V3 ?_;by_cases h0:ua A=0
 ·refine V1 ?_;obtain⟨h1,h2,h3,h4,h5⟩:=xz h0;have hr0:=hA.row 0 oO;have hc0:mZ A=(A.getD 0 []).length:=rfl;have e1:OA A=if A.length≠mZ A then 4 else 0:=ah oO
  rw[e1];refine J1 ?_;refine jp (kj rfl (hA.sl.j5 hS.j5) ⟨_,Tryz.underlying35⟩ ?_);refine J1 ?_;refine jp (kp (i:=0) rfl rfl (hA.sl.j5 hS.j5) oO dO lL (jq (ky (i:=0) undef rfl lV (hA.sl.j5 hS.j5) dO rfl rfl (.inr rfl) (jp (kj rfl (hr0.j5 hS.j5) ⟨_,Tryz.underlying34⟩ ?_)))));refine V1 ?_;by_cases h6:A.length=mZ A
  ·rw[ah oO];refine J2 ?_;refine jt ?_;refine kD rfl rfl ?_;exact⟨rfl,hS.j5⟩
  ·rw[aj h6];refine J2 ?_;refine jt ?_;refine kD rfl rfl ?_;exact⟨rfl,hS.j5⟩
 ·have e1:OA A=ua A:=aj h0;rw[e1];refine J3 ?_;refine jt ?_;refine kD rfl rfl ?_;exact⟨rfl,hS.j5⟩
theorem AK (q:Rat) (w:World):lW Tryz.prog 197 #[lu (j9 q)] w λr w'=>r= .bool (decide (q=0))/\Below w.heap.size w w':=by
 have hS:=St.init w;refine enter Tryz.func197 rfl Tryz.ntmps197 rfl ?_;refine jr ?_;refine jh (lj (new:=j6 (j9 q)) rfl rfl hS ?_);intro b1 wz2 hS hBz2;refine J3 ?_;refine jp (tr rfl rfl ?_);refine J1 ?_;refine jt ?_;refine kD rfl rfl ?_;exact⟨bI Value.bool (dP.2 sR),hS.j5⟩
def RM (A:List (List RR)):Mx:=λi j=>toQ ((A.getD i []).getD j kP)
def Nq (k:Nat) (A:List (List RR)):Prop:=∀a∈A,RB k a
theorem OD {k:Nat} {A:List (List RR)} (h:Nq k A) {i j:Nat} (hi:i<A.length) (hj:j<(A.getD i []).length):Lr ((A.getD i []).getD j kP)<=k:=h _ (kH A i [] hi) _ (kH _ j kP hj)
theorem ME {k:Nat} {A:List (List RR)} (h:Nq k A) {i j:Nat} (hi:i<A.length) (hj:j<(A.getD i []).length):L (RM A i j)<=k:=dt (uK _) (OD h hi hj)
abbrev qM (M:Mx):Nat->Nat->RR:=λi j=>j9 (M i j)
theorem R8 {α:Type} (l:List α) (x:α) (r:List α) {i:Nat} (h:l.length=i):(l++x::r)[i]?=some x:=by
 subst h;rw[bV (aB _),dU];rfl
theorem BG {α:Type} (l:List α) (x y:α) (r:List α) {i:Nat} (h:l.length=i):(l++x::r).set i y=l++y::r:=by
 subst h;rw[gA _ _ (aB _),dU];rfl
theorem Un {α:Type} {enc:α->List Value} {e:TypeId} {size:Nat} {v:Value} {X:List α} {Lb:List kV} (h:Gl enc e size v X Lb) (hX:X≠ []):∃r:Rw α,r.X=X/\v=r.v/\Lb=[r.x4 enc e]/\r.X.length<=r.cap/\r.cap<=9223372036854775807/\(r.X.flatMap enc++r.sp).length=r.cap*size:=by
 obtain⟨_,⟨_,h2,_⟩|⟨b,cap,sp,h1,h2,h3,h4,h5⟩⟩:=h
 ·exact absurd (gi.1 h2) hX
 ·exact⟨⟨b,cap,X,sp⟩,rfl,h1,h2,h3,by unfold Go.maxLen at h4;omega,h5⟩
theorem AJ {α:Type} {R:List (Rw α)} {i m:Nat} {f:Nat->Nat->α} (h:mx R i m f) {r:Rw α} (hX:r.X=ku m (f i)) (hc:m<=r.cap/\r.cap<=9223372036854775807):mx (R++[r]) (i+1) m f:=by
 have hg:∀a,(R++[r]).getD a oK=if a<i then R.getD a oK else if a=i then r else oK:=by
  intro a;rw[ai];by_cases e:a<i
  ·rw[aj e,cZ (by rw[h.len];exact e),ai]
  ·rw[ah e,bV (by rw[h.len];omega),h.len];by_cases e2:a=i
   ·rw[aj e2,e2,dU];rfl
   ·rw[ah e2,dg (by simp;omega)];rfl
 refine⟨by rw[aw,h.len];rfl,λa ha=> ?_,λa ha=> ?_⟩
 ·rw[hg];by_cases e:a<i
  ·rw[aj e];exact h.row a e
  ·obtain rfl:a=i:=oO;rw[ah e,aj rfl];exact hX
 ·rw[hg];by_cases e:a<i
  ·rw[aj e];exact h.cap a e
  ·obtain rfl:a=i:=oO;rw[ah e,aj rfl];exact hc
def FF (R:List (Rw RR)):Prop:=∀r∈R,(r.X.flatMap j6++r.sp).length=r.cap*3
def ke:Value:= .slice none 0 0
theorem F2 (n:Nat):rep n [ke]=List.replicate n ke:=by
 induction n with
 |zero=>rfl
 |succ n ih=>rw[xf,ih];rfl
theorem Am (v:Value) (A:List (List RR)) (vs:List Value) (m K:Nat) (w:World) (hA:qE j6 3 w v A vs) (hn1:1<=A.length) (hn:A.length<=1000) (hm1:1<=m) (hm:m<=1000) (hev:∀i,i<A.length->(A.getD i []).length=m) (hB:Nq K A) (hK:K<=MX):
  lW Tryz.prog 141 #[v] w λr w'=>(∃bo R,r= .slice (some ⟨bo,0,none⟩) A.length A.length/\mx R A.length m (qM (RM A))/\FF R/\St w w' (mB j6 32 34 bo R []))/\Below w.heap.size w w':=by
 have hM:MX=1099511627776:=rfl;obtain⟨n,hn'⟩:∃n,n=A.length:=⟨_,rfl⟩;rw[<-hn']at hn1 hn hev⊢;have hS:=St.init w;have hlen:=hA.len;refine enter Tryz.func141 rfl Tryz.ntmps141 rfl ?_;refine J2 ?_;refine jp (kj rfl (hA.sl.j5 hS.j5) ⟨_,Tryz.underlying35⟩ (jh (AE (n:=n) rfl rfl lL oO oO oO oO hS ?_)));intro bo wz1 hS hBz1;refine V1 ?_;replace hS:St w _ [(bo,34,rep n [ke])]:=hS;rw[F2]at hS;refine J1 ?_;refine jp (kj rfl (hA.sl.j5 hS.j5) ⟨_,Tryz.underlying35⟩ ?_);refine J1 ?_;refine jb ?_;refine kz (λρ w'=>ρ 3= .slice (some ⟨bo,0,none⟩) n n/\∃R,mx R n m (qM (RM A))/\FF R/\St w w' (mB j6 32 34 bo R [])) ?_ ?_
 ·refine ja ?_;refine kx (σ:=Nat) (λi ρ w'=>i<=n/\ρ 3= .slice (some ⟨bo,0,none⟩) n n/\ρ 11=v/\ρ 12=iB n/\ρ 13=iB i/\∃R,mx R i m (qM (RM A))/\FF R/\St w w' ((bo,34,R.map Rw.v++List.replicate (n-i) ke)::R.map (Rw.x4 j6 32))) (λi=>n-i) 0
   ⟨ax _,rfl,rfl,vi rfl oO,rfl,[],⟨rfl,λi hi=>absurd hi (aS _),λi hi=>absurd hi (aS _)⟩,(λ_ h=>by cases h),hS⟩ ?_
  clear hS;rintro i ρ w2 ⟨hi,h3,h11,h12,h13,R,hR,hF,hS⟩;refine V1 ?_;by_cases hlt:i<n
  ·refine V1 ?_;have hri:=hA.row i oO;have hli:=hev i hlt;obtain⟨row,hrow⟩:=jz (A.getD i []);obtain⟨vr,hvr⟩:=jz (vs.getD i undef);rw[<-hrow]at hri hli;rw[<-hvr]at hri;obtain⟨d,hd⟩:∃d,n-i=d+1:=⟨n-i-1,oO⟩;rw[hd,fR]at hS;refine J1 ?_;refine jp (kp (i:=i) h11 h13 (hA.sl.j5 hS.j5) oO dO lL (jq (ky (i:=i) undef rfl lV (hA.sl.j5 hS.j5) dO rfl rfl (.inr rfl) ?_)));refine V2 ?_;rw[<-hvr];refine jr ?_;refine jp (ks rfl (jp (kj rfl (hri.j5 hS.j5) ⟨_,Tryz.underlying34⟩ ?_)));refine J1 ?_;refine jb ?_;refine kz (λρ w'=>ρ 3= .slice (some ⟨bo,0,none⟩) n n/\ρ 11=v/\ρ 12=iB n/\ρ 13=iB i/\∃vi_ Li,Gl j6 32 3 vi_ (ku m (qM (RM A) i)) Li/\St w w' (((bo,34,R.map Rw.v++vi_::List.replicate d ke)::R.map (Rw.x4 j6 32))++Li)) ?_ ?_
   ·refine ja ?_;refine kx (σ:=Nat) (λj ρ w'=>j<=m/\ρ 3= .slice (some ⟨bo,0,none⟩) n n/\ρ 4=iB i/\ρ 11=v/\ρ 12=iB n/\ρ 13=iB i/\ρ 18=vr/\ρ 19=iB m/\ρ 20=iB j/\∃vi_ Li,Gl j6 32 3 vi_ (ku j (qM (RM A) i)) Li/\St w w' (((bo,34,R.map Rw.v++vi_::List.replicate d ke)::R.map (Rw.x4 j6 32))++Li)) (λj=>m-j) 0
     ⟨ax _,jY,rfl,jY,jY,jY,rfl,vi rfl oO,rfl,ke,[],Gl.nil _ _ _,by rw[aK];exact hS⟩ ?_
    clear hS;rintro j ρ w3 ⟨hj,h3,h4,h11,h12,h13,h18,h19,h20,vi_,Li,hG,hS⟩;have htl:=ka j (qM (RM A) i);refine V1 ?_;by_cases hjl:j<m
    ·refine V1 ?_;have hLr:=OD hB (i:=i) (j:=j) oO (by rw[<-hrow,hli];exact hjl);rw[<-hrow]at hLr;obtain⟨r,hr⟩:=jz (row.getD j kP);have hq:j9 (RM A i j)=fx r:=by rw[hr,hrow];rfl
     rw[<-hr]at hLr;have hlenR:(R.map Rw.v).length=i:=by rw[aO,hR.len]
     have hfit:i<(R.map Rw.v++vi_::List.replicate d ke).length:=by rw[aw,hlenR,ba];omega
     refine jr ?_;refine jp (kp (i:=j) h18 h20 (hri.j5 hS.j5) oO dO kM (jq (ky (i:=j) kP rfl ki (hri.j5 hS.j5) dO rfl rfl (.inl rfl) ?_)));refine J1 ?_;intro b7 wz2 hS hBz2;refine J1 ?_;intro wz3 hS;refine ja ?_;rw[<-hr]at hS;replace hS:St w _ ((b7,32,j6 r)::(((bo,34,R.map Rw.v++vi_::List.replicate d ke)::R.map (Rw.x4 j6 32))++Li)):=hS;refine J1 ?_;refine jh (j7 Tryz.call65 rfl (HU r _ oO) ?_);rintro _ wc4 ⟨rfl,hBc4⟩;replace hS:=hS.ko hBc4;refine V1 ?_;refine kz (λρ w'=>ρ 3= .slice (some ⟨bo,0,none⟩) n n/\ρ 4=iB i/\ρ 7=pB b7/\ρ 11=v/\ρ 12=iB n/\ρ 13=iB i/\ρ 18=vr/\ρ 19=iB m/\ρ 20=iB j/\St w w' (((b7,32,j6 (fx r))::(bo,34,R.map Rw.v++vi_::List.replicate d ke)::R.map (Rw.x4 j6 32))++Li)) ?_ ?_
     ·by_cases hv:L4 r
      ·refine lx rfl (by rw[ak hv];rfl) ?_;refine ja ?_;have e:fx r=r:=GB hv;rw[e];exact⟨_,rfl,jY,jY,rfl,jY,jY,jY,jY,jY,jY,hS⟩
      ·refine k9 rfl (by rw[ae hv];rfl) ?_;refine ja ?_;have e:fx r=kP:=by unfold fx;rw[FM hv,oC];rfl
       rw[e];refine jr ?_;refine jp (kQ rfl pI ?_);refine J1 ?_;intro wz5 hS;refine ja ?_;exact⟨_,rfl,jY,jY,rfl,jY,jY,jY,jY,jY,jY,hS⟩
     clear hS;rintro ρ w4 ⟨h3,h4,h7,h11,h12,h13,h18,h19,h20,hS⟩;refine ja ?_;refine kE [jo 0,jo 1,jo 2,jo 3,jo 4,ju 5,ju 6,jv 7,jw 8,jo 9,jw 10] kR kR hS ?_;intro wz6 hS hBz6;refine J4 ?_;refine jl rfl (kF (i:=i) rfl rfl oO dO lL (jm rfl (LH (k:=1) rfl lV hS rfl (by rw[bZ,eC];exact R8 _ _ _ hlenR) ?_)));refine J1 ?_;refine jn rfl (mO (vs:=[lu (fx r)]) rfl kM rfl dD dD dD (by simp[Value.cells,lu]) rfl hS ?_);intro b35 wz7 hS hBz7;refine⟨hBz7,?_⟩;refine jx rfl (mz [fx r] rfl rfl kM dD hG hS rfl rfl kt (tZ [fx r]) dL dL ?_);intro va8 La8 wa8 hG hS hga8;refine jl rfl (kF (i:=i) rfl rfl oO dO lL (jx rfl (nW (k:=1) rfl rfl lV hS rfl (by rw[bZ,eC];exact hfit) (by obtain⟨a,c,rfl⟩:=hG.len;rfl) ?_)));intro wz9 hS;refine ja ?_;rw[<-hq,<-nZ]at hG;refine V2 ?_;refine⟨j+1,_,rfl,⟨hjl,jY,jY,jY,jY,jY,jY,jY,vi rfl oO,_,_,hG,?_⟩,oO⟩;have hS2:=hS.drop (ab _ _);rw[bZ,eC,BG _ _ _ _ hlenR]at hS2;exact hS2
    ·refine J1 ?_;refine jt ?_;obtain rfl:j=m:=oO;exact⟨_,rfl,h3,h11,h12,h13,vi_,Li,hG,hS⟩
   clear hS;rintro ρ w3 ⟨h3,h11,h12,h13,vi_,Li,hG,hS⟩;refine V2 ?_;obtain⟨r,hX,rfl,rfl,hc1,hc2,hc3⟩:=Un hG (by intro e;have:=bI List.length e;rw[ka]at this;simp at this;omega);have hR':=AJ hR hX ⟨by rw[hX,ka]at hc1;exact hc1,hc2⟩;refine⟨i+1,_,rfl,⟨hlt,jY,jY,jY,vi rfl oO,R++[r],hR',(λx hx=>(bB.1 hx).elim (hF x) λg=>by rw[aQ.1 g];exact hc3),?_⟩,oO⟩;rw[bO,bO,show n-(i+1)=d by omega,aF];exact hS
  ·refine J1 ?_;refine jt ?_;obtain rfl:i=n:=oO;rw[dU,jj,aK]at hS;refine⟨_,rfl,h3,R,hR,hF,?_⟩;unfold mB;rw[aK];exact hS
 clear hS;rintro ρ w2 ⟨h3,R,hR,hF,hS⟩;refine J2 ?_;refine jt ?_;refine kD rfl rfl ?_;exact⟨⟨bo,R,rfl,hR,hF,hS⟩,hS.j5⟩
def VX (X:List RR) (k:Nat):Rat:=toQ (X.getD k kP)
theorem zm {n:Nat} (f:Nat->Rat) (i:Nat) (q:Rat):(ku n λj=>j9 (f j)).set i (j9 q)=ku n λj=>j9 (if j=i then q else f j):=by
 rw[nx];exact kB λj _=>by by_cases h:j=i<;>simp only[h,gX,jG]
end Go.Proofs.YtoeiejliehgopaaGreatDoor
namespace Go.Sx
open Go Go.RowKit Go.Proofs.YtoeiejliehgopaaGreatDoor
section
variable {P : Program} {N : Nat} {ρ : Nat → Value} {w0 w w' : World} {d : Option Tmp} {ty : TypeId} {pos : String} {aft : Array Edge} {g : Option (Nat × Bool)} {x y z : Operand} {t t' e : TypeId} {H : List kV} {k b o : Nat} {v : Value} {K : Value → Prop} {K2 : Value → World → Prop}
  {α : Type} {enc : α → List Value} {size : Nat} {R : List (Rw α)} {tR tS : TypeId} {bo : Nat} {zz : List Value}
theorem Mt (pre:List kV) (T:List kV) (k:Nat):(pre++T)[pre.length+k]?=T[k]?:=by
 rw[bV oO];congr 1;omega
theorem ON (pre:List kV) (T:List kV) (k:Nat) (u:kV):(pre++T).set (pre.length+k) u=pre++T.set k u:=by
 rw[gA _ _ oO];congr 2;omega
theorem np (pre:List kV) {i:Nat} (hx:ev N ρ x= .pointer (some ⟨bo,o,none⟩)) (ht:lS P t=some (1,false,zz)) (hS:St w0 w (pre++mB enc tR tS bo R H)) (ho:o=i) (hi:i<R.length) (h:K (R.getD i oK).v):qU P N ρ w ⟨d,.load t x,ty,pos,aft,g⟩ K:=by
 subst ho;exact LH (k:=pre.length+0) hx ht hS (by rw[Mt];rfl) (Dj hi) h
theorem rL (pre:List kV) {i j:Nat} {agg:Bool} (dd:α) (hu:∀x,(enc x).length=size) (hx:ev N ρ x= .pointer (some ⟨b,o,none⟩)) (ht:lS P t=some (size,agg,zz)) (hS:St w0 w (pre++mB enc tR tS bo R H)) (hb:(R.getD i oK).b=b) (hi:i<R.length)
  (ho:o=j*size) (hj:j<(R.getD i oK).X.length) (hv:RE agg (enc ((R.getD i oK).X.getD j dd))=v) (hagg:agg=true\/size=1) (h:K v):qU P N ρ w ⟨d,.load t x,ty,pos,aft,g⟩ K:=by
 subst hb;exact Ci (k:=pre.length+(i+1)) dd hu hx ht hS (by rw[Mt];exact PD hi) ho hj hv hagg h
theorem yl (pre:List kV) {i j:Nat} {agg:Bool} (u:α) (hu:∀x,(enc x).length=size) (hx:ev N ρ x= .pointer (some ⟨b,o,none⟩)) (hy:ev N ρ y=v) (ht:lS P t=some (size,agg,zz)) (hS:St w0 w (pre++mB enc tR tS bo R H)) (hb:(R.getD i oK).b=b) (hi:i<R.length)
  (ho:o=j*size) (hj:j<(R.getD i oK).X.length) (hv:v.cells.toList=enc u) (h1:(enc u).all (·.oneCell')=true) (h:∀w',St w0 w' (pre++mB enc tR tS bo (R.set i ((R.getD i oK).put j u)) H)->K2 undef w'):pi P N ρ w ⟨d,.store t x y,ty,pos,aft,g⟩ K2:=by
 subst hb;refine Cq (k:=pre.length+(i+1)) u hu hx hy ht hS (by rw[Mt];exact PD hi) ho hj hv h1 λw' hS'=> ?_;rw[ON,Ux j u hi]at hS';exact h w' hS'
theorem r8 (pre:List kV) {cs:List Value} {T:List kV} {i:Nat} (hx:ev N ρ x= .pointer (some ⟨bo,o,none⟩)) (hy:ev N ρ y=v) (ht:lS P t=some (1,false,zz)) (hS:St w0 w (pre++(bo,tS,cs)::T)) (ho:o=i) (hi:i<cs.length) (h1:v.oneCell'=true) (h:∀w',St w0 w' (pre++(bo,tS,cs.set i v)::T)->K2 undef w'):
  pi P N ρ w ⟨d,.store t x y,ty,pos,aft,g⟩ K2:=by
 subst ho;refine nW (k:=pre.length+0) hx hy ht hS (by rw[Mt];rfl) hi h1 λw' hS'=> ?_;rw[ON]at hS';exact h w' hS'
theorem GG (L:List kV):mB enc tR tS bo R H++L=mB enc tR tS bo R (H++L):=by unfold mB;rw[bW,aF]
theorem FB (pre:List kV) {i j:Nat} (hi:i<R.length) (hj:j<R.length) (h:St w0 w (pre++(bo,tS,((R.map Rw.v).set i (R.getD j oK).v).set j (R.getD i oK).v)::(R.map (Rw.x4 enc tR)++H))):St w0 w (pre++mB enc tR tS bo (CW R i j) H):=by
 have e:((R.map Rw.v).set i (R.getD j oK).v).set j (R.getD i oK).v=(CW R i j).map Rw.v:=by
  unfold CW;rw[gZ,gZ]
 rw[e]at h;refine h.perm (bU _ (List.Perm.cons _ (bQ _ (List.Perm.map _ ?_))));unfold CW;rw[nz R oK hi,nz R oK hj];exact(List.set_set_perm hi hj).symm
theorem AC (r:Rw α):r.v.oneCell'=true:=rfl
end
end Go.Sx
namespace Go.Proofs.YtoeiejliehgopaaGreatDoor
open Go Go.RowKit Go.Sx
def x8 (M:Mx) (i r:Nat) (x:Rat) (k a b:Nat):Rat:=if a=i/\b<k then M i b-x*M r b else M a b
theorem FH {P:Program} {N:Nat} {ρ:Nat->Value} {w:World} {fn:Func} {R:Value->World->Prop} (hr:fn.results= #[]) (h:R (.tuple #[]) w):
  bodyPost P fn (λe w'=>∃v,e= .returned v/\R v w') .ret (act N ρ) w:=
 gz (results_none hr _ _ _) rfl ⟨_,rfl,h⟩
theorem Ny {R:List (Rw RR)} {n m:Nat} {M:Mx} {w0:World} {bo:Nat} {H:List kV} (i r:Nat) (x:Rat) (K:Nat) (w:World) (hR:mx R n m (qM M)) (hm:m<=1000) (hi:i<n) (hr:r<n) (hir:i≠r) (hL:∀j,j<m->L (M i j)<=K/\L (M r j)<=K) (hx:L x<=K) (hK:4*K+4<=MX) (hS:St w0 w (mB j6 32 34 bo R H)):
  lW Tryz.prog 198 #[(R.getD i oK).v,(R.getD r oK).v,lu (j9 x)] w λv w'=>v= .tuple #[]/\∃R',mx R' n m (qM λa b=>if a=i then M i b-x*M r b else M a b)/\St w0 w' (mB j6 32 34 bo R' H):=by
 have hM:MX=1099511627776:=rfl;have hvi:=hR.v hi;have hvr:=hR.v hr;obtain⟨bi,hbi⟩:=jz ((R.getD i oK).b);obtain⟨br,hbr⟩:=jz ((R.getD r oK).b);obtain⟨ci,hci⟩:=jz ((R.getD i oK).cap);obtain⟨cr,hcr⟩:=jz ((R.getD r oK).cap);rw[<-hbi,<-hci]at hvi;rw[<-hbr,<-hcr]at hvr;rw[hvi,hvr];refine enter Tryz.func198 rfl Tryz.ntmps198 rfl ?_;refine jr ?_;refine jh (lj (new:=j6 (j9 x)) rfl rfl hS ?_);intro b5 wz1 hS hBz1;refine ja ?_;replace hS:St w0 _ ([(b5,32,j6 (j9 x))]++mB j6 32 34 bo R H):=hS;refine J3 ?_;refine jb ?_;refine kz (λρ w'=>∃R',mx R' n m (qM (x8 M i r x m))/\St w0 w' ([(b5,32,j6 (j9 x))]++mB j6 32 34 bo R' H)) ?_ ?_
 ·refine ja ?_;refine kx (σ:=Nat) (λk ρ w'=>k<=m/\ρ 0= .slice (some ⟨bi,0,none⟩) m ci/\ρ 1= .slice (some ⟨br,0,none⟩) m cr/\ρ 5=pB b5/\ρ 8=iB m/\ρ 9=iB k/\
    ∃R',(R'.getD i oK).b=bi/\(R'.getD r oK).b=br/\mx R' n m (qM (x8 M i r x k))/\St w0 w' ([(b5,32,j6 (j9 x))]++mB j6 32 34 bo R' H)) (λk=>m-k) 0
   ⟨ax _,rfl,rfl,rfl,rfl,rfl,R,hbi.symm,hbr.symm,hR.congr λa _ b _=>by show j9 (M a b)=j9 (x8 M i r x 0 a b);unfold x8;rw[ah oO],hS⟩ ?_
  clear hS;rintro k ρ w2 ⟨hk,h0,h1,h5,h8,h9,R',hb1,hb2,hR',hS⟩;have hli:i<R'.length:=by rw[hR'.len];exact hi
  have hlr:r<R'.length:=by rw[hR'.len];exact hr
  refine V1 ?_;by_cases hlt:k<m
  ·refine V1 ?_;have hxi:k<(R'.getD i oK).X.length:=by rw[hR'.xV hi];exact hlt
   have hxr:k<(R'.getD r oK).X.length:=by rw[hR'.xV hr];exact hlt
   have hgi:(R'.getD i oK).X.getD k kP=j9 (M i k):=by rw[hR'.get hi hlt];show j9 (x8 M i r x k i k)=_;unfold x8;rw[ah oO]
   have hgr:(R'.getD r oK).X.getD k kP=j9 (M r k):=by rw[hR'.get hr hlt];show j9 (x8 M i r x k r k)=_;unfold x8;rw[ah oO]
   obtain⟨hL1,hL2⟩:=hL k hlt;have hLm:=zK x (M r k);refine J4 ?_;refine jp (kF (i:=k) rfl rfl oO dO kM (jq (rL [_] (i:=r) (j:=k) kP kt rfl ki hS hb2 hlr oO hxr rfl (.inl rfl) ?_)));rw[hgr];refine jh (j7 Tryz.call197 rfl (AK _ _) ?_);rintro _ wc2 ⟨rfl,hBc2⟩;replace hS:=hS.ko hBc2;refine V1 ?_;by_cases hz:M r k=0
   ·refine lx rfl (by rw[ak hz];rfl) ?_;refine V2 ?_;refine⟨k+1,_,rfl,⟨hlt,jY,jY,jY,jY,vi rfl oO,R',hb1,hb2,hR'.congr λa _ b _=> ?_,hS⟩,oO⟩;show j9 (x8 M i r x k a b)=j9 (x8 M i r x (k+1) a b);congr 1;unfold x8;by_cases g:a=i/\b<k
    ·rw[aj g,aj oO]
    ·rw[ah g];by_cases g2:a=i/\b<k+1
     ·obtain rfl:b=k:=oO;rw[aj g2,hz,g2.1,dZ,g8,Rat.neg_zero,gY]
     ·rw[ah g2]
   ·have hmul:=λw=>rE (j9 x) (j9 (M r k)) w (by rw[Lr_ofQ,Lr_ofQ];omega);rw[toQ_ofQ,toQ_ofQ]at hmul;have hsub:=λw=>mD (j9 (M i k)) (j9 (x*M r k)) w (by rw[Lr_ofQ,Lr_ofQ];omega);rw[toQ_ofQ,toQ_ofQ]at hsub;refine k9 rfl (by rw[ae hz];rfl) ?_;refine ja ?_;refine kE [jo 0,jo 1,jo 2,jo 3,jo 4,ju 5,ju 6,jo 7,jo 8,jo 9,ju 10,jv 11,jv 12,jo 13,jw 14] kR kR hS ?_;intro wz3 hS hBz3;refine J4 ?_;refine jl rfl (kF (i:=k) rfl rfl oO dO kM (jm rfl (rL [_] (i:=i) (j:=k) kP kt rfl ki hS hb1 hli oO hxi rfl (.inl rfl) ?_)));refine J3 ?_;refine jl rfl (kF (i:=k) rfl rfl oO dO kM (jm rfl (rL [_] (i:=r) (j:=k) kP kt rfl ki hS hb2 hlr oO hxr rfl (.inl rfl) ?_)));rw[hgi,hgr];refine jn rfl (j7 Tryz.call11 rfl (hmul _) ?_);rintro _ wc4 ⟨rfl,hBc4⟩;replace hS:=hS.ko hBc4;refine⟨hBc4,?_⟩;refine jn rfl (j7 Tryz.call16 rfl (hsub _) ?_);rintro _ wc5 ⟨rfl,hBc5⟩;replace hS:=hS.ko hBc5;refine⟨hBc5,?_⟩;refine jl rfl (kF (i:=k) rfl rfl oO dO kM (jx rfl (yl [_] (i:=i) (j:=k) (j9 (M i k-x*M r k)) kt rfl rfl ki hS hb1 hli oO hxi rfl rfl ?_)));intro wz6 hS;refine V2 ?_;refine⟨k+1,_,rfl,⟨hlt,jY,jY,jY,jY,vi rfl oO,_,?_,?_,(hR'.put hi k (j9 (M i k-x*M r k))).congr λa _ b _=> ?_,hS⟩,oO⟩
    ·rw[nq _ _ _ hli,aj rfl];exact hb1
    ·rw[nq _ _ _ hli,ah (λe=>hir e.symm)];exact hb2
    ·show(if a=i/\b=k then j9 (M i k-x*M r k)else j9 (x8 M i r x k a b))=j9 (x8 M i r x (k+1) a b);unfold x8;by_cases g:a=i/\b=k
     ·rw[aj g,aj oO,g.2]
     ·rw[ah g];by_cases g2:a=i/\b<k
      ·rw[aj g2,aj oO]
      ·rw[ah g2,ah oO]
  ·refine J1 ?_;refine jt ?_;obtain rfl:k=m:=oO;exact⟨_,rfl,R',hR',hS⟩
 clear hS;rintro ρ w2 ⟨R',hR',hS⟩;refine ja ?_;exact qf rfl ⟨rfl,R',hR'.congr λa _ b hb=>by
  show j9 (x8 M i r x m a b)=j9 (if a=i then M i b-x*M r b else M a b);unfold x8;congr 1;by_cases g:a=i
  ·rw[aj ⟨g,hb⟩,aj g]
  ·rw[ah (λe=>g e.1),ah g],hS.drop (ab _ _)⟩
def Ve (M:Mx) (c n r:Nat):Int:=if pv M c n r<n then(pv M c n r:Int)else-1
theorem MF (v:Value) (vs:List Value) (n m:Nat) (M:Mx) (r c:Nat) (w:World) (hA:qE j6 3 w v (wD n m (qM M)) vs) (hr:r<=n) (hc:c<m):
  lW Tryz.prog 196 #[v,.int .i64 r,.int .i64 c] w λu w'=>u= .int .i64 (Ve M c n r)/\Below w.heap.size w w':=by
 have hmx:=hA.sl.maxLen;have hlen:=hA.len;rw[mQ]at hlen;obtain⟨_,hp2,_,_⟩:=py M c hr;have hS:=St.init w;refine enter Tryz.func196 rfl Tryz.ntmps196 rfl ?_;refine J3 ?_;refine jb ?_;refine kz (λρ w'=>Ve M c n r= -1/\St w w' []) ?_ ?_
 ·refine ja ?_;refine kx (σ:=Nat) (λi ρ w'=>r<=i/\i<=n/\(∀l,r<=l->l<i->M l c=0)/\ρ 0=v/\ρ 2=iB c/\ρ 7=iB i/\St w w' []) (λi=>n-i) r
   ⟨aB _,hr,λl h1 h2=>absurd h2 oO,rfl,rfl,rfl,hS⟩ ?_
  clear hS;rintro i ρ w2 ⟨hri,hi,hz,h0,h2,h7,hS⟩;refine J2 ?_;refine jp (kj rfl (hA.sl.j5 hS.j5) ⟨_,Tryz.underlying35⟩ ?_);refine V1 ?_;by_cases hlt:i<n
  ·refine V1 ?_;have hrow:=hA.row i (by rw[mQ];exact hlt);rw[pD _ hlt]at hrow;have htl:=ka m (qM M i);have hg:(ku m (qM M i)).getD c kP=j9 (M i c):=kw _ _ hc;refine J2 ?_;refine jp (kp (i:=i) rfl rfl (hA.sl.j5 hS.j5) oO dO lL (jq (ky (i:=i) undef rfl lV (hA.sl.j5 hS.j5) dO rfl rfl (.inr rfl) ?_)));refine J1 ?_;refine jp (kp (i:=c) rfl rfl (hrow.j5 hS.j5) oO dO kM (jq (ky (i:=c) kP rfl ki (hrow.j5 hS.j5) dO rfl rfl (.inl rfl) ?_)));rw[hg];refine jh (j7 Tryz.call197 rfl (AK _ _) ?_);rintro _ wc1 ⟨rfl,hBc1⟩;replace hS:=hS.ko hBc1;refine V1 ?_;by_cases hne:M i c=0
   ·refine lx rfl (by rw[ak hne];rfl) ?_;refine V3 ?_;exact⟨i+1,_,rfl,⟨oO,hlt,λl h1 h2=>by
     by_cases e:l=i
     ·rw[e];exact hne
     ·exact hz l h1 oO,jY,jY,vi rfl oO,hS⟩,oO⟩
   ·refine k9 rfl (by rw[ae hne];rfl) ?_;refine ja ?_;have hp:pv M c n r=i:=FI hri hi hz λ_=>hne;have he:Ve M c n r=i:=by unfold Ve;rw[hp,aj hlt]
    rw[he];refine J2 ?_;refine jt ?_;refine kD rfl rfl ?_;exact⟨rfl,hS.j5⟩
  ·refine J1 ?_;refine jt ?_;obtain rfl:i=n:=oO;have hp:pv M c i r=i:=FI hri hi hz λh=>absurd h (dB _);exact⟨_,rfl,by unfold Ve;rw[hp,ah (dB _)],hS⟩
 clear hS;rintro ρ w2 ⟨he,hS⟩;refine ja ?_;rw[he];refine J1 ?_;refine jt ?_;refine kD rfl rfl ?_;exact⟨rfl,hS.j5⟩
end Go.Proofs.YtoeiejliehgopaaGreatDoor
