import Derived.Test.YtoeiejliehgopaaGreatDoorSd3
import Derived.ProofKit
import Derived.OpenShut
import Derived.LaidMore
import Derived.Lay
import Derived.ChangeSlices
import Derived.Carry
import Derived.WideShapes
import Derived.Test.YtoeiejliehgopaaGreatDoorTie
import Derived.SevenTiedAt
import Derived.Stop.Joined
set_option maxRecDepth 20000
set_option maxHeartbeats 8000000
namespace Go.Sx
open Go Go.RowKit
section
variable {P : Program} {ops : Array Oper} {Kend : Act → World → Prop} {n x : Nat} {ox : Oper}
def Ge (P:Program) (ops:Array Oper) (Kend:Act->World->Prop) (n x:Nat) (ox:Oper):List (Nat×Md)->Act->World->Prop
 | [],a,w=>md P ops .km ox a w Kend
 |(y,m)::σ,a,w=>md P ops .km ox a w (wr P ops Kend ((y,m)::σ))/\(qU ops n y x=false->match ops[y]?with
  |some oy=>md P ops m oy a w (Ge P ops Kend n x ox σ)
  |none=>False)
theorem HA {σ:List (Nat×Md)} {a:Act} {w:World} (h:Ge P ops Kend n x ox σ a w):md P ops .km ox a w (wr P ops Kend σ):=by
 cases σ with
 |nil=>exact mN (λa w h=>h) h
 |cons y σ=>exact h.1
theorem Aa {y:Nat} {m:Md} {oy:Oper} {σ:List (Nat×Md)} {a:Act} {w:World} (hs:vX ops) (hx:ops[x]?=some ox) (hy:ops[y]?=some oy) (hsw:nJ ops (y,m) (x,.km)=true)
  (h:md P ops m oy a w (Ge P ops Kend n x ox σ)):Ge P ops Kend n x ox ((y,m)::σ) a w:=by
 refine⟨?_,λ_=>by rw[hy];exact h⟩;have h1:md P ops m oy a w (λa w=>md P ops .km ox a w (wr P ops Kend σ)):=mN (λa w g=>HA g) h;refine mN (λa w g=> ?_) (Hu hy hx (λcs b=>hs y oy cs b hy) (λcs b=>hs x ox cs b hx) hsw h1);simp only[wr,hy];exact g
theorem Jl {o:Oper} {a:Act} {w:World} {K K':Act->World->Prop} (h:md P ops .pure o a w K) (h':md P ops .pure o a w K'):md P ops .pure o a w (λa w=>K a w/\K' a w):=by
 by_cases hw:Region.wanted o (yielded ops a.tmps)=true
 ·rw[nK hw]at h h'⊢;obtain⟨v,g1,g2⟩:=h;obtain⟨v',g1',g2'⟩:=h';have e1:=g1 w;have e2:=g1' w;rw[e1]at e2;obtain rfl:v=v':=by simpa using e2
  exact⟨v,g1,g2,g2'⟩
 ·rw[p7 hw]at h h'⊢;exact⟨h,h'⟩
theorem En (hs:vX ops) (hx:ops[x]?=some ox) {i:Nat} {m:Md} {oi:Oper} (hi:ops[i]?=some oi) (hix:qU ops n i x=false) {post:List (Nat×Md)}:
  ∀(pre:List (Nat×Md)) (a:Act) (w:World),(∀y∈pre,nJ ops y (i,m)=true)->(∀y∈pre,(m= .pure/\nJ ops (x,.km) (i,m)=true)\/(qU ops n y.1 x=false/\nJ ops y (x,.km)=true))->
   Ge P ops Kend n x ox (pre++(i,m)::post) a w->md P ops m oi a w (Ge P ops Kend n x ox (pre++post))
 | [],a,w,_,_,h=>by
  have:=h.2 hix;rw[hi]at this;exact this
 |(y,my)::pre,a,w,hp,hf,h=>by
  obtain⟨h1,h2⟩:=h;have hp':∀z∈pre,nJ ops z (i,m)=true:=λz hz=>hp z (aK _ hz);have hf':=λz hz=>hf z (aK _ hz);have hyi:=hp (y,my) (aQ ..);cases hy:ops[y]?with
  |none=>
   unfold nJ at hyi;simp only[hy]at hyi;cases hyi
  |some oy=>
   have hB:qU ops n y x=false->md P ops m oi a w (λa w=>md P ops my oy a w (Ge P ops Kend n x ox (pre++post))):=λhd=>by
    have g:=h2 hd;rw[hy]at g;exact Hu hy hi (λcs b=>hs y oy cs b hy) (λcs b=>hs i oi cs b hi) hyi (mN (λa w g=>En hs hx hi hix pre a w hp' hf' g) g)
   rcases hf (y,my) (aQ ..)with⟨rfl,hsx⟩|⟨hd,hsy⟩
   ·have hA:md P ops .pure oi a w (λa w=>md P ops .km ox a w (wr P ops Kend ((y,my)::(pre++post)))):=
     Hu hx hi (λcs b=>hs x ox cs b hx) (λcs b=>hs i oi cs b hi) hsx (mN (λa w g=>BZ hs hi ((y,my)::pre) a w hp g) h1)
    by_cases hd:qU ops n y x=false
    ·refine mN (λa w g=> ?_) (Jl hA (hB hd));exact⟨g.1,λ_=>by rw[hy];exact g.2⟩
    ·exact mN (λa w g=>⟨g,λq=>absurd q hd⟩) hA
   ·exact mN (λa w g=>Aa hs hx hy hsy g) (hB hd)
def re (ops:Array Oper) (n x:Nat):List (Nat×Md)->Bool
 | []=>true
 |y::σ=> !Nat.beq y.1 x&&(σ.all λi=>qU ops n i.1 x||qU ops n i.1 y.1||((match i.2 with| .pure=>true|_=>false)&&nJ ops (x,.km) i)||(!qU ops n y.1 x&&nJ ops y (x,.km)))&&re ops n x σ
theorem xT {z:Nat×Md}:∀ {σ τ:List (Nat×Md)},re ops n x (σ++z::τ)=true->re ops n x (σ++τ)=true
 | [],τ,h=>by simp only[ca,re,bl]at h⊢;exact h.2
 |y::σ,τ,h=>by
  simp only[bW,re,bl,fO,fX]at h⊢;exact⟨⟨h.1.1,h.1.2.1,h.1.2.2.2⟩,xT h.2⟩
theorem AE {i:Nat} {m:Md}:∀ {pre post:List (Nat×Md)},re ops n x (pre++(i,m)::post)=true->∀y∈pre,y.1≠x/\(qU ops n i x=true\/qU ops n i y.1=true\/(m= .pure/\nJ ops (x,.km) (i,m)=true)\/(qU ops n y.1 x=false/\nJ ops y (x,.km)=true))
 | [],_,_,y,hy=>by cases hy
 |z::pre,post,h,y,hy=>by
  simp only[bW,re,bl,fO,fX]at h;rcases bJ.1 hy with rfl|hy
  ·refine⟨wM h.1.1,?_⟩;have h1:=h.1.2.2.1;simp only[du,bl,fQ]at h1;rcases h1 with((h1|h1)|h1)|h1
   ·exact .inl h1
   ·exact .inr (.inl h1)
   ·refine .inr (.inr (.inl ⟨?_,h1.2⟩));cases m<;>first|rfl|(exfalso;exact absurd h1.1 dD)
   ·exact .inr (.inr (.inr h1))
  ·exact AE h.2 y hy
theorem CS:∀ {σ:List (Nat×Md)},re ops n x σ=true->∀y∈σ,y.1≠x
 | [],_,y,hy=>by cases hy
 |z::σ,h,y,hy=>by
  simp only[re,bl]at h;rcases bJ.1 hy with rfl|hy
  ·exact wM h.1.1
  ·exact CS h.2 y hy
theorem E5 {Q:Exit->Act->World->Prop} (hs:vX ops) (hQ:∀a w,Kend a w->Q .normal a w) (hx:ops[x]?=some ox) (hxd:∀e∈ox.after,Region.binds .any e=false):
  ∀(fuel:Nat) (σ:List (Nat×Md)) (listed:Array Bool) (a:Act) (w:World),σ.length+1<=fuel->listed.size=ops.size->closed ops listed->
   (∀i,listed.getD i true=false↔i=x\/∃m,(i,m)∈σ)->oH ops n σ=true->sV ops ((x,.km)::σ)=true->re ops n x σ=true->Ge P ops Kend n x ox σ a w->wpAny P .any ops Q fuel listed a w:=by
 intro fuel;induction fuel with
 |zero=>intro σ listed a w hlen;omega
 |succ fuel ih=>
  intro σ listed a w hlen hsz hc hl hp ht hf h;have hxun:listed.getD x true=false:=(hl x).2 (.inl rfl);refine⟨λhr=> ?_,λi hi=> ?_⟩
  ·exfalso;have hxr:x∈Region.ready .any ops listed:=iq.2 ⟨hxun,ox,hx,λe he hb=>by rw[hxd e he]at hb;cases hb⟩;rw[hr]at hxr;cases hxr
  ·obtain⟨hun,oi,hoi,hdeps⟩:=iq.1 hi;have hilt:i<listed.size:=by
    rcases bI i listed.size with h2|h2
    ·exact h2
    ·simp[Array.getD,gh.2 h2]at hun
   have hclosed:closed ops (listed.setIfInBounds i true):=by
    intro j o hj hjl e he hb;by_cases hji:j=i
    ·subst hji;rw[hoi]at hj;obtain rfl:=bN hj;exact jI (hdeps e he hb)
    ·rw[iI true (jJ hji)]at hjl;exact jI (hc j o hj hjl e he hb)
   have hself:∀ {p:Prop},¬p->((listed.setIfInBounds i true).getD i true=false↔p):=λhnp=>
    ⟨λhf=>by simp[Array.getD,hilt]at hf,λq=>absurd q hnp⟩
   have hne:=CS hf;by_cases hix:i=x
   ·subst hix;rw[hx]at hoi;obtain rfl:=bN hoi;refine r8 hx (mN (λa w hh=> ?_) (HA h));simp only[sV,bl]at ht;refine AX hs hQ n fuel σ (listed.setIfInBounds i true) a w oO (by simpa using hsz) hclosed ?_ hp ht.2 hh;intro j;by_cases hji:j=i
    ·subst hji;exact hself λ⟨m,hm⟩=>hne _ hm rfl
    ·rw[iI true (jJ hji),hl j];exact⟨λq=>q.resolve_left hji,.inr⟩
   ·obtain⟨m,hm⟩:=((hl i).1 hun).resolve_left hix;obtain⟨pre,post,rfl⟩:=List.append_of_mem hm;have hlst:∀k,listed.getD k true=false->qU ops n i k=true->False:=λk hk hd=>by
     have h2:=AH hc n i k (λo ho e he hb=>by rw[hoi]at ho;obtain rfl:=bN ho;exact hdeps e he hb) hd;rcases bI k listed.size with hlt|hlt
     ·simp only[Array.getD,hlt,gj]at h2 hk;rw[h2]at hk;cases hk
     ·simp[Array.getD,gh.2 hlt]at h2
    have hnd:∀y∈pre,y.1≠i/\(qU ops n i y.1=true\/nJ ops y (i,m)=true):=by
     clear ih h hl hlen ht hm hlst hf hne;induction pre with
     |nil=>intro y hy;cases hy
     |cons z pre ihp=>
      simp only[bW,oH,bl,fO,fX]at hp;intro y hy;rcases bJ.1 hy with rfl|hy
      ·have h1:=hp.1.2.1;rw[du]at h1;exact⟨wM h1.1,h1.2⟩
      ·exact ihp hp.2 y hy
    have hpost:∀y∈post,i≠y.1:=by
     clear ih h hl hlen ht hm hnd hlst hf hne;induction pre with
     |nil=>
      simp only[ca,oH,bl]at hp;intro y hy;have:=cQ.1 hp.1 y hy;simp only[bl]at this;exact wM this.1
     |cons z pre ihp=>
      simp only[bW,oH,bl]at hp;exact ihp hp.2
    have hyun:∀y∈pre,listed.getD y.1 true=false:=λy hy=>(hl y.1).2 (.inr ⟨y.2,by simp[hy]⟩);have hsw:∀y∈pre,nJ ops y (i,m)=true:=λy hy=>(hnd y hy).2.resolve_left λq=>hlst _ (hyun y hy) q;have hixd:qU ops n i x=false:=by
     cases hd:qU ops n i x with
     |false=>rfl
     |true=>exact(hlst x hxun hd).elim
    have hfl:∀y∈pre,(m= .pure/\nJ ops (x,.km) (i,m)=true)\/(qU ops n y.1 x=false/\nJ ops y (x,.km)=true):=λy hy=>by
     rcases(AE hf y hy).2 with q|q|q
     ·rw[hixd]at q;cases q
     ·exact(hlst _ (hyun y hy) q).elim
     ·exact q
    refine r8 hoi (mN (λa w hh=> ?_) (En hs hx hoi hixd pre a w hsw hfl h));refine ih (pre++post) (listed.setIfInBounds i true) a w (by simp at hlen⊢;omega) (by simpa using hsz) hclosed ?_ (un hp) (vH (σ:=(x,.km)::pre) ht) (xT hf) hh;intro j;by_cases hji:j=i
    ·subst hji;refine hself ?_;rintro(q|⟨m',hm'⟩)
     ·exact hix q
     ·rcases bO.1 hm' with h1|h1
      ·exact absurd rfl (hnd _ h1).1
      ·exact absurd rfl (hpost _ h1)
    ·rw[iI true (jJ hji),hl j];constructor
     ·rintro(q|⟨m',hm'⟩)
      ·exact .inl q
      ·refine .inr ⟨m',?_⟩;rcases bO.1 hm' with h1|h1
       ·simp[h1]
       ·rcases bJ.1 h1 with h2|h2
        ·exact absurd (bQ Prod.fst h2) hji
        ·simp[h2]
     ·rintro(q|⟨m',hm'⟩)
      ·exact .inl q
      ·refine .inr ⟨m',?_⟩;rcases bO.1 hm' with h1|h1
       ·simp[h1]
       ·simp[h1]
def Kh (ops:Array Oper) (x:Nat) (σ:List (Nat×Md)):Bool:=
 Nat.ble (σ.length+1) ops.size&&(List.range ops.size).all (λi=>Nat.beq x i||σ.any λx=>Nat.beq x.1 i)&&σ.all (λx=>Nat.blt x.1 ops.size)&&oH ops ops.size σ&&sV ops ((x,.km)::σ)&&re ops ops.size x σ&&
 (match ops[x]?with|some o=>o.after.all λe=> !Region.binds .any e|none=>false)&&
 ops.all λo=>match o.op with| .select .. =>false|_=>true
end
structure Wx (P:Program) (ops:Array Oper) (Kend:Act->World->Prop) (x:Nat) (σ:List (Nat×Md)) (N:Nat) (ρ:Nat->Value) (w:World):Prop where
 out:vX ops->∀ox,ops[x]?=some ox->Ge P ops Kend ops.size x ox σ (act N ρ) w
section
variable {P : Program} {N : Nat} {ρ : Nat → Value} {w0 w : World} {Q : Exit → Act → World → Prop} {ops : Array Oper} {H : List kU} {Kend : Act → World → Prop} {i x : Nat} {o : Oper} {σ : List (Nat × Md)}
theorem xy {id:Nat} {l:List Oper} (x:Nat) (σ:List (Nat×Md)) (hm:P.follows .mixedOrders=true) (hchk:Kh l.toArray x σ=true) (hS:St w0 w H)
  (h:∀w',St w0 w' H->Below w.heap.size w w'->Wx P l.toArray (Q .normal) x σ N ρ w'):(Code.region id l.toArray true).wp P Q (act N ρ) w:=by
 simp only[Kh,bl]at hchk;obtain⟨⟨⟨⟨⟨⟨⟨h1,h2⟩,h3⟩,h4⟩,h5⟩,h7⟩,h8⟩,h6⟩:=hchk;have hs:vX l.toArray:=by
  intro i o cs b hi hsel;have:=dA.1 h6 o (gE hi);rw[hsel]at this;cases this
 cases hx:l.toArray[x]?with
 |none=>rw[hx]at h8;cases h8
 |some ox=>
  rw[hx]at h8;have hxd:∀e∈ox.after,Region.binds .any e=false:=λe he=>by
   have:=dA.1 h8 e he;simpa using this
  have hbd:Below w.heap.size w {w with drawn:=w.drawn+1}:=(Below.refl _ w).drew;have hxlt:x<l.toArray.size:=by
   rcases bI x l.toArray.size with q|q
   ·exact q
   ·rw[gA q]at hx;cases hx
  refine wp_region_any hm (E5 (n:=l.toArray.size) hs (λ_ _ h=>h) hx hxd l.toArray.size σ _ _ _ (eN h1) (by simp) ?_ ?_ h4 h5 h7 ((h _ (hS.km hbd) hbd).out hs ox hx))
  ·intro j o _ hl;by_cases hj:j<l.toArray.size
   ·rw[Array.getD,dif_pos (by simpa using hj)]at hl;simp at hl
   ·rename_i hjo;rw[gA oO]at hjo;cases hjo
  ·intro j;constructor
   ·intro hf;have hj:j<l.toArray.size:=by
     rcases bI j l.toArray.size with hlt|hlt
     ·exact hlt
     ·simp at hlt;simp[Array.getD,gh.2 hlt]at hf
    have:=cQ.1 h2 j (by simpa using hj);rw[du]at this;rcases this with q|q
    ·exact .inl (cI q).symm
    ·obtain⟨y,hy,hb⟩:=dG.1 q;exact .inr ⟨y.2,by rw[<-cI hb];exact hy⟩
   ·rintro(rfl|⟨m,hm'⟩)
    ·simp at hxlt;simp[Array.getD,hxlt]
    ·have:=cQ.1 h3 _ hm';rw[gG]at this;simp at this;simp[Array.getD,this]
theorem mC {d:Option Tmp} {p:Op} {ty:TypeId} {pos:String} {aft:Array Edge} {g:Option (Nat×Bool)} (hsw:nJ ops (i,.pure) (x,.km)=true) (ho:ops[i]?=some ⟨d,p,ty,pos,aft,g⟩) (hg:gd ops N ρ g=true) (h:lX P N ρ ⟨d,p,ty,pos,aft,g⟩ λv=>Wx P ops Kend x σ N (sM ρ d v) w):Wx P ops Kend x ((i,.pure)::σ) N ρ w:=by
 refine⟨λhs ox hx=>Aa hs hx ho hsw ?_⟩;rw[nK (oD ops N ρ ⟨d,p,ty,pos,aft,g⟩ hg),ot];obtain⟨v,h1,h2⟩:=h;exact⟨v,h1,by rw[oX];exact h2.out hs ox hx⟩
theorem qu {d:Option Tmp} {p:Op} {ty:TypeId} {pos:String} {aft:Array Edge} {g:Option (Nat×Bool)} (hsw:nJ ops (i,.read) (x,.km)=true) (ho:ops[i]?=some ⟨d,p,ty,pos,aft,g⟩) (hg:gd ops N ρ g=true) (h:qN P N ρ w ⟨d,p,ty,pos,aft,g⟩ λv=>Wx P ops Kend x σ N (sM ρ d v) w):Wx P ops Kend x ((i,.read)::σ) N ρ w:=by
 refine⟨λhs ox hx=>Aa hs hx ho hsw ?_⟩;rw[rS (oD ops N ρ ⟨d,p,ty,pos,aft,g⟩ hg),ot];obtain⟨v,h1,h2⟩:=h;exact⟨v,h1,by rw[oX];exact h2.out hs ox hx⟩
theorem th {d:Option Tmp} {p:Op} {ty:TypeId} {pos:String} {aft:Array Edge} {g:Option (Nat×Bool)} (ho:ops[i]?=some ⟨d,p,ty,pos,aft,g⟩) (hg:gd ops N ρ g=true) (hnow:Wr P ops Kend ((x,.km)::(i,.km)::σ) N ρ w)
  (h:pd P N ρ w ⟨d,p,ty,pos,aft,g⟩ λv w'=>Below w.heap.size w w'/\Wx P ops Kend x σ N (sM ρ d v) w'):Wx P ops Kend x ((i,.km)::σ) N ρ w:=by
 refine⟨λhs ox hx=>⟨?_,λ_=> ?_⟩⟩
 ·have:=hnow.out;simp only[wr,hx]at this;exact this
 ·rw[ho];show md _ _ _ _ _ _ _;rw[qA (oD ops N ρ ⟨d,p,ty,pos,aft,g⟩ hg),ot];simp only[oX];exact oq (λv w h=>⟨h.1,h.2.out hs ox hx⟩) h.out
theorem Ai {m:Md} (hd:qU ops ops.size i x=true) (hnow:Wr P ops Kend ((x,.km)::(i,m)::σ) N ρ w):Wx P ops Kend x ((i,m)::σ) N ρ w:=by
 refine⟨λhs ox hx=>⟨?_,λq=>by rw[hd]at q;cases q⟩⟩;have:=hnow.out;simp only[wr,hx]at this;exact this
end
end Go.Sx
namespace Go.Proofs.YtoeiejliehgopaaGreatDoor
open Go Go.RowKit Go.Sx
theorem zl (n:Int) (w:World) (h1: -9223372036854775808<=n) (h2:n<=9223372036854775807):
  lU Tryz.prog 38 #[.int .i64 n] w λv w'=>v=kW (j8 (n:Rat))/\Below w.heap.size w w':=by
 have hS:=St.init w;refine enter Tryz.func38 rfl Tryz.ntmps38 rfl ?_;refine J1 ?_;intro b1 wz2 hS hBz2;refine J1 ?_;refine jh (j6 Tryz.call76 rfl (Qy n _ h1 h2) ?_);rintro _ wc3 ⟨rfl,hBc3⟩;replace hS:=hS.km hBc3;refine J1 ?_;intro wz4 hS;refine jt ?_;refine mb (k:=0) rfl rfl kf hS rfl rfl ?_;exact⟨rfl,hS.j4⟩
theorem HI (a:Int) (n:Nat) (w:World) (h1: -9223372036854775808<=a) (h2:a<=9223372036854775807) (hn0:0<n) (hn:n<=9223372036854775807):
  lU Tryz.prog 8 #[.int .i64 a,.int .i64 n] w λv w'=>v=kW (j8 (mkRat a n))/\Below w.heap.size w w':=by
 have hS:=St.init w;refine enter Tryz.func8 rfl Tryz.ntmps8 rfl ?_;refine J1 ?_;intro b4 wz1 hS hBz1;refine J2 ?_;refine jh (j6 Tryz.call23 rfl (FM a n _ h1 h2 hn0 hn) ?_);rintro _ wc2 ⟨rfl,hBc2⟩;replace hS:=hS.km hBc2;refine J4 ?_;intro b3 wz4 hS hBz4;refine J1 ?_;intro wz5 hS;refine J3 ?_;intro wz6 hS;refine jt ?_;refine mb (k:=1) rfl rfl kf hS rfl rfl ?_;exact⟨rfl,hS.j4⟩
theorem oz (m n:Nat):(m:Int).tmod n=((m%n:Nat):Int):=by rw[fi oO];omega
theorem Lh (m n:Nat):(m:Int).tdiv n=((m/n:Nat):Int):=by rw[Int.tdiv_eq_ediv_of_nonneg oO];omega
theorem zk (m n:Nat) (h:m<65536):IntKind.u16.wrap ((m:Int).tdiv n)=((m/n:Nat):Int):=by
 have:=dE m n;rw[Lh,M8];generalize m/n=q at*;omega
def oA (x:Nat):Rat:=if x%5=0 then mkRat ((x/5%23:Nat):Int) (1+x/115%6)else if x%5=1 then(((10*(x/5%4):Nat):Int):Rat)else(((x/5%13:Nat):Int):Rat)
theorem FO {n:Nat} (h:n<256):L ((n:Int):Rat)<=1:=by
 unfold L;have h1:(kG n).size<=1:=lu oO;have h2:(kG 1).size<=1:=lu oO;exact Nat.max_le.2 ⟨h1,h2⟩
theorem xE (x:Nat) (w:World) (hx:x<65536):
  lU Tryz.prog 20 #[.int .u16 x] w λv w'=>v=kW (j8 (oA x))/\Below w.heap.size w w':=by
 have hS:=St.init w;refine enter Tryz.func20 rfl Tryz.ntmps20 rfl ?_;refine J1 ?_;intro b2 wz1 hS hBz1;refine J1 ?_;refine jp (pC rfl rfl oO (r:=((x%5:Nat):Int)) (by exact oz x 5) ?_);refine V2 ?_;by_cases h0:x%5=0
 ·refine V1 ?_;have e:oA x=mkRat ((x/5%23:Nat):Int) (1+x/115%6):=aj h0;rw[e];refine J1 ?_;refine jp (rL rfl rfl oO (zk x 5 hx) (jp (pC rfl rfl oO (oz (x/5) 23) (jp (kH rfl Tryz.underlying3 ⟨_,Tryz.underlying25⟩ (r:=((x/5%23:Nat):Int)) (by exact oN _ ⟨rfl,oO,oO⟩) ?_)))));refine J1 ?_;refine jp (rL rfl rfl oO (zk x 115 hx) (jp (pC rfl rfl oO (oz (x/115) 6) (jp (kH rfl Tryz.underlying3 ⟨_,Tryz.underlying25⟩ (r:=((x/115%6:Nat):Int)) (by exact oN _ ⟨rfl,oO,oO⟩) (jp (oU rfl rfl (r:=((1+x/115%6:Nat):Int)) (by exact oN _ ⟨oO,oO,oO⟩) (jh (j6 Tryz.call8 rfl (HI ((x/5%23:Nat):Int) (1+x/115%6) _ oO oO oO oO) ?_)))))))));rintro _ wc2 ⟨rfl,hBc2⟩;replace hS:=hS.km hBc2;refine J1 ?_;intro wz3 hS;refine jt ?_;refine mb (k:=0) rfl rfl kf hS rfl rfl ?_;exact⟨rfl,hS.j4⟩
 ·refine V3 ?_;by_cases h1:x%5=1
  ·refine V1 ?_;have e:oA x=(((10*(x/5%4):Nat):Int):Rat):=by unfold oA;rw[ah h0,aj h1]
   rw[e];refine J1 ?_;refine jp (rL rfl rfl oO (zk x 5 hx) (jp (pC rfl rfl oO (oz (x/5) 4) (jp (kH rfl Tryz.underlying3 ⟨_,Tryz.underlying25⟩ (r:=((x/5%4:Nat):Int)) (by exact oN _ ⟨rfl,oO,oO⟩) (jp (wk rfl rfl (r:=((10*(x/5%4):Nat):Int)) (by exact oN _ ⟨oO,oO,oO⟩) (jh (j6 Tryz.call38 rfl (zl ((10*(x/5%4):Nat):Int) _ oO oO) ?_)))))))));rintro _ wc4 ⟨rfl,hBc4⟩;replace hS:=hS.km hBc4;refine J1 ?_;intro wz5 hS;refine jt ?_;refine mb (k:=0) rfl rfl kf hS rfl rfl ?_;exact⟨rfl,hS.j4⟩
  ·refine V1 ?_;have e:oA x=(((x/5%13:Nat):Int):Rat):=by unfold oA;rw[ah h0,ah h1]
   rw[e];refine J1 ?_;refine jp (rL rfl rfl oO (zk x 5 hx) (jp (pC rfl rfl oO (oz (x/5) 13) (jp (kH rfl Tryz.underlying3 ⟨_,Tryz.underlying25⟩ (r:=((x/5%13:Nat):Int)) (by exact oN _ ⟨rfl,oO,oO⟩) (jh (j6 Tryz.call38 rfl (zl ((x/5%13:Nat):Int) _ oO oO) ?_)))))));rintro _ wc6 ⟨rfl,hBc6⟩;replace hS:=hS.km hBc6;refine J1 ?_;intro wz7 hS;refine jt ?_;refine mb (k:=0) rfl rfl kf hS rfl rfl ?_;exact⟨rfl,hS.j4⟩
theorem ta:∀x,(sK x).length=1:=λ_=>rfl
end Go.Proofs.YtoeiejliehgopaaGreatDoor
namespace Go.Sx
open Go Go.RowKit
section
variable {P : Program} {ops : Array Oper}
def ym (M:List Nat):List Edge->Nat
 | []=>0
 |e::l=>bif Region.binds .any e then(2^e.on|||M.getD e.on 0)|||ym M l else ym M l
def wO (i:Nat):List Edge->Bool
 | []=>true
 |e::l=>(!Region.binds .any e||Nat.blt e.on i)&&wO i l
def xh (M:List Nat):List Oper->Nat->Bool
 | [],_=>true
 |o::l,i=>wO i o.after.toList&&Nat.beq (M.getD i 0) (ym M o.after.toList)&&xh M l (i+1)
theorem D3:∀n i h,qU ops n i h=true->qU ops (n+1) i h=true
 |0,i,h,ht=>by cases ht
 |n+1,i,h,ht=>by
  unfold qU at ht⊢;cases ho:ops[i]?with
  |none=>rw[ho]at ht;cases ht
  |some o=>
   rw[ho]at ht;simp only[im,bl,du]at ht⊢;obtain⟨e,he,hb,h1⟩:=ht;exact⟨e,he,hb,h1.imp id (D3 n e.on h)⟩
theorem DX {n m i h:Nat} (hnm:n<=m) (ht:qU ops n i h=true):qU ops m i h=true:=by
 induction hnm with
 |refl=>exact ht
 |step _ ih=>exact D3 _ _ _ ih
theorem yg {M:List Nat} {h:Nat}:∀ {l:List Edge},(ym M l).testBit h=true->∃e∈l,Region.binds .any e=true/\(e.on=h\/(M.getD e.on 0).testBit h=true)
 | [],hb=>by simp[ym]at hb
 |e::l,hb=>by
  unfold ym at hb;cases hbi:Region.binds .any e with
  |false=>
   rw[hbi]at hb;obtain⟨e',he',h'⟩:=yg hb;exact⟨e',aK _ he',h'⟩
  |true=>
   rw[hbi]at hb;simp only[cond_true,Nat.testBit_or,du]at hb;rcases hb with(hb|hb)|hb
   ·rw[Nat.testBit_two_pow]at hb;exact⟨e,aQ ..,hbi,.inl (gq hb)⟩
   ·exact⟨e,aQ ..,hbi,.inr hb⟩
   ·obtain⟨e',he',h'⟩:=yg hb;exact⟨e',aK _ he',h'⟩
theorem Az {i:Nat}:∀ {l:List Edge},wO i l=true->∀e∈l,Region.binds .any e=true->e.on<i
 | [],_,e,he,_=>by cases he
 |x::l,h,e,he,hb=>by
  simp only[wO,bl,du]at h;rcases bJ.1 he with rfl|he
  ·rcases h.1 with q|q
   ·rw[hb]at q;cases q
   ·rwa[gG]at q
  ·exact Az h.2 e he hb
theorem Cf {M:List Nat}:∀ {l:List Oper} {k:Nat},xh M l k=true->∀j o,l[j]?=some o->wO (k+j) o.after.toList=true/\M.getD (k+j) 0=ym M o.after.toList
 | [],k,_,j,o,ho=>by simp at ho
 |x::l,k,h,j,o,ho=>by
  simp only[xh,bl]at h;cases j with
  |zero=>
   simp only[List.getElem?_cons_zero,gw]at ho;subst ho;exact⟨h.1.1,cI h.1.2⟩
  |succ j=>
   have:=Cf h.2 j o (by simpa using ho);rw[show k+(j+1)=k+1+j by omega];exact this
theorem GL {l:List Oper} {M:List Nat} (hM:xh M l 0=true) (hML:M.length=l.length):∀i h,(M.getD i 0).testBit h=true->qU l.toArray (i+1) i h=true:=by
 intro i;induction i using Nat.strongRecOn with
 |_ i ih=>
  intro h hb;have hil:i<l.length:=by
   rcases bI i l.length with q|q
   ·exact q
   ·rw[ap,dk oO]at hb;simp at hb
  have ho:l[i]?=some l[i]:=aJ hil;have hat:=Cf hM i _ ho;rw[bZ]at hat;rw[hat.2]at hb;obtain⟨e,he,hbi,h1⟩:=yg hb;have hlt:=Az hat.1 e he hbi;unfold qU;rw[iZ,ho];simp only[im,bl,du];refine⟨e,by simpa using he,hbi,?_⟩;rcases h1 with q|q
  ·exact .inl (by rw[q];exact Nat.beq_refl h)
  ·exact .inr (DX oO (ih e.on hlt h q))
def zG (ops:Array Oper) (M:List Nat):List (Nat×Md)->Bool
 | []=>true
 |i::σ=>(σ.all λj=> !Nat.beq i.1 j.1&&((M.getD j.1 0).testBit i.1||nJ ops i j))&&zG ops M σ
theorem zh {l:List Oper} {M:List Nat} (hM:xh M l 0=true) (hML:M.length=l.length):∀ {σ:List (Nat×Md)},(∀x∈σ,x.1<l.length)->zG l.toArray M σ=true->oH l.toArray l.length σ=true
 | [],_,_=>rfl
 |i::σ,hlt,h=>by
  simp only[zG,bl,cQ,du]at h;simp only[oH,bl,cQ,du];refine⟨λj hj=>⟨(h.1 j hj).1,(h.1 j hj).2.imp (λq=> ?_) id⟩,zh hM hML (λx hx=>hlt x (aK _ hx)) h.2⟩;have:=hlt j (aK _ hj);exact DX oO (GL hM hML _ _ q)
def Ga (l:List Oper) (M:List Nat) (σ:List (Nat×Md)):Bool:=
 Nat.ble σ.length l.length&&(List.range l.length).all (λi=>σ.any λx=>Nat.beq x.1 i)&&σ.all (λx=>Nat.blt x.1 l.length)&&(Nat.beq M.length l.length&&xh M l 0&&zG l.toArray M σ)&&sV l.toArray σ&&
 l.all λo=>match o.op with| .select .. =>false|_=>true
theorem HK {l:List Oper} {M:List Nat} {σ:List (Nat×Md)} (h:Ga l M σ=true):Fh l.toArray σ=true:=by
 simp only[Ga,bl]at h;obtain⟨⟨⟨⟨⟨h1,h2⟩,h3⟩,⟨⟨h4,h5⟩,h6⟩⟩,h7⟩,h8⟩:=h;have hs:l.toArray.size=l.length:=by simp
 simp only[Fh,bl,hs];refine⟨⟨⟨⟨⟨h1,h2⟩,h3⟩,zh h5 (cI h4) (λx hx=> ?_) h6⟩,h7⟩,?_⟩
 ·have:=cQ.1 h3 x hx;rwa[gG]at this
 ·rw[<-hs,dA];intro x hx;have hx:=cQ.1 h8 x (by simpa using hx);cases hop:x.op<;>first|rfl|(rw[hop]at hx;cases hx)
end
section
variable {P : Program} {N : Nat} {ρ : Nat → Value} {w0 w : World} {Q : Exit → Act → World → Prop} {H : List kU}
theorem nc {C:Code} {ρ:Nat->Value} {w:World} (M:(Nat->Value)->Prop) (h0:M ρ) (h:∀ρ,M ρ->C.wp P Q (act N ρ) w):C.wp P Q (act N ρ) w:=h ρ h0
theorem JG {id:Nat} {l:List Oper} (M:List Nat) (σ:List (Nat×Md)) (hm:P.follows .mixedOrders=true) (hchk:Ga l M σ=true) (hS:St w0 w H)
  (h:∀w',St w0 w' H->Below w.heap.size w w'->Wr P l.toArray (Q .normal) σ N ρ w'):(Code.region id l.toArray true).wp P Q (act N ρ) w:=
 kC σ hm (HK hchk) hS h
end
open Go Go.RowKit Go.ChangeShapes Go.WideShapes Go.Proofs.YtoeiejliehgopaaGreatDoor
section
variable {H : Type} {enc : TypeId × Value → H} {P : Program} {w : World}
theorem add_add (a:Addr) (m n:Nat):(a.add m).add n=a.add (m+n):=by
 obtain⟨b,o,s⟩:=a;unfold Addr.add;by_cases hn:n=0
 ·subst hn;simp
 ·by_cases hm:m=0
  ·subst hm;simp[hn]
  ·simp[hn,hm,dU]
theorem at_one {a:Addr} {u:Value} (h:w.cell? a=some u):At w a [u]:=At.one h
theorem L3 {t e:TypeId} {v:Value} {d:DataW H} {ps:List MemPlace} {b0:Nat} (ht:P.underlying t=some (.slice e)) (he:P.underlying e=some (.int .u16)) (hc:P.cellsOf e=1)
  (hval:Value.okWide P w .any b0 t v) (h:DataW.Trod enc P w 0 (λ_=>true) true t v d ps):∃l:List Nat,Sl (uk .u16) 1 w v l/\∀x∈l,x<65536:=by
 obtain⟨a0,len0,cap0,rfl⟩:=okWide_slice ht hval;obtain⟨fuel,hf⟩:=h;rcases open_ints ht he hc hf with⟨h1,_⟩|⟨a,len,cap,zs,h1,_,hlc,hm,hz,_,hcell,hw⟩
 ·simp only[Value.cells,gf,and_true]at h1;rw[h1];exact⟨[],Sl.nil _ _ _,λx hx=>by cases hx⟩
 ·simp only[Value.cells,gf,and_true]at h1;rw[h1];have hzl:zs.length=cap:=by simpa using hz
  have hb:∀n∈zs,0<=n/\n<=65535:=λn hn=>bounds_u16 (hw n hn);have hl:((zs.take len).map Int.toNat).length=len:=by rw[aS,dg];omega
  refine⟨(zs.take len).map Int.toNat,⟨⟨some a,cap,by rw[hl],by rw[hl];exact hlc,hm,λq=>by cases q⟩,λi hi=> ?_⟩,λx hx=> ?_⟩
  ·rw[hl]at hi;have hi2:i<zs.length:=oO;have h2:=hcell i hi2;have h3:zs.getD i 0=zs[i]:=by rw[ap,aJ hi2];rfl
   have h4:=hb _ (jT hi2);rw[eI];refine at_one ?_;show w.cell? (a.add i)=_;rw[h2,h3,ew,iy,fz h4.1]
  ·obtain⟨z,hz2,rfl⟩:=bX.1 hx;have:=hb z (gQ hz2);omega
theorem Ew (hl:laidOutB P=true) {w':World} (hb:Below w.heap.size w w'):∀ {ts:List TypeId} {vs:List Value} {ds:List (DataW H)} {ps:List MemPlace},(∀t∈ts,P.readableRec t=true/\t<P.types.size)->(∀x∈ps,x.block<w.heap.size)->
  DataW.TrodAll enc P w 0 (λ_=>true) true ts vs ds ps->DataW.TrodAll enc P w' 0 (λb=>decide (b<w.heap.size)) true ts vs ds ps
 | [],[],[],_,_,_,h=>h
 |t::ts,v::vs,d::ds,ps,hT,hlt,⟨p,q,h1,h2,e⟩=>by
  subst e;exact⟨p,q,Below.trod hl (hT t (aQ ..)).1 (hT t (aQ ..)).2 h1 hb (λx hx=>hlt x (gR _ hx)),
   Ew hl hb (λt ht=>hT t (aK _ ht)) (λx hx=>hlt x (List.mem_append_right _ hx)) h2,rfl⟩
 | [],[],_::_,_,_,_,h=>h.elim
 | [],_::_,[],_,_,_,h=>h.elim
 | [],_::_,_::_,_,_,_,h=>h.elim
 |_::_,[],[],_,_,_,h=>h.elim
 |_::_,[],_::_,_,_,_,h=>h.elim
 |_::_,_::_,[],_,_,_,h=>h.elim
theorem Pv {f:Func} {s:ChangeSpec} {w':World} {args:Array Value} {v:Value} {ds gs:List (DataW H)} {before:List MemPlace} (hl:laidOutB P=true)
  (hW:DataW.Whole enc P f.params.toList s.vars false w args.toList ds gs before) (hT:∀t∈f.params.toList,P.readableRec t=true/\t<P.types.size) (hv:s.vars=[]) (hb:Below w.heap.size w w')
  (hres:DataW.TrodAll enc P w' w.heap.size (λ_=>false) false f.resultTypes.toList (v.resultList f.resultTypes.size) (s.fn H (ds++gs)).results []) (hargs:(s.fn H (ds++gs)).args=ds) (hvars:(s.fn H (ds++gs)).vars=[]):
  s.post enc P f false true false false w args v w':=by
 have hlt:∀x∈before,x.block<w.heap.size:=λx hx=>hW.lt x hx;have hW2:=hW;obtain⟨p,q,h1,h2,rfl,_,_⟩:=hW;rw[hv]at h2;obtain⟨rfl,rfl⟩:=trodVars_none h2;rw[aU]at hlt;refine⟨ds,[],_,[],p,[],hW2,hres,?_,?_,hb.frame _,λq=>by cases q⟩
 ·rw[hargs];exact Ew hl hb hT hlt h1
 ·rw[hvars,hv];exact rfl
end
end Go.Sx
namespace Go.Proofs.YtoeiejliehgopaaGreatDoor
open Go Go.RowKit Go.Sx Go.ChangeShapes Go.WideShapes Go.ChangeAt
theorem R4:ownKnob Tryz.prog.godebug=none:=by kernel_rfl
theorem laidOut:laidOutB Tryz.prog=true:=by kernel_rfl
end Go.Proofs.YtoeiejliehgopaaGreatDoor
namespace Go.Sx
open Go Go.RowKit
section
variable {P : Program} {N : Nat} {ρ : Nat → Value} {w0 w w' : World}
  {d : Option Tmp} {ty : TypeId} {pos : String} {aft : Array Edge} {g : Option (Nat × Bool)} {x y z : Operand} {t t' e : TypeId} {H : List kU} {k b o : Nat} {v : Value} {K : Value → Prop} {K2 : Value → World → Prop}
theorem Iy {α:Type} {enc:α->List Value} {size:Nat} (hu:∀x,(enc x).length=size) (L:List α) (sp:List Value) (d:α) {i:Nat} (hi:i<L.length):((L.flatMap enc++sp).drop (i*size)).take size=enc (L.getD i d):=by
 have h1:(i+1)*size<=L.length*size:=aO _ hi;rw[bA]at h1;have h2:=lS hu L;rw[fH oO,fG (by rw[fe];omega)];exact DW hu L d hi
theorem Ml {α:Type} {enc:α->List Value} {size:Nat} (hu:∀x,(enc x).length=size) (L:List α) (sp:List Value) (x:α) {i:Nat} (hi:i<L.length):splice (L.flatMap enc++sp) (i*size) (enc x)=(L.set i x).flatMap enc++sp:=by
 have h1:(i+1)*size<=L.length*size:=aO _ hi;rw[bA]at h1;have h2:=lS hu L;rw[<-wZ hu L x hi];unfold splice;rw[fG oO,fH (by rw[hu];omega)];simp
theorem Cp {α:Type} {enc:α->List Value} {size:Nat} {L:List α} {sp:List Value} {i:Nat} {zz:List Value} {agg:Bool} (dd:α) (hu:∀x,(enc x).length=size) (hx:ev N ρ x= .pointer (some ⟨b,o,none⟩)) (ht:lO P t=some (size,agg,zz)) (hS:St w0 w H) (hk:H[k]?=some (b,t',L.flatMap enc++sp))
  (ho:o=i*size) (hi:i<L.length) (hv:RY agg (enc (L.getD i dd))=v) (hagg:agg=true\/size=1) (h:K v):qN P N ρ w ⟨d,.load t x,ty,pos,aft,g⟩ K:=by
 subst ho;have hat:=hS.at hk (i*size) size;rw[Iy hu L sp dd hi]at hat;exact oB hx ht hat (hu _) hv hagg h
theorem B3 {α:Type} {enc:α->List Value} {size:Nat} {L:List α} {sp:List Value} {i:Nat} {zz:List Value} {agg:Bool} (u:α) (hu:∀x,(enc x).length=size) (hx:ev N ρ x= .pointer (some ⟨b,o,none⟩)) (hy:ev N ρ y=v) (ht:lO P t=some (size,agg,zz)) (hS:St w0 w H) (hk:H[k]?=some (b,t',L.flatMap enc++sp))
  (ho:o=i*size) (hi:i<L.length) (hv:v.cells.toList=enc u) (h1:(enc u).all (·.oneCell')=true)
  (h:∀w',St w0 w' (H.set k (b,t',(L.set i u).flatMap enc++sp))->K2 undef w'):pd P N ρ w ⟨d,.store t x y,ty,pos,aft,g⟩ K2:=by
 subst ho;refine lI hx hy ht hS hk hv (hu u) ?_ h1 (λw' hS'=> ?_)
 ·rw[aG,lS hu];have:(i+1)*size<=L.length*size:=aO _ hi;rw[bA]at this;omega
 ·rw[Ml hu L sp u hi]at hS';exact h w' hS'
theorem mO {a:Addr} (hx:ev N ρ x= .pointer (some a)) (h:K (.pointer (some a))):lX P N ρ ⟨d,.nilCheck x,ty,pos,aft,g⟩ K:=
 ⟨_,λw=>(by simp[execOp,hx]),h⟩
theorem Qj {fn:Fn} (hx:ev N ρ x=v) (h:K (.func fn #[] #[v])):lX P N ρ ⟨d,.makeFunc fn #[] #[x],ty,pos,aft,g⟩ K:=
 ⟨_,λw=>(by simp[execOp,hx,Instr.makeFunc]),h⟩
theorem St.WQ {α:Type} {enc:α->List Value} {size:Nat} {L:List α} {sp:List Value} (h:St w0 w H) (hk:H[k]?=some (b,t,L.flatMap enc++sp)) (hu:∀x,(enc x).length=size) {n cap:Nat} (hn:n<=L.length) (h1:n<=cap) (h2:cap<=9223372036854775807):
  Sl enc size w (.slice (some ⟨b,0,none⟩) n cap) (L.take n):=by
 have hl:(L.take n).length=n:=by rw[dg];omega
 have e:L.flatMap enc++sp=(L.take n).flatMap enc++((L.drop n).flatMap enc++sp):=by
  rw[<-aI,<-dy,dc]
 rw[e]at hk;have:=h.sl (enc:=enc) (size:=size) (L:=L.take n) (spare:=(L.drop n).flatMap enc++sp) (cap:=cap) hk rfl hu (by rw[hl];exact h1) (by unfold Go.maxLen;omega);rwa[hl]at this
end
section
variable {α : Type}
def yQ (lt:α->α->Bool) (S:List α) (x:α):List α:=(S.reverse.dropWhile (lt x)).reverse++x::(S.reverse.takeWhile (lt x)).reverse
def sI (lt:α->α->Bool) (L:List α):List α:=L.foldl (yQ lt) []
theorem H6 {lt:α->α->Bool} {A B:List α} {x:α} (hB:∀y∈B,lt x y=true) (hA:∀y,A.getLast?=some y->lt x y=false):yQ lt (A++B) x=A++x::B:=by
 have h1:A.reverse.takeWhile (lt x)=[]/\A.reverse.dropWhile (lt x)=A.reverse:=by
  cases h:A.reverse with
  |nil=>exact⟨rfl,rfl⟩
  |cons y t=>
   have hy:A.getLast?=some y:=by rw[<-List.head?_reverse,h];rfl
   have:=hA y hy;simp[this]
 unfold yQ;rw[jk,List.takeWhile_append_of_pos (λy hy=>hB y (dW.1 hy)),List.dropWhile_append_of_pos (λy hy=>hB y (dW.1 hy)),h1.1,h1.2];simp
theorem Iz (lt:α->α->Bool) (L:List α) (x:α):sI lt (L++[x])=yQ lt (sI lt L) x:=by unfold sI;rw[eE];rfl
theorem HW (lt:α->α->Bool) (S:List α) (x:α):∃A B,S=A++B/\yQ lt S x=A++x::B/\(∀y∈B,lt x y=true)/\∀y,A.getLast?=some y->lt x y=false:=by
 refine⟨(S.reverse.dropWhile (lt x)).reverse,(S.reverse.takeWhile (lt x)).reverse,?_,rfl,λy hy=> ?_,λy hy=> ?_⟩
 ·rw[<-jk,List.takeWhile_append_dropWhile,gP]
 ·rw[dW]at hy;generalize S.reverse=T at hy;induction T with
  |nil=>cases hy
  |cons z T ih=>
   rw[List.takeWhile_cons]at hy;split at hy
   ·next h=>
    rcases bJ.1 hy with rfl|hy
    ·exact h
    ·exact ih hy
   ·cases hy
 ·rw[List.getLast?_reverse]at hy;generalize S.reverse=T at hy;induction T with
  |nil=>cases hy
  |cons z T ih=>
   rw[List.dropWhile_cons]at hy;split at hy
   ·exact ih hy
   ·next h=>
    obtain rfl:z=y:=bN hy;exact Bool.eq_false_iff.2 h
theorem IK (lt:α->α->Bool) (S:List α) (x:α):(yQ lt S x).Perm (x::S):=by
 obtain⟨A,B,rfl,e,_⟩:=HW lt S x;rw[e];exact List.perm_middle
theorem qw (lt:α->α->Bool) (L:List α):(sI lt L).Perm L:=by
 have key:∀(L S:List α),(L.foldl (yQ lt) S).Perm (S++L):=by
  intro L;induction L with
  |nil=>intro S;simp
  |cons x L ih=>
   intro S;rw[ga];refine(ih _).trans ?_;refine((IK lt S x).append_right L).trans ?_;exact List.perm_middle.symm
 have:=key L [];rwa[ca]at this
theorem Ab (lt:α->α->Bool) (L:List α):(sI lt L).length=L.length:=(qw lt L).length_eq
end
end Go.Sx
namespace Go.Proofs.YtoeiejliehgopaaGreatDoor
open Go Go.RowKit Go.Sx
theorem N3 (p q:Rat) (X Y:Nat):mkRat (sg (decide (p.num<0)!=decide (q.num<0)) X) Y=mkRat (sg (decide (p.num<0)) 1*sg (decide (q.num<0)) 1*X) Y:=by
 congr 1;by_cases h1:p.num<0<;>by_cases h2:q.num<0<;>simp[h1,h2,sg]
theorem F2 (n:Int):sg (decide (n<0)) 1*(n.natAbs:Int)=n:=by
 by_cases h:n<0
 ·simp[h,sg];omega
 ·simp[h,sg];omega
theorem Rr (p q:Rat):mkRat (sg (decide (p.num<0)!=decide (q.num<0)) (p.num.natAbs*q.num.natAbs)) (p.den*q.den)=p*q:=by
 rw[N3];have e:sg (decide (p.num<0)) 1*sg (decide (q.num<0)) 1*((p.num.natAbs*q.num.natAbs:Nat):Int)=p.num*q.num:=by
  have h1:=F2 p.num;have h2:=F2 q.num;calc _=(sg (decide (p.num<0)) 1*(p.num.natAbs:Int))*(sg (decide (q.num<0)) 1*(q.num.natAbs:Int)):=by push_cast;grind
   _=_:=by rw[h1,h2]
 rw[e];conv=>rhs;rw[<-eC p,<-eC q]
 exact(Rat.mkRat_mul_mkRat _ _ _ _).symm
theorem RN (p q:Rat):mkRat (sg (decide (p.num<0)!=decide (q.num<0)) (p.num.natAbs*q.den)) (p.den*q.num.natAbs)=p/q:=by
 by_cases hq:q=0
 ·subst hq;simp[Rat.mkRat_zero,bT]
 have hqn:q.num.natAbs≠0:=λh=>hq (fN.1 (jE.1 h));have key:mkRat (sg (decide (p.num<0)!=decide (q.num<0)) (p.num.natAbs*q.den)) (p.den*q.num.natAbs)*q=p:=by
  rw[N3];conv=>lhs;rhs;rw[<-eC q]
  rw[Rat.mkRat_mul_mkRat];have h1:=F2 p.num;have h2:=F2 q.num;have hs:sg (decide (q.num<0)) 1*sg (decide (q.num<0)) 1=1:=by
   by_cases h:q.num<0<;>simp[h,sg]
  have e:sg (decide (p.num<0)) 1*sg (decide (q.num<0)) 1*((p.num.natAbs*q.den:Nat):Int)*q.num=p.num*((q.num.natAbs*q.den:Nat):Int):=by
   calc _=(sg (decide (p.num<0)) 1*(p.num.natAbs:Int))*(sg (decide (q.num<0)) 1*q.num*(q.den:Int)):=by push_cast;grind
    _=p.num*(sg (decide (q.num<0)) 1*(sg (decide (q.num<0)) 1*(q.num.natAbs:Int))*(q.den:Int)):=by rw[h1,h2]
    _=p.num*((sg (decide (q.num<0)) 1*sg (decide (q.num<0)) 1)*(q.num.natAbs:Int)*(q.den:Int)):=by grind
    _=_:=by rw[hs];push_cast;grind
  rw[e,bk];have:=jg (n:=p.num) (d:=p.den) (a:=q.num.natAbs*q.den) (fZ hqn q.den_nz);rw[this,eC]
 rw[<-key,bT,gN,bY _ hq,i2,key]
theorem pu (r s:RR) (w:World) (hr:Lr r+Lr s<=MX):
  lU Tryz.prog 11 #[kW r,kW s] w λv w'=>v=kW (j8 (toQ r*toQ s))/\Below w.heap.size w w':=by
 have hM:MX=1099511627776:=rfl;have hL1:=uA r;have hL2:=uA s;obtain⟨p,hp⟩:=jz (toQ r);obtain⟨q,hq⟩:=jz (toQ s);have hc1:=λw=>nT r w (show Lr r<=MX by omega);have hc2:=λw=>nT s w (show Lr s<=MX by omega);unfold fx at hc1 hc2;rw[<-hp]at hL1 hc1⊢;rw[<-hq]at hL2 hc2⊢;have hn1:=tG p;have hn2:=tG q;have hd1:=s9 p;have hd2:=s9 q;have hm1:=lJ p.num.natAbs q.num.natAbs;have hm2:=lJ p.den q.den;have hD2:val (kG (p.den*q.den))≠0:=by rw[kY];exact fZ p.den_nz q.den_nz
 have hred:=λw=>rX (decide (p.num<0)!=decide (q.num<0)) (kG (p.num.natAbs*q.num.natAbs)) (kG (p.den*q.den)) w oO oO hD2;rw[kY,kY,Rr]at hred;have hS:=St.init w;refine enter Tryz.func11 rfl Tryz.ntmps11 rfl ?_;refine jr ?_;refine jh (kZ (new:=j5 r) rfl rfl hS ?_);intro b1 wz2 hS hBz2;refine jh (kZ (new:=j5 s) rfl rfl hS ?_);intro b3 wz4 hS hBz4;refine J1 ?_;intro b5 wz6 hS hBz6;refine ja ?_;refine kC [ju 0,ju 2,jv 1,jv 3,jw 4,jw 5] kR kR hS ?_;intro wz7 hS hBz7;refine J2 ?_;refine jn rfl (j6 Tryz.call28 rfl (hc1 _) ?_);rintro _ wc8 ⟨rfl,hBc8⟩;replace hS:=hS.km hBc8;refine⟨hBc8,?_⟩;refine jn rfl (j6 Tryz.call28 rfl (hc2 _) ?_);rintro _ wc9 ⟨rfl,hBc9⟩;replace hS:=hS.km hBc9;refine⟨hBc9,?_⟩;refine J1 ?_;intro wz10 hS;refine J1 ?_;intro wz11 hS;refine ja ?_;refine kC [jo 0,ju 1,jo 2,ju 3,jo 4,jo 5,ju 6,jo 7,ju 8,ju 10,ju 12,jv 9,jv 11,jv 13,jv 14,jv 15,jw 16] kR kR hS ?_;intro wz12 hS hBz12;refine J4 ?_;refine jl rfl (Cd rfl rfl Tryz.underlying4 ?_);refine J6 ?_;refine jn rfl (j6 Tryz.call30 rfl (vZ p.num.natAbs q.num.natAbs _ oO oO) ?_);rintro _ wc13 ⟨rfl,hBc13⟩;replace hS:=hS.km hBc13;refine⟨hBc13,?_⟩;refine jn rfl (j6 Tryz.call31 rfl (tL p _) ?_);rintro _ wc14 ⟨rfl,hBc14⟩;replace hS:=hS.km hBc14;refine⟨hBc14,?_⟩;refine jn rfl (j6 Tryz.call31 rfl (tL q _) ?_);rintro _ wc15 ⟨rfl,hBc15⟩;replace hS:=hS.km hBc15;refine⟨hBc15,?_⟩;refine jn rfl (j6 Tryz.call30 rfl (vZ p.den q.den _ oO oO) ?_);rintro _ wc16 ⟨rfl,hBc16⟩;replace hS:=hS.km hBc16;refine⟨hBc16,?_⟩;refine jn rfl (j6 Tryz.call29 rfl (hred _) ?_);rintro _ wc17 ⟨rfl,hBc17⟩;replace hS:=hS.km hBc17;refine⟨hBc17,?_⟩;refine J1 ?_;intro wz18 hS;refine jt ?_;refine mb (k:=0) rfl rfl kf hS rfl rfl ?_;exact⟨rfl,hS.j4⟩
theorem Gu (b:Bool) (num den:ByteArray) (w:World) (hn:num.size<=2*MX) (hd:den.size<=2*MX) (h0:val den≠0):
  lU Tryz.prog 146 #[.bool b,.string num,.string den] w λv w'=>v= .tuple #[kW (j8 (mkRat (sg b (val num)) (val den))),.bool true]/\Below w.heap.size w w':=by
 have hM:MX=1099511627776:=rfl;have hS:=St.init w;refine enter Tryz.func146 rfl Tryz.ntmps146 rfl ?_;refine J1 ?_;intro b1 wz2 hS hBz2;refine J2 ?_;refine jh (j6 Tryz.call66 rfl (ng _ _ (show den.size<=_ by omega)) ?_);rintro _ wq3 ⟨rfl,hq3⟩;replace hq3:=hq3.symm;subst hq3;refine jp (sW rfl rfl ?_);refine ja ?_;refine lx rfl (ae (λh=>h0 (n4.1 h))) ?_;refine J3 ?_;refine jh (j6 Tryz.call29 rfl (rX b num den _ hn hd h0) ?_);rintro _ wc4 ⟨rfl,hBc4⟩;replace hS:=hS.km hBc4;refine J1 ?_;intro wz5 hS;refine J1 ?_;refine jt ?_;refine nb (k:=0) rfl rfl rfl kf hS rfl rfl ?_;exact⟨rfl,hS.j4⟩
theorem vw (r s:RR) (w:World) (hr:Lr r+Lr s<=MX) (hs:toQ s≠0):
  lU Tryz.prog 108 #[kW r,kW s] w λv w'=>v= .tuple #[kW (j8 (toQ r/toQ s)),.bool true]/\Below w.heap.size w w':=by
 have hM:MX=1099511627776:=rfl;have hL1:=uA r;have hL2:=uA s;obtain⟨p,hp⟩:=jz (toQ r);obtain⟨q,hq⟩:=jz (toQ s);have hc1:=λw=>nT r w (show Lr r<=MX by omega);have hc2:=λw=>nT s w (show Lr s<=MX by omega);unfold fx at hc1 hc2;rw[<-hp]at hL1 hc1⊢;rw[<-hq]at hL2 hc2 hs⊢;have hn1:=tG p;have hn2:=tG q;have hd1:=s9 p;have hd2:=s9 q;have hm1:=lJ p.num.natAbs q.den;have hm2:=lJ p.den q.num.natAbs;have hqn:q.num.natAbs≠0:=λh=>hs (fN.1 (jE.1 h));have hD2:val (kG (p.den*q.num.natAbs))≠0:=by rw[kY];exact fZ p.den_nz hqn
 have hred:=λw=>Gu (decide (p.num<0)!=decide (q.num<0)) (kG (p.num.natAbs*q.den)) (kG (p.den*q.num.natAbs)) w oO oO hD2;rw[kY,kY,RN]at hred;have hS:=St.init w;refine enter Tryz.func108 rfl Tryz.ntmps108 rfl ?_;refine jr ?_;refine jh (kZ (new:=j5 r) rfl rfl hS ?_);intro b1 wz2 hS hBz2;refine jh (kZ (new:=j5 s) rfl rfl hS ?_);intro b3 wz4 hS hBz4;refine J1 ?_;intro b5 wz6 hS hBz6;refine V1 ?_;refine kC [ju 0,ju 2,jv 1,jv 3,jw 4,jw 5] kR kR hS ?_;intro wz7 hS hBz7;refine J2 ?_;refine jn rfl (j6 Tryz.call28 rfl (hc1 _) ?_);rintro _ wc8 ⟨rfl,hBc8⟩;replace hS:=hS.km hBc8;refine⟨hBc8,?_⟩;refine jn rfl (j6 Tryz.call28 rfl (hc2 _) ?_);rintro _ wc9 ⟨rfl,hBc9⟩;replace hS:=hS.km hBc9;refine⟨hBc9,?_⟩;refine J1 ?_;intro wz10 hS;refine J1 ?_;intro wz11 hS;refine ja ?_;refine kC [jo 0,ju 1,jo 2,ju 3,jo 4,jo 5,ju 6,ju 7,ju 10,jo 12,ju 13,jv 8,jv 9,jv 11,jv 14,jv 15,jo 16,jo 17,jw 18,jo 19] kR kR hS ?_;intro wz12 hS hBz12;refine J4 ?_;refine jl rfl (Cd rfl rfl Tryz.underlying4 ?_);refine J6 ?_;refine jn rfl (j6 Tryz.call31 rfl (tL q _) ?_);rintro _ wc13 ⟨rfl,hBc13⟩;replace hS:=hS.km hBc13;refine⟨hBc13,?_⟩;refine jn rfl (j6 Tryz.call30 rfl (vZ p.num.natAbs q.den _ oO oO) ?_);rintro _ wc14 ⟨rfl,hBc14⟩;replace hS:=hS.km hBc14;refine⟨hBc14,?_⟩;refine jn rfl (j6 Tryz.call31 rfl (tL p _) ?_);rintro _ wc15 ⟨rfl,hBc15⟩;replace hS:=hS.km hBc15;refine⟨hBc15,?_⟩;refine jn rfl (j6 Tryz.call30 rfl (vZ p.den q.num.natAbs _ oO oO) ?_);rintro _ wc16 ⟨rfl,hBc16⟩;replace hS:=hS.km hBc16;refine⟨hBc16,?_⟩;refine jn rfl (j6 Tryz.call146 rfl (hred _) ?_);rintro _ wc17 ⟨rfl,hBc17⟩;replace hS:=hS.km hBc17;refine⟨hBc17,?_⟩;refine J3 ?_;intro wz18 hS;refine J1 ?_;refine jt ?_;refine nb (k:=0) rfl rfl rfl kf hS rfl rfl ?_;exact⟨rfl,hS.j4⟩
theorem yq (r:RR) (w:World) (hr:Lr r<=MX):
  lU Tryz.prog 105 #[kW r] w λv w'=>v=kW (j8 (-toQ r))/\Below w.heap.size w w':=by
 have hc1:=λw=>nT r w hr;unfold fx at hc1;have hS:=St.init w;refine enter Tryz.func105 rfl Tryz.ntmps105 rfl ?_;refine jr ?_;refine jh (kZ (new:=j5 r) rfl rfl hS ?_);intro b1 wz2 hS hBz2;refine J1 ?_;intro b3 wz4 hS hBz4;refine J1 ?_;refine jh (j6 Tryz.call28 rfl (hc1 _) ?_);rintro _ wc5 ⟨rfl,hBc5⟩;replace hS:=hS.km hBc5;refine jh (j6 Tryz.call37 rfl (Ej (toQ r) _) ?_);rintro _ wc6 ⟨rfl,hBc6⟩;replace hS:=hS.km hBc6;refine J1 ?_;intro wz7 hS;refine jt ?_;refine mb (k:=0) rfl rfl kf hS rfl rfl ?_;exact⟨rfl,hS.j4⟩
end Go.Proofs.YtoeiejliehgopaaGreatDoor
namespace Go.Sx
open Go Go.RowKit
theorem Sl.flat {w:World} {α:Type} {enc:α->List Value} {size:Nat} {v:Value} {L:List α} (h:Sl enc size w v L) (hu:∀x,(enc x).length=size) (hs:0<size):At w (tB v) (L.flatMap enc):=by
 intro j u hj;have hlt:j<L.length*size:=by
  have:=(dN.1 hj).1;rwa[lS hu]at this
 have hi:j/size<L.length:=(iV hs).2 hlt;have hr:j%size<size:=bG _ hs;have e:j/size*size+j%size=j:=by rw[bF];exact cJ _ _
 have h2:=flat_get hu L (j/size) (j%size) hi hr;rw[e,hj]at h2;have h3:=h.elt (j/size) hi (j%size) u h2.symm;rwa[yS _ _ _ (h.spot hu hs (ct (aB _) hi)),e]at h3
section
variable {P : Program} {N : Nat} {ρ : Nat → Value} {w0 w w' : World} {d : Option Tmp} {ty : TypeId} {pos : String} {aft : Array Edge} {g : Option (Nat × Bool)} {x y z : Operand} {t t' e : TypeId} {H L : List kU} {b : Nat} {cs : List Value} {v : Value} {K : Value → Prop} {K2 : Value → World → Prop}
theorem BG {a:Option Addr} {n c:Nat} (hx:ev N ρ x= .slice a n c) (hy:ev N ρ y= .slice none 0 0) (ht:∃e,P.underlying t=some (.slice e)) (h:K (.bool a.isNone)):lX P N ρ ⟨d,.binOp .eql t x y t',ty,pos,aft,g⟩ K:=by
 obtain⟨e,ht⟩:=ht;refine⟨.bool a.isNone,λw=> ?_,h⟩;have h2:(binOp .eql t (.slice a n c) (.slice none 0 0)).run P w= .ok (.bool a.isNone) w:=by
  have h4:∀k,(Op.equalIn (k+1) t (.slice a n c) (.slice none 0 0)).run P w= .ok a.isNone w:=λk=>by cases a<;>simp[Op.equalIn,cS ht]
  have h3:=h4 9999;simp only[binOp];simp[Op.equal,Op.maxDepth,h3]
 simp only[execOp,hx,hy,dP];have h1:(eqGuard .eql t x y (.slice a n c) (.slice none 0 0)).run P w= .ok () w:=rfl;rw[h1,dp,h2,dp];rfl
theorem O6 {sz by_:Nat} {zz:List Value} (ht:sinfo P t=some (e,sz,by_,zz)) (hS:St w0 w H)
  (h:∀b w',St w0 w' ((b,e,[])::H)->Below w.heap.size w w'->K2 (.slice (some ⟨b,0,none⟩) 0 0) w'):
  pd P N ρ w ⟨d,.buildSlice t 0 #[],ty,pos,aft,g⟩ K2:=by
 obtain⟨hu,ii,zv,hi1,hz,hsz,hby,hcz,hzl⟩:=mE ht;have hr:(Instr.buildSlice t 0 #[]).run P w= .ok (.slice (some ⟨w.heap.size,0,none⟩) 0 0) (w.alloc (.cells #[] e)):=by
  simp[Instr.buildSlice,cS hu,sizeOf,typeInfo,hi1,newRow,Instr.fill];rw[show Array.range 0= #[]from Array.eq_empty_of_size_eq_zero (by simp)];simp
 refine nX ?_ (h w.heap.size _ (hS.alloc [] e) (pX w _));have hp:((#[]:Array (Nat×Operand)).map λ(i,x)=>(i,ev N ρ x))= #[]:=by simp
 simp only[execOp,hp,dP,hr,dp];rfl
theorem EI {α:Type} {enc:α->List Value} {size bytes:Nat} {zz:List Value} {X Y:List α} {xv:Value} (hx:ev N ρ x=v) (hy:ev N ρ y=xv) (ht:sinfo P t=some (e,size,bytes,zz)) (hsz:0<size)
  (hG:Gl enc e size v X L) (hS:St w0 w (H++L)) (hY:Sl enc size w xv Y) (hu:∀x,(enc x).length=size) (h1:∀u∈Y.flatMap enc,u.oneCell'=true)
  (h63:X.length+Y.length<=9223372036854775807) (hb:(X.length+Y.length)*bytes<=140737488355328)
  (h:∀v' L' w',Gl enc e size v' (X++Y) L'->St w0 w' (H++L')->w.heap.size<=w'.heap.size->((∀i,i<w.heap.size->v.ownBlock≠some i->w'.heap[i]?=w.heap[i]?))->K2 v' w'):
  pd P N ρ w ⟨d,.call ⟨.builtin .append,#[x,y],#[t,t]⟩,ty,pos,aft,g⟩ K2:=by
 obtain⟨ad,c,hxv,hc1,hc2,hn⟩:=hY.form;cases ad with
 |some ad=>
  have hat:=hY.flat hu hsz;rw[hxv]at hat;refine Sk (H:=H) hx hy ht hsz hG (hS.perm aF) hxv (by rw[lS hu]) hat h1 h63 hb (λv' L' w' hG' hS' hun hge=> ?_);refine h v' L' w' ?_ (hS'.perm aF) hge hun;unfold Gl;rw[aG,dy];exact hG'
 |none=>
  have hc0:=hn rfl;obtain rfl:Y=[]:=cH oO;subst hc0;obtain⟨hus,ii,zv,hi1,hz,hsize,hby,hcz,hzl⟩:=mE ht;have hr:(Builtin.append_ #[t,t] ty #[v,.slice none 0 0]).run P w= .ok v w:=by
   obtain⟨_,⟨rfl,_,_⟩|⟨b',cap',sp',rfl,_,g1,_,_⟩⟩:=hG
   ·simp[Builtin.append_,cS hus,sizeOf,typeInfo,hi1,Builtin.lenOf,Builtin.firstCells]
   ·simp[Builtin.append_,cS hus,sizeOf,typeInfo,hi1,Builtin.lenOf,Builtin.firstCells,g1,storeCells]
  refine nX ?_ (h v L w (by rw[aU];exact hG) hS (aH _) (λ_ _ _=>rfl));rw[hxv]at hy;have hy':ev N ρ y= .slice none 0 0:=hy;simp[execOp,resolve,invoke,builtin,hx,hy',hr]
theorem IE {α:Type} {enc:α->List Value} {size bytes:Nat} {zz:List Value} {Y:List α} {xv:Value} (hx:ev N ρ x= .slice none 0 0) (hy:ev N ρ y=xv) (ht:sinfo P t=some (e,size,bytes,zz)) (hsz:0<size)
  (hS:St w0 w H) (hY:Sl enc size w xv Y) (hu:∀x,(enc x).length=size) (h1:∀u∈Y.flatMap enc,u.oneCell'=true)
  (h63:Y.length<=9223372036854775807) (hb:Y.length*bytes<=140737488355328)
  (h:∀v' L' w',Gl enc e size v' Y L'->St w0 w' (H++L')->Below w.heap.size w w'->K2 v' w'):
  pd P N ρ w ⟨d,.call ⟨.builtin .append,#[x,y],#[t,t]⟩,ty,pos,aft,g⟩ K2:=by
 refine EI (H:=H) (L:=[]) (X:=[]) hx hy ht hsz (Gl.nil enc e size) (by rw[aU];exact hS) hY hu h1 (by rw[f9];omega) (by rw[f9,bZ];exact hb) (λv' L' w' hG' hS' hge hun=> ?_);rw[ca]at hG';exact h v' L' w' hG' hS' ⟨hS'.j4.os.trans hS.j4.os.symm,hS'.j4.tape.trans hS.j4.tape.symm,hS'.j4.output.trans hS.j4.output.symm,hge,λk hk=>hun k hk (by simp[Value.ownBlock])⟩
end
section
variable {P : Program} {N : Nat} {ρ : Nat → Value} {w0 w : World} {H : List kU} {k b : Nat} {t : TypeId} {cs : List Value}
theorem zZ {fn:Func} {p u:Tmp} {ty:TypeId} (h:fn.results= #[.tmp u,.cell p ty]) (tmps:Array Value) (P:Program) (w:World):
  (results fn tmps).run P w=
   ((asAddr (tmps.getD p undef)).run P w).andThen λa w₁=>((loadVar ty a).run P w₁).andThen λv w₂=> .ok (.tuple #[tmps.getD u undef,v]) w₂:=by
 simp only[results,h];simp[dP,Result.andThen]
theorem tP {fn:Func} {p u n:Nat} {ty:TypeId} {zz:List Value} {y:Value} {R:Value->World->Prop} (hr:fn.results= #[.tmp u,.cell p ty]) (hp:ev N ρ (.tmp p)= .pointer (some ⟨b,0,none⟩)) (hy:ev N ρ (.tmp u)=y) (ht:lO P ty=some (n,true,zz))
  (hS:St w0 w H) (hk:H[k]?=some (b,t,cs)) (hn:cs.length=n) (h:R (.tuple #[y,.agg cs.toArray]) w):
  bodyPost P fn (λe w'=>∃v,e= .returned v/\R v w') .ret (act N ρ) w:=by
 refine gB (v:= .tuple #[y,.agg cs.toArray]) ?_ rfl ⟨_,rfl,h⟩;rw[zZ hr,nU,nU,hp,hy];have hl:=hS.loadVar hk ht hn;simp only[asAddr,io,dp];rw[hl];simp[Result.andThen]
end
section
variable {P : Program} {ops : Array Oper} {Kend : Act → World → Prop}
def uP (ops:Array Oper) (U:List (Nat×Md)) (i:Nat):Bool:=match ops[i]?with
 |some o=>o.after.all λe=> !Region.binds .any e|| !(U.any λy=>Nat.beq y.1 e.on)
 |none=>false
def del (U:List (Nat×Md)) (i:Nat):List (Nat×Md):=U.filter λy=> !Nat.beq y.1 i
theorem qt {U:List (Nat×Md)} {i:Nat} {y:Nat×Md}:y∈del U i↔y∈U/\y.1≠i:=by
 unfold del;rw[dV];constructor
 ·rintro⟨h1,h2⟩;refine⟨h1,λe=> ?_⟩;rw[e]at h2;simp at h2
 ·rintro⟨h1,h2⟩;refine⟨h1,?_⟩;rw[fQ];cases hb:Nat.beq y.1 i with
  |false=>rfl
  |true=>exact absurd (cI hb) h2
theorem Nw (U:List (Nat×Md)) (i j:Nat):del (del U i) j=del (del U j) i:=by
 unfold del;rw[List.filter_filter,List.filter_filter];congr 1;funext y;exact Bool.and_comm _ _
theorem Ib {U V:List (Nat×Md)} (h:∀y∈V,y∈U) {i:Nat} (hr:uP ops U i=true):uP ops V i=true:=by
 unfold uP at*;cases ho:ops[i]?with
 |none=>rw[ho]at hr;cases hr
 |some o=>
  rw[ho]at hr;simp only at hr⊢;rw[dA]at hr⊢;intro e he;have:=hr e he;rw[du]at this⊢;rcases this with q|q
  ·exact .inl q
  ·right;rw[fQ]at q⊢;rw[gz]at q⊢;exact λy hy=>q y (h y hy)
theorem CK {U:List (Nat×Md)} {i:Nat} (hr:uP ops U i=true):∃o,ops[i]?=some o/\∀e∈o.after,Region.binds .any e=true->∀y∈U,y.1≠e.on:=by
 unfold uP at hr;cases ho:ops[i]?with
 |none=>rw[ho]at hr;cases hr
 |some o=>
  rw[ho]at hr;simp only at hr;rw[dA]at hr;refine⟨o,rfl,λe he hb y hy q=> ?_⟩;have:=hr e he;rw[hb,iG,iH,fQ,gz]at this;exact this y hy (by rw[q];simp)
def IN (P:Program) (ops:Array Oper) (Kend:Act->World->Prop):Nat->List (Nat×Md)->Act->World->Prop
 |0,U,a,w=>U=[]/\Kend a w
 |n+1,U,a,w=>(U=[]->Kend a w)/\∀x∈U,uP ops U x.1=true->∃o,ops[x.1]?=some o/\md P ops x.2 o a w (IN P ops Kend n (del U x.1))
def Ke (ops:Array Oper):Bool:=(List.range ops.size).all λi=>match ops[i]?with
 |some o=>o.after.all λe=> !Region.binds .any e||Nat.blt e.on i
 |none=>true
theorem Oa (h:Ke ops=true) {i:Nat} {o:Oper} (hi:ops[i]?=some o):∀e∈o.after,Region.binds .any e=true->e.on<i:=by
 intro e he hb;have hlt:i<ops.size:=by
  rcases bI i ops.size with q|q
  ·exact q
  ·rw[gA q]at hi;cases hi
 have:=cQ.1 h i (cW.2 hlt);rw[hi]at this;have:=dA.1 this e he;rw[hb,iG,iH,gG]at this;exact this
theorem Tk (hlow:Ke ops=true) {U:List (Nat×Md)} (hU:∀y∈U,y.1<ops.size):∀k m,(k,m)∈U->∃x∈U,uP ops U x.1=true:=by
 intro k;induction k using Nat.strongRecOn with
 |_ k ih=>
  intro m hm;by_cases hr:uP ops U k=true
  ·exact⟨_,hm,hr⟩
  ·have hk:=hU _ hm;have ho:ops[k]?=some ops[k]:=Array.getElem?_eq_getElem hk;unfold uP at hr;rw[ho]at hr;simp only at hr;rw[dA]at hr;have:∃e∈ops[k].after,¬(!Region.binds .any e|| !(U.any λy=>Nat.beq y.1 e.on))=true:=by
    refine Classical.byContradiction λhc=>hr λe he=> ?_;exact Classical.byContradiction λhn=>hc ⟨e,he,hn⟩
   obtain⟨e,he,hn⟩:=this;rw[du,not_or]at hn;obtain⟨h1,h2⟩:=hn;have hb:Region.binds .any e=true:=by simpa using h1
   have h3:(U.any λy=>Nat.beq y.1 e.on)=true:=by simpa using h2
   obtain⟨y,hy,hyb⟩:=dG.1 h3;have hye:=cI hyb;obtain⟨y1,y2⟩:=y;simp only at hye;exact ih y1 (by rw[hye];exact Oa hlow ho e he hb) y2 hy
theorem Di {Q:Exit->Act->World->Prop} (hQ:∀a w,Kend a w->Q .normal a w) (hlow:Ke ops=true):
  ∀(n:Nat) (U:List (Nat×Md)) (listed:Array Bool) (a:Act) (w:World),listed.size=ops.size->(∀i,listed.getD i true=false↔∃m,(i,m)∈U)->(∀y∈U,y.1<ops.size)->IN P ops Kend n U a w->wpAny P .any ops Q n listed a w:=by
 intro n;induction n with
 |zero=>
  intro U listed a w _ hl _ h;obtain⟨rfl,h⟩:=h;refine⟨gL.2 λi hi=> ?_,hQ _ _ h⟩;obtain⟨m,hm⟩:=(hl i).1 (iq.1 hi).1;cases hm
 |succ n ih=>
  intro U listed a w hsz hl hU h;obtain⟨h1,h2⟩:=h;have hrd:∀i,listed.getD i true=false->(∀(o:Oper),ops[i]?=some o->∀e∈o.after,Region.binds .any e=true->listed.getD e.on false=true)->(∃o,ops[i]?=some o)->uP ops U i=true:=by
   rintro i _ hd ⟨o,ho⟩;unfold uP;rw[ho];simp only;rw[dA];intro e he;cases hb:Region.binds .any e with
   |false=>rfl
   |true=>
    rw[iG,iH,fQ,gz];intro y hy hyb;have hye:=cI hyb;have h3:=hd o ho e he hb;have h4:=(hl y.1).2 ⟨y.2,hy⟩;rw[hye]at h4;rcases bI e.on listed.size with q|q
    ·simp only[Array.getD,q,gj]at h3 h4;rw[h3]at h4;cases h4
    ·simp[Array.getD,gh.2 q]at h3
  refine⟨λhr=> ?_,λi hi=> ?_⟩
  ·refine hQ _ _ (h1 (gL.2 λx hx=> ?_));obtain⟨y,hy,hyr⟩:=Tk hlow hU x.1 x.2 hx;obtain⟨o,ho,hd⟩:=CK hyr;have:y.1∈Region.ready .any ops listed:=iq.2 ⟨(hl y.1).2 ⟨y.2,hy⟩,o,ho,λe he hb=>by
    have hne:=hd e he hb;have hlt:e.on<listed.size:=by
     have:=Oa hlow ho e he hb;have:=hU y hy;omega
    have h5:¬listed.getD e.on true=false:=λg=>by
     obtain⟨m,hm⟩:=(hl e.on).1 g;exact hne _ hm rfl
    simp only[Array.getD,hlt,gj]at h5⊢;simpa using h5⟩
   rw[hr]at this;cases this
  ·obtain⟨hun,oi,hoi,hdeps⟩:=iq.1 hi;obtain⟨m,hm⟩:=(hl i).1 hun;have hr:=hrd i hun (λo ho=>by rw[hoi]at ho;obtain rfl:=bN ho;exact hdeps) ⟨oi,hoi⟩;obtain⟨o,ho,hst⟩:=h2 (i,m) hm hr;have hilt:i<listed.size:=by rw[hsz];exact hU _ hm
   refine r8 ho (mN (λa w hh=> ?_) hst);refine ih (del U i) (listed.setIfInBounds i true) a w (by simpa using hsz) ?_ (λy hy=>hU y (qt.1 hy).1) hh;intro j;by_cases hji:j=i
   ·subst hji;constructor
    ·intro hf;simp[Array.getD,hilt]at hf
    ·rintro⟨m',hm'⟩;exact absurd rfl (qt.1 hm').2
   ·rw[iI true (jJ hji),hl j];constructor
    ·rintro⟨m',hm'⟩;exact⟨m',qt.2 ⟨hm',hji⟩⟩
    ·rintro⟨m',hm'⟩;exact⟨m',(qt.1 hm').1⟩
theorem O2 {m:Md} {o:Oper} {a:Act} {w:World} {K:Act->World->Prop} (h:md P ops m o a w K):∃a' w',K a' w':=by
 unfold md at h;split at h
 ·cases m with
  |pure=>obtain⟨v,_,h⟩:=h;exact⟨_,_,h⟩
  |read=>obtain⟨v,_,h⟩:=h;exact⟨_,_,h⟩
  |km=>obtain⟨v,w',h⟩:=zm h;exact⟨_,_,h.2⟩
  |free=>obtain⟨v,w',h⟩:=zm h;exact⟨_,_,h⟩
 ·exact⟨_,_,h⟩
inductive Bl (ops:Array Oper) (U:List (Nat×Md)) (i:Nat):Nat->Prop
 |one {y:Nat} {o:Oper} {e:Edge}:ops[y]?=some o->e∈o.after->Region.binds .any e=true->e.on=i->Bl ops U i y
 |far {y:Nat} {o:Oper} {e:Edge} {z:Nat×Md}:ops[y]?=some o->e∈o.after->Region.binds .any e=true->e.on=z.1->z∈U->Bl ops U i z.1->Bl ops U i y
theorem Bl.WM {i:Nat} {m:Md} {U:List (Nat×Md)} (hm:(i,m)∈U) {y:Nat} (h:Bl ops U i y):uP ops U y≠true:=by
 intro hr;obtain⟨o,ho,hd⟩:=CK hr;cases h with
 |one h1 h2 h3 h4=>
  rw[ho]at h1;obtain rfl:=bN h1;exact hd _ h2 h3 _ hm h4.symm
 |far h1 h2 h3 h4 h5 _=>
  rw[ho]at h1;obtain rfl:=bN h1;exact hd _ h2 h3 _ h5 h4.symm
theorem Bl.del {i:Nat} {m:Md} {U:List (Nat×Md)} (hm:(i,m)∈U) {x:Nat} (hx:uP ops U x=true) {y:Nat} (h:Bl ops U i y):Bl ops (del U x) i y:=by
 induction h with
 |one h1 h2 h3 h4=>exact .one h1 h2 h3 h4
 |far h1 h2 h3 h4 h5 h6 ih=>exact .far h1 h2 h3 h4 (qt.2 ⟨h5,λe=>h6.WM hm (by rw[e];exact hx)⟩) ih
def We (ops:Array Oper) (U:List (Nat×Md)) (i:Nat):Nat->Nat->Bool
 |0,_=>false
 |n+1,y=>match ops[y]?with
  |some o=>o.after.any λe=>Region.binds .any e&&(Nat.beq e.on i||((U.any λz=>Nat.beq z.1 e.on)&&We ops U i n e.on))
  |none=>false
theorem Mp {U:List (Nat×Md)} {i:Nat}:∀(n y:Nat),We ops U i n y=true->Bl ops U i y:=by
 intro n;induction n with
 |zero=>intro y h;cases h
 |succ n ih=>
  intro y h;unfold We at h;cases ho:ops[y]?with
  |none=>rw[ho]at h;cases h
  |some o=>
   rw[ho]at h;simp only at h;rw[im]at h;obtain⟨e,he,hq⟩:=h;rw[bl,du,bl]at hq;obtain⟨hb,q|⟨q,r⟩⟩:=hq
   ·exact .one ho he hb (cI q)
   ·obtain⟨z,hz,hzb⟩:=dG.1 q;have e2:=cI hzb;exact .far ho he hb e2.symm hz (by rw[e2];exact ih _ r)
def E6 (ops:Array Oper) (x:Nat×Md) (U:List (Nat×Md)):Bool:=
 uP ops U x.1&&(U.any λy=>Nat.beq y.1 x.1)&&U.all λy=>(Nat.beq y.1 x.1&&decide (y.2=x.2))||(!Nat.beq y.1 x.1&&(We ops U x.1 6 y.1||nJ ops x y))
theorem Cr (hs:vX ops) {i:Nat} {m:Md} {oi:Oper} (hi:ops[i]?=some oi):
  ∀(n:Nat) (U:List (Nat×Md)) (a:Act) (w:World),(i,m)∈U->uP ops U i=true->(∀y∈U,y.1=i->y.2=m)->
   (∀y∈U,y.1≠i->Bl ops U i y.1\/nJ ops (i,m) y=true)->
   md P ops m oi a w (IN P ops Kend n (del U i))->IN P ops Kend (n+1) U a w:=by
 intro n;induction n with
 |zero=>
  intro U a w hm hr hu hsw h;refine⟨λe=>(by rw[e]at hm;cases hm),λx hx hxr=> ?_⟩;by_cases hxi:x.1=i
  ·obtain⟨x1,x2⟩:=x;simp only at hxi;subst hxi;obtain rfl:=hu _ hx rfl;exact⟨oi,hi,h⟩
  ·exfalso;obtain⟨_,_,h3,_⟩:=O2 h;have:=qt.2 ⟨hx,hxi⟩;rw[h3]at this;cases this
 |succ n ih=>
  intro U a w hm hr hu hsw h;refine⟨λe=>(by rw[e]at hm;cases hm),λx hx hxr=> ?_⟩;by_cases hxi:x.1=i
  ·obtain⟨x1,x2⟩:=x;simp only at hxi;subst hxi;obtain rfl:=hu _ hx rfl;exact⟨oi,hi,h⟩
  ·obtain⟨ox,hox,hxd⟩:=CK hxr;have hsx:nJ ops (i,m) x=true:=by
    rcases hsw x hx hxi with q|q
    ·exact absurd hxr (q.WM hm)
    ·exact q
   refine⟨ox,hox,?_⟩;have h1:md P ops m oi a w (λa w=>md P ops x.2 ox a w (IN P ops Kend n (del (del U i) x.1))):=mN (λa w g=>by
    obtain⟨o,ho,g⟩:=g.2 x (qt.2 ⟨hx,hxi⟩) (Ib (λy hy=>(qt.1 hy).1) hxr);rw[hox]at ho;obtain rfl:=bN ho;exact g) h
   obtain⟨x1,x2⟩:=x;have h2:=Hu hi hox (λcs b=>hs i oi cs b hi) (λcs b=>hs x1 ox cs b hox) hsx h1;refine mN (λa w g=> ?_) h2;rw[Nw]at g;exact ih (del U x1) a w (qt.2 ⟨hm,jJ hxi⟩) (Ib (λy hy=>(qt.1 hy).1) hr) (λy hy=>hu y (qt.1 hy).1) (λy hy hne=>(hsw y (qt.1 hy).1 hne).imp (λq=>q.del hm hxr) id) g
end
structure Wz (P:Program) (ops:Array Oper) (Kend:Act->World->Prop) (n:Nat) (U:List (Nat×Md)) (N:Nat) (ρ:Nat->Value) (w:World):Prop where
 out:vX ops->IN P ops Kend n U (act N ρ) w
def vW (P:Program) (ops:Array Oper) (Kend:Act->World->Prop) (n:Nat) (U':List (Nat×Md)) (x:Nat×Md) (N:Nat) (ρ:Nat->Value) (w:World):Prop:=
 vX ops->∃o,ops[x.1]?=some o/\md P ops x.2 o (act N ρ) w (IN P ops Kend n U')
def NS (ops:Array Oper) (n:Nat) (U:List (Nat×Md)):Bool:=
 Nat.beq ops.size n&&decide (U.map (·.1)=List.range n)&&Ke ops&&ops.all λo=>match o.op with| .select .. =>false|_=>true
section
variable {P : Program} {N : Nat} {ρ : Nat → Value} {w0 w : World} {Q : Exit → Act → World → Prop} {ops : Array Oper} {H : List kU} {Kend : Act → World → Prop} {i n : Nat} {o : Oper} {U U' : List (Nat × Md)}
theorem C1 {id:Nat} {l:List Oper} (n:Nat) (U:List (Nat×Md)) (hm:P.follows .mixedOrders=true) (hchk:NS l.toArray n U=true) (hS:St w0 w H)
  (h:∀w',St w0 w' H->Below w.heap.size w w'->Wz P l.toArray (Q .normal) n U N ρ w'):(Code.region id l.toArray true).wp P Q (act N ρ) w:=by
 simp only[NS,bl,fP]at hchk;obtain⟨⟨⟨h1,h2⟩,h3⟩,h6⟩:=hchk;have hsz:=cI h1;have hs:vX l.toArray:=by
  intro i o cs b hi hsel;have:=dA.1 h6 o (gE hi);rw[hsel]at this;cases this
 have hbd:Below w.heap.size w {w with drawn:=w.drawn+1}:=(Below.refl _ w).drew;have hUm:∀i,(∃m,(i,m)∈U)↔i<n:=by
  intro i;rw[<-cW,<-h2,bX];constructor
  ·rintro⟨m,hm⟩;exact⟨_,hm,rfl⟩
  ·rintro⟨⟨a,m⟩,hm,rfl⟩;exact⟨m,hm⟩
 refine wp_region_any hm ?_;rw[hsz];refine Di (λ_ _ h=>h) h3 n U _ _ _ (by simp;simpa using hsz.symm) ?_ (λy hy=>by rw[hsz];exact(hUm y.1).1 ⟨y.2,hy⟩) ((h _ (hS.km hbd) hbd).out hs);intro i;rw[hUm];constructor
 ·intro hf;rcases bI i n with q|q
  ·exact q
  ·simp[Array.getD,gh.2 q]at hf
 ·intro q;simp[Array.getD,q]
theorem nk (h:Kend (act N ρ) w):Wz P ops Kend n [] N ρ w:=⟨λ_=>by
 cases n with
 |zero=>exact⟨rfl,h⟩
 |succ n=>exact⟨λ_=>h,λx hx=>by cases hx⟩⟩
theorem AP {x:Nat×Md} (h:E6 ops x U=true):x∈U/\uP ops U x.1=true/\(∀y∈U,y.1=x.1->y.2=x.2)/\
  ∀y∈U,y.1≠x.1->Bl ops U x.1 y.1\/nJ ops x y=true:=by
 simp only[E6,bl]at h;obtain⟨⟨h1,h2⟩,h3⟩:=h;have hu:∀y∈U,y.1=x.1->y.2=x.2:=λy hy e=>by
  have:=cQ.1 h3 y hy;rw[e]at this;simp at this;exact this
 refine⟨?_,h1,hu,λy hy hne=> ?_⟩
 ·obtain⟨y,hy,hb⟩:=dG.1 h2;have e:=cI hb;have e2:=hu y hy e;obtain⟨y1,y2⟩:=y;obtain⟨x1,x2⟩:=x;simp only at e e2;rw[<-e,<-e2];exact hy
 ·have:=cQ.1 h3 y hy;have hb:Nat.beq y.1 x.1=false:=by
   cases hb:Nat.beq y.1 x.1 with
   |false=>rfl
   |true=>exact absurd (cI hb) hne
  rw[hb,jf,iH,Bool.not_false,Bool.true_and,du]at this;rcases this with q|q
  ·exact .inl (Mp _ _ q)
  ·exact .inr q
theorem kQ {d:Option Tmp} {p:Op} {ty:TypeId} {pos:String} {aft:Array Edge} {g:Option (Nat×Bool)} (hf:E6 ops (i,.pure) U=true) (hd:del U i=U') (ho:ops[i]?=some ⟨d,p,ty,pos,aft,g⟩) (hg:gd ops N ρ g=true)
  (h:lX P N ρ ⟨d,p,ty,pos,aft,g⟩ λv=>Wz P ops Kend n U' N (sM ρ d v) w):Wz P ops Kend (n+1) U N ρ w:=by
 subst hd;obtain⟨f1,f2,f3,f4⟩:=AP hf;refine⟨λhs=>Cr hs ho n U _ _ f1 f2 f3 f4 ?_⟩;rw[nK (oD ops N ρ ⟨d,p,ty,pos,aft,g⟩ hg),ot];obtain⟨v,h1,h2⟩:=h;exact⟨v,h1,by rw[oX];exact h2.out hs⟩
theorem pL {d:Option Tmp} {p:Op} {ty:TypeId} {pos:String} {aft:Array Edge} {g:Option (Nat×Bool)} (hf:E6 ops (i,.read) U=true) (hd:del U i=U') (ho:ops[i]?=some ⟨d,p,ty,pos,aft,g⟩) (hg:gd ops N ρ g=true)
  (h:qN P N ρ w ⟨d,p,ty,pos,aft,g⟩ λv=>Wz P ops Kend n U' N (sM ρ d v) w):Wz P ops Kend (n+1) U N ρ w:=by
 subst hd;obtain⟨f1,f2,f3,f4⟩:=AP hf;refine⟨λhs=>Cr hs ho n U _ _ f1 f2 f3 f4 ?_⟩;rw[rS (oD ops N ρ ⟨d,p,ty,pos,aft,g⟩ hg),ot];obtain⟨v,h1,h2⟩:=h;exact⟨v,h1,by rw[oX];exact h2.out hs⟩
theorem kM {d:Option Tmp} {p:Op} {ty:TypeId} {pos:String} {aft:Array Edge} {g:Option (Nat×Bool)} (ho:ops[i]?=some ⟨d,p,ty,pos,aft,g⟩) (hg:gd ops N ρ g=true)
  (h:pd P N ρ w ⟨d,p,ty,pos,aft,g⟩ λv w'=>Below w.heap.size w w'/\Wz P ops Kend n U' N (sM ρ d v) w'):vW P ops Kend n U' (i,.km) N ρ w:=λhs=>by
 refine⟨_,ho,?_⟩;rw[qA (oD ops N ρ ⟨d,p,ty,pos,aft,g⟩ hg),ot];simp only[oX];exact oq (λv w h=>⟨h.1,h.2.out hs⟩) h.out
theorem lh {d:Option Tmp} {p:Op} {ty:TypeId} {pos:String} {aft:Array Edge} {g:Option (Nat×Bool)} (ho:ops[i]?=some ⟨d,p,ty,pos,aft,g⟩) (hg:gd ops N ρ g=true)
  (h:pd P N ρ w ⟨d,p,ty,pos,aft,g⟩ λv w'=>Wz P ops Kend n U' N (sM ρ d v) w'):vW P ops Kend n U' (i,.free) N ρ w:=λhs=>by
 refine⟨_,ho,?_⟩;rw[r4 (oD ops N ρ ⟨d,p,ty,pos,aft,g⟩ hg),ot];simp only[oX];exact oq (λv w h=>Wz.out h hs) h.out
theorem kV {x:Nat×Md} (hR:(U.filter λy=>uP ops U y.1)=[x]) (hd:del U x.1=U') (h:vW P ops Kend n U' x N ρ w):Wz P ops Kend (n+1) U N ρ w:=by
 subst hd;refine⟨λhs=>⟨λe=>(by rw[e]at hR;cases hR),λy hy hr=> ?_⟩⟩;have:y∈[x]:=by rw[<-hR];exact dV.2 ⟨hy,hr⟩
 obtain rfl:=aZ.1 this;exact h hs
theorem qK {x y:Nat×Md} {U'':List (Nat×Md)} (hR:(U.filter λy=>uP ops U y.1)=[x,y]) (hd:del U x.1=U') (hd':del U y.1=U'') (h:vW P ops Kend n U' x N ρ w) (h':vW P ops Kend n U'' y N ρ w):Wz P ops Kend (n+1) U N ρ w:=by
 subst hd hd';refine⟨λhs=>⟨λe=>(by rw[e]at hR;cases hR),λz hz hr=> ?_⟩⟩;have:z∈[x,y]:=by rw[<-hR];exact dV.2 ⟨hz,hr⟩
 rcases bJ.1 this with rfl|this
 ·exact h hs
 ·obtain rfl:=aZ.1 this;exact h' hs
theorem BC {x y z:Nat×Md} {U1 U2 U3:List (Nat×Md)} (hR:(U.filter λy=>uP ops U y.1)=[x,y,z]) (hd1:del U x.1=U1) (hd2:del U y.1=U2) (hd3:del U z.1=U3)
  (h1:vW P ops Kend n U1 x N ρ w) (h2:vW P ops Kend n U2 y N ρ w) (h3:vW P ops Kend n U3 z N ρ w):Wz P ops Kend (n+1) U N ρ w:=by
 subst hd1 hd2 hd3;refine⟨λhs=>⟨λe=>(by rw[e]at hR;cases hR),λt ht hr=> ?_⟩⟩;have:t∈[x,y,z]:=by rw[<-hR];exact dV.2 ⟨ht,hr⟩
 rcases bJ.1 this with rfl|this
 ·exact h1 hs
 ·rcases bJ.1 this with rfl|this
  ·exact h2 hs
  ·obtain rfl:=aZ.1 this;exact h3 hs
end
def Gq {α:Type} (enc:α->List Value) (e:TypeId) (size:Nat) (v:Value) (X:List α) (L:List kU):Prop:=
 (X=[]/\∃a cap,v= .slice a 0 cap)\/
 ∃b cap pre sp,v= .slice (some ⟨b,pre.length,none⟩) X.length cap/\L=[(b,e,pre++(X.flatMap enc++sp))]/\X.length<=cap/\cap<=Go.maxLen/\sp.length=(cap-X.length)*size
section
variable {α : Type} {enc : α → List Value} {e : TypeId} {size : Nat} {w0 w : World} {H L : List kU} {X : List α} {v : Value}
theorem Gq.sl (h:Gq enc e size v X L) (hS:St w0 w (H++L)) (hu:∀x,(enc x).length=size) (hne:X≠ []):Sl enc size w v X:=by
 obtain⟨rfl,_⟩|⟨b,cap,pre,sp,rfl,rfl,h1,h2,h3⟩:=h
 ·exact absurd rfl hne
 have hh:=(hS.perm aF).get (k:=0) (b:=b) (t:=e) (cs:=pre++(X.flatMap enc++sp)) rfl;refine⟨⟨some ⟨b,pre.length,none⟩,cap,rfl,h1,h2,λh=>by cases h⟩,λi hi j u hj=> ?_⟩;have hj':j<size:=by
  have:=(dN.1 hj).1;rwa[hu]at this
 rw[show tB (.slice (some ⟨b,pre.length,none⟩) X.length cap)=⟨b,pre.length,none⟩from rfl,add_lit,add_lit,cell_of_row w b _ _ e _ hh];have hlt:i*size+j<(X.flatMap enc).length:=by
  rw[lS hu];have:(i+1)*size<=X.length*size:=aO _ hi;rw[bA]at this;omega
 rw[iZ,dU,cZ (Nat.le_add_right _ _),fC,dq hlt,flat_get hu X i j hi hj'];exact hj
end
section
variable {P : Program} {N : Nat} {ρ : Nat → Value} {w0 w w' : World} {d : Option Tmp} {ty : TypeId} {pos : String} {aft : Array Edge} {g : Option (Nat × Bool)} {x y z : Operand} {t t' e : TypeId} {H L : List kU} {b : Nat} {cs : List Value} {v : Value} {K2 : Value → World → Prop} {K : Value → Prop}
end
abbrev Mx:=Nat->Nat->Rat
def kg (f:Nat->Rat):Nat->Rat
 |0=>0
 |n+1=>kg f n+f n
theorem kp {f g:Nat->Rat}:∀ {n:Nat},(∀i,i<n->f i=g i)->kg f n=kg g n
 |0,_=>rfl
 |n+1,h=>by
  show kg f n+f n=kg g n+g n;rw[kp λi hi=>h i oO,h n oO]
theorem lr {f:Nat->Rat}:∀ {n:Nat},(∀i,i<n->f i=0)->kg f n=0
 |0,_=>rfl
 |n+1,h=>by
  show kg f n+f n=0;rw[lr λi hi=>h i oO,h n oO];exact iN 0
theorem mV (f g:Nat->Rat) (t:Rat):∀n,kg (λi=>f i+t*g i) n=kg f n+t*kg g n
 |0=>by show(0:Rat)=0+t*0;grind
 |n+1=>by
  show kg (λi=>f i+t*g i) n+(f n+t*g n)=kg f n+f n+t*(kg g n+g n);rw[mV f g t n];grind
theorem nz {f:Nat->Rat} {p:Nat}:∀ {n:Nat},p<n->(∀i,i<n->i≠p->f i=0)->kg f n=f p
 |n+1,hp,h=>by
  show kg f n+f n=f p;by_cases e:p=n
  ·subst e;rw[lr λi hi=>h i oO oO];exact iN _
  ·rw[nz oO λi hi=>h i oO,h n oO oO];exact g8 _
theorem GW {f:Nat->Rat} {p:Nat}:∀ {n:Nat},p+1<n->(∀i,i<n->i≠p->i≠p+1->f i=0)->kg f n=f p+f (p+1)
 |n+1,hp,h=>by
  show kg f n+f n=_;by_cases e:p+1=n
  ·subst e;show kg f p+f p+f (p+1)=_;rw[lr λi hi=>h i oO oO oO,iN]
  ·rw[GW oO λi hi=>h i oO,h n oO oO oO];exact g8 _
def yw (A:Mx) (i:Nat):Mx:=λr c=>A (if r<i then r else r+1) (c+1)
def F9 (i:Nat):Rat:=if i%2=0 then 1 else-1
theorem ML (i:Nat):F9 (i+1)= -F9 i:=by
 unfold F9;by_cases h:i%2=0
 ·rw[ah oO,aj h]
 ·rw[aj oO,ah h];rfl
def qR:Nat->Mx->Rat
 |0,_=>1
 |n+1,A=>kg (λi=>F9 i*A i 0*qR n (yw A i)) (n+1)
theorem sG (n:Nat) (A:Mx):qR (n+1) A=kg (λi=>F9 i*A i 0*qR n (yw A i)) (n+1):=rfl
theorem nV:∀ {n:Nat} {A B:Mx},(∀i,i<n->∀j,j<n->A i j=B i j)->qR n A=qR n B
 |0,_,_,_=>rfl
 |n+1,A,B,h=>by
  rw[sG,sG];refine kp λi hi=> ?_;rw[h i hi 0 oO];rw[nV (A:=yw A i) (B:=yw B i) λr hr c hc=>h _ (by split<;>omega) _ oO]
theorem ET:∀ {n:Nat} {A:Mx},(∀i,i<n->∀j,j<n->∃z:Int,A i j=z)->∃z:Int,qR n A=z
 |0,_,_=>⟨1,rfl⟩
 |n+1,A,h=>by
  have key:∀k,k<=n+1->∃z:Int,kg (λi=>F9 i*A i 0*qR n (yw A i)) k=z:=by
   intro k;induction k with
   |zero=>exact λ_=>⟨0,rfl⟩
   |succ k ih=>
    intro hk;obtain⟨z,hz⟩:=ih oO;obtain⟨a,ha⟩:=h k oO 0 oO;obtain⟨d,hd⟩:=ET (A:=yw A k) (n:=n) λr hr c hc=>h _ (by split<;>omega) _ oO;show∃y:Int,kg (λi=>F9 i*A i 0*qR n (yw A i)) k+F9 k*A k 0*qR n (yw A k)=y;rw[hz,ha,hd];unfold F9;by_cases e:k%2=0
    ·rw[aj e];exact⟨z+a*d,by rw[dY,Rat.intCast_add,eG]⟩
    ·rw[ah e];exact⟨z-a*d,by rw[jZ,eG];grind⟩
  exact key (n+1) (aH _)
theorem QM {i p:Nat} (h:p≠i):∃p',(∀r,(if r<i then r else r+1)=p↔r=p')/\(∀n,p<n+1->i<n+1->p'<n)/\p'=if p<i then p else p-1:=by
 refine⟨if p<i then p else p-1,λr=> ?_,λn hp hi=> ?_,rfl⟩
 ·split<;>split<;>omega
 ·split<;>omega
theorem yy:∀ {n:Nat} {A B C:Mx} {p:Nat} {t:Rat},p<n->(∀j,C p j=A p j+t*B p j)->(∀i,i≠p->∀j,B i j=A i j/\C i j=A i j)->qR n C=qR n A+t*qR n B
 |n+1,A,B,C,p,t,hp,h1,h2=>by
  rw[sG,sG,sG,<-mV];refine kp λi hi=> ?_;by_cases e:i=p
  ·subst e;have e1:yw B i=yw A i:=by funext r c;exact(h2 _ (by split<;>omega) _).1
   have e2:yw C i=yw A i:=by funext r c;exact(h2 _ (by split<;>omega) _).2
   rw[h1,e1,e2];grind
  ·obtain⟨p',hp',hlt,_⟩:=QM (i:=i) (p:=p) (λg=>e g.symm);rw[(h2 i e 0).1,(h2 i e 0).2];rw[yy (A:=yw A i) (B:=yw B i) (C:=yw C i) (p:=p') (t:=t) (hlt n hp hi) ?_ ?_]
   ·grind
   ·intro j;have:=(hp' p').2 rfl;unfold yw;rw[this];exact h1 _
   ·intro r hr j;exact h2 _ (λg=>hr ((hp' r).1 g)) _
theorem Bo:∀ {n:Nat} {A:Mx} {p:Nat},p+1<n->(∀j,A p j=A (p+1) j)->qR n A=0
 |n+1,A,p,hp,h=>by
  rw[sG,GW hp ?_]
  ·have e:yw A (p+1)=yw A p:=by
    funext r c;unfold yw;by_cases h1:r<p
    ·rw[aj oO,aj h1]
    ·by_cases h3:r=p
     ·subst h3;rw[aj oO,ah oO];exact h _
     ·rw[ah oO,ah h1]
   rw[e,ML,h 0];grind
  ·intro i hi h1 h2;have e:qR n (yw A i)=0:=by
    by_cases g:i<p
    ·refine Bo (p:=p-1) oO λj=> ?_;unfold yw;rw[ah oO,ah oO];have:p-1+1=p:=oO;rw[this];exact h _
    ·refine Bo (p:=p) oO λj=> ?_;unfold yw;rw[aj oO,aj oO];exact h _
   rw[e,dR]
def ql (A:Mx) (p:Nat) (x:Nat->Rat):Mx:=λi j=>if i=p then x j else A i j
theorem lW (A:Mx) (p:Nat) (x:Nat->Rat) (j:Nat):ql A p x p j=x j:=aj rfl
theorem nv (A:Mx) {p i:Nat} (x:Nat->Rat) (h:i≠p) (j:Nat):ql A p x i j=A i j:=ah h
def ou (A:Mx) (p q:Nat):Mx:=λi j=>if i=p then A q j else if i=q then A p j else A i j
theorem KX {n:Nat} {p q:Nat} (hp:p<n) (hq:q<n) (hpq:p≠q) (alt:∀A:Mx,(∀j,A p j=A q j)->qR n A=0) (A:Mx):qR n (ou A p q)= -qR n A:=by
 have D:=λ(x y:Nat->Rat)=>ql (ql A p x) q y;have hl:∀x x' y,qR n (ql (ql A p λj=>x j+1*x' j) q y)=qR n (ql (ql A p x) q y)+1*qR n (ql (ql A p x') q y):=by
  intro x x' y;refine yy hp (λj=> ?_) λi hi j=> ?_
  ·rw[nv _ _ hpq,nv _ _ hpq,nv _ _ hpq,lW,lW,lW]
  ·by_cases g:i=q
   ·subst g;simp only[lW,and_self]
   ·simp only[nv _ _ g,nv _ _ hi,and_self]
 have hr:∀x y y',qR n (ql (ql A p x) q λj=>y j+1*y' j)=qR n (ql (ql A p x) q y)+1*qR n (ql (ql A p x) q y'):=by
  intro x y y';refine yy hq (λj=> ?_) λi hi j=> ?_
  ·rw[lW,lW,lW]
  ·simp only[nv _ _ hi,and_self]
 have ha:∀x,qR n (ql (ql A p x) q x)=0:=λx=>alt _ λj=>by rw[nv _ _ hpq,lW,lW]
 have h0:=ha λj=>A p j+1*A q j;rw[hl,hr,hr,ha,ha]at h0;have e1:qR n (ql (ql A p (A p)) q (A q))=qR n A:=nV λi _ j _=>by
  by_cases g:i=q
  ·subst g;rw[lW]
  ·rw[nv _ _ g];by_cases g':i=p
   ·subst g';rw[lW]
   ·rw[nv _ _ g']
 have e2:qR n (ql (ql A p (A q)) q (A p))=qR n (ou A p q):=nV λi _ j _=>by
  unfold ou;by_cases g:i=q
  ·subst g;rw[lW,ah (λe=>hpq e.symm),aj rfl]
  ·rw[nv _ _ g];by_cases g':i=p
   ·subst g';rw[lW,aj rfl]
   ·rw[nv _ _ g',ah g',ah g]
 rw[<-e1,<-e2];grind
theorem Cj {n p:Nat}:∀(d:Nat) {q:Nat} {A:Mx},q=p+1+d->q<n->(∀j,A p j=A q j)->qR n A=0
 |0,q,A,hq,hn,h=>Bo (p:=p) oO λj=>by rw[h j,hq]
 |d+1,q,A,hq,hn,h=>by
  have e:=KX (n:=n) (p:=q-1) (q:=q) oO hn oO (λB hB=>Bo (p:=q-1) oO λj=>by
   have:q-1+1=q:=oO;rw[this];exact hB j) A
  have e0:qR n (ou A (q-1) q)=0:=Cj (p:=p) d (q:=q-1) oO oO λj=>by
   show(if p=q-1 then A q j else if p=q then A (q-1) j else A p j)=(if q-1=q-1 then A q j else _);rw[ah oO,ah oO,aj rfl];exact h j
  rw[e0]at e;grind
theorem Kq {n p q:Nat} (hp:p<n) (hq:q<n) (hpq:p≠q) {A:Mx} (h:∀j,A p j=A q j):qR n A=0:=by
 rcases Nat.lt_or_gt_of_ne hpq with g|g
 ·exact Cj (q-p-1) (p:=p) oO hq h
 ·exact Cj (p-q-1) (p:=q) (q:=p) oO hp λj=>(h j).symm
theorem On {n p q:Nat} (hp:p<n) (hq:q<n) (hpq:p≠q) (A:Mx):qR n (ou A p q)= -qR n A:=KX hp hq hpq (λ_ h=>Kq hp hq hpq h) A
theorem JO {n p q:Nat} (hp:p<n) (hq:q<n) (hpq:p≠q) (A:Mx) (t:Rat):qR n (ql A p λj=>A p j+t*A q j)=qR n A:=by
 rw[yy (A:=A) (B:=ql A p (A q)) (p:=p) (t:=t) hp (λj=>by rw[lW,lW]) λi hi j=>⟨nv _ _ hi _,nv _ _ hi _⟩];rw[Kq hp hq hpq (A:=ql A p (A q)) λj=>by rw[lW,nv _ _ λe=>hpq e.symm]];grind
theorem DS {n p:Nat} (hp:p<n) (A:Mx) (t:Rat):qR n (ql A p λj=>t*A p j)=t*qR n A:=by
 rw[yy (A:=A) (B:=A) (p:=p) (t:=t-1) hp (λj=>by rw[lW];grind) λi hi j=>⟨rfl,nv _ _ hi _⟩];grind
theorem Ce {n p:Nat} (hp:p<n) {A:Mx} (h:∀j,j<n->A p j=0):qR n A=0:=by
 have e:=DS hp A 0;rw[dh]at e;rw[<-e];exact nV λi _ j hj=>by
  by_cases g:i=p
  ·subst g;rw[lW,h j hj,dh]
  ·rw[nv _ _ g]
theorem D8 {n:Nat} {A:Mx} (h:∀i,0<i->i<n+1->A i 0=0):qR (n+1) A=A 0 0*qR n (yw A 0):=by
 rw[sG,nz (p:=0) oO λi hi h0=>by rw[h i oO hi,dR,dh]];show(1:Rat)*A 0 0*_=_;rw[dY]
def Im (i j:Nat):Rat:=if i=j then 1 else 0
theorem B7 (r c:Nat):Im (r+1) (c+1)=Im r c:=by
 unfold Im;by_cases g:r=c
 ·rw[aj oO,aj g]
 ·rw[ah oO,ah g]
theorem xd (r:Nat):Im r r=1:=aj rfl
theorem sT {r c:Nat} (h:r≠c):Im r c=0:=ah h
theorem Cy (A:Mx) (r c:Nat):yw A 0 r c=A (r+1) (c+1):=by
 unfold yw;rw[ah oO]
theorem F6:∀n,qR n Im=1
 |0=>rfl
 |n+1=>by
  rw[D8 λi h0 _=>ah oO];have e:yw Im 0=Im:=by
   funext r c;rw[Cy,B7]
  rw[e,F6 n,xd];exact dY 1
def yh (i:Nat) (v:Nat->Rat):Mx:=λr c=>if c=i then v r else Im r c
theorem B6:∀ {n i:Nat} (v:Nat->Rat),i<n->qR n (yh i v)=v i
 |n+1,0,v,_=>by
  rw[sG,nz (p:=0) oO]
  ·have e:yw (yh 0 v) 0=Im:=by
    funext r c;rw[Cy];unfold yh;rw[ah oO,B7]
   rw[e,F6];show(1:Rat)*v 0*1=v 0;grind
  ·intro i hi h0;rw[Ce (n:=n) (p:=0) (A:=yw (yh 0 v) i) oO λj _=> ?_,dR];unfold yw yh;rw[ah oO,aj oO,sT oO]
 |n+1,i+1,v,hi=>by
  rw[D8 λr h0 _=>by unfold yh;rw[ah oO,sT oO]];have e:yw (yh (i+1) v) 0=yh i λr=>v (r+1):=by
   funext r c;rw[Cy];unfold yh;by_cases g:c=i
   ·rw[aj oO,aj g]
   ·rw[ah oO,ah g,B7]
  have e0:yh (i+1) v 0 0=1:=by
   unfold yh;rw[ah oO,xd]
  rw[e,B6 _ oO,e0,dY]
def elim (A:Mx) (r:Nat) (a:Rat) (f:Nat->Rat):Mx:=λi j=>if i=r then A r j/a else A i j-f i*(A r j/a)
theorem HT {n r:Nat} (hr:r<n) (A:Mx) {a:Rat} (ha:a≠0) (f:Nat->Rat):qR n A=a*qR n (elim A r a f):=by
 have e1:qR n (ql A r λj=>a⁻¹ *A r j)=a⁻¹ *qR n A:=DS hr A _;have key:∀t,t<=n->qR n (λi j=>if i<t/\i≠r then A i j-f i*(a⁻¹ *A r j)else ql A r (λj=>a⁻¹ *A r j) i j)=a⁻¹ *qR n A:=by
  intro t;induction t with
  |zero=>
   intro _;rw[<-e1];exact nV λi _ j _=>ah oO
  |succ t ih=>
   intro ht;rw[<-ih oO];by_cases g:t=r
   ·refine nV λi _ j _=> ?_;by_cases h:i<t
    ·rw[aj ⟨oO,oO⟩,aj ⟨h,oO⟩]
    ·rw[ah oO,ah oO]
   ·have:=JO (n:=n) (p:=t) (q:=r) oO hr g (λi j=>if i<t/\i≠r then A i j-f i*(a⁻¹ *A r j)else ql A r (λj=>a⁻¹ *A r j) i j) (-f t);rw[<-this];refine nV λi _ j _=> ?_;by_cases h:i=t
    ·subst h;rw[lW,aj ⟨oO,g⟩,ah oO,ah (λe=>e.2 rfl),nv _ _ g,lW];grind
    ·rw[nv _ _ h];by_cases h':i<t/\i≠r
     ·rw[aj ⟨oO,h'.2⟩,aj h']
     ·rw[ah oO,ah h']
 have e2:qR n (elim A r a f)=a⁻¹ *qR n A:=by
  rw[<-key n (aH _)];refine nV λi hi j _=> ?_;unfold elim;rw[bT,gu];by_cases g:i=r
  ·subst g;rw[aj rfl,ah (λe=>e.2 rfl),lW]
  ·rw[ah g,aj ⟨hi,g⟩]
 rw[e2,<-gN,bY _ ha,dY]
def Ng (A:Mx) (c:Nat):Nat->Nat->Nat
 |0,i=>i
 |k+1,i=>if A i c=0 then Ng A c k (i+1)else i
def pv (A:Mx) (c n r:Nat):Nat:=Ng A c (n-r) r
theorem Ia (A:Mx) (c:Nat):∀k i,i<=Ng A c k i/\Ng A c k i<=i+k/\(∀l,i<=l->l<Ng A c k i->A l c=0)/\(Ng A c k i<i+k->A (Ng A c k i) c≠0)
 |0,i=>⟨aH _,aH _,λl h1 h2=>absurd (ct h1 h2) (dH _),λh=>absurd h (dH _)⟩
 |k+1,i=>by
  unfold Ng;by_cases h:A i c=0
  ·rw[aj h];obtain⟨h1,h2,h3,h4⟩:=Ia A c k (i+1);refine⟨oO,oO,λl g1 g2=> ?_,λg=>h4 oO⟩;by_cases e:l=i
   ·rw[e];exact h
   ·exact h3 l oO g2
  ·rw[ah h];exact⟨aH _,oO,λl g1 g2=>absurd (ct g1 g2) (dH _),λ_=>h⟩
theorem po (A:Mx) (c:Nat) {n r:Nat} (h:r<=n):r<=pv A c n r/\pv A c n r<=n/\(∀l,r<=l->l<pv A c n r->A l c=0)/\(pv A c n r<n->A (pv A c n r) c≠0):=by
 obtain⟨h1,h2,h3,h4⟩:=Ia A c (n-r) r;exact⟨h1,by unfold pv;omega,h3,λg=>h4 (by unfold pv at g;omega)⟩
theorem FI {A:Mx} {c n r p:Nat} (h:r<=p) (hp:p<=n) (hz:∀l,r<=l->l<p->A l c=0) (hn:p<n->A p c≠0):pv A c n r=p:=by
 obtain⟨h1,h2,h3,h4⟩:=po A c (n:=n) (r:=r) oO;rcases Nat.lt_trichotomy (pv A c n r) p with g|g|g
 ·exact absurd (hz _ h1 g) (h4 oO)
 ·exact g
 ·exact absurd (h3 _ h g) (hn oO)
theorem PH {A B:Mx} {c n r:Nat} (hr:r<=n) (h:∀i,r<=i->i<n->(A i c=0↔B i c=0)):pv A c n r=pv B c n r:=by
 obtain⟨h1,h2,h3,h4⟩:=po B c (n:=n) (r:=r) hr;exact FI h1 h2 (λl g1 g2=>(h l g1 oO).2 (h3 l g1 g2)) λg e=>h4 g ((h _ h1 g).1 e)
structure Rd where
 M:Mx
 P:List Nat
 d:Rat
def sH (n c:Nat) (s:Rd):Rd:=
 if pv s.M c n s.P.length<n then
  ⟨elim (ou s.M s.P.length (pv s.M c n s.P.length)) s.P.length (s.M (pv s.M c n s.P.length) c) λi=>ou s.M s.P.length (pv s.M c n s.P.length) i c,s.P++[c],
   (if pv s.M c n s.P.length=s.P.length then s.d else-s.d)*s.M (pv s.M c n s.P.length) c⟩
 else s
def lD (n:Nat) (A:Mx):Nat->Rd
 |0=>⟨A,[],1⟩
 |c+1=>sH n c (lD n A c)
theorem pO (A:Mx) (p q j:Nat):ou A p q p j=A q j:=aj rfl
theorem sE (A:Mx) (p q j:Nat):ou A p q q j=A p j:=by
 unfold ou;by_cases h:q=p
 ·rw[aj h,h]
 ·rw[ah h,aj rfl]
theorem tX (A:Mx) {p q i:Nat} (h1:i≠p) (h2:i≠q) (j:Nat):ou A p q i j=A i j:=by unfold ou;rw[ah h1,ah h2]
theorem DO (A:Mx) (p:Nat):ou A p p=A:=by
 funext i j;unfold ou;by_cases h:i=p
 ·rw[aj h,h]
 ·rw[ah h,ah h]
theorem tq (A:Mx) (r:Nat) (a:Rat) (f:Nat->Rat) (j:Nat):elim A r a f r j=A r j/a:=aj rfl
theorem qX (A:Mx) {r i:Nat} {a:Rat} {f:Nat->Rat} (h:i≠r) (j:Nat):elim A r a f i j=A i j-f i*(A r j/a):=ah h
structure Mb (n c:Nat) (s:Rd):Prop where
 len:s.P.length<=n
 inc:s.P.Pairwise (· < ·)
 lt:∀p∈s.P,p<c
 unit:∀l,l<s.P.length->∀i,i<n->s.M i (s.P.getD l 0)=Im i l
 low:∀i,s.P.length<=i->i<n->∀j,j<c->s.M i j=0
theorem PB {l:List Nat} {x d i:Nat}:(l++[x]).getD i d=if i<l.length then l.getD i d else if i=l.length then x else d:=by
 by_cases h:i<l.length
 ·rw[aj h,ap,dq h,ap]
 ·rw[ah h,ap,cZ oO];by_cases e:i=l.length
  ·rw[aj e,e,ec];rfl
  ·rw[ah e,dk (by simp;omega)];rfl
theorem o7 {l:List Nat} {i:Nat} (h:i<l.length):l.getD i 0∈l:=by
 rw[ap,aJ h];exact jT h
theorem rinv (n:Nat) (A:Mx):∀c,Mb n c (lD n A c)
 |0=>⟨aB _,List.Pairwise.nil,λ_ h=>(by cases h),λl h=>absurd h (aW _),λ_ _ _ j hj=>absurd hj (aW _)⟩
 |c+1=>by
  have I:=rinv n A c;show Mb n (c+1) (sH n c (lD n A c));generalize lD n A c=s at I;obtain⟨hp1,hp2,hp3,hp4⟩:=po s.M c I.len;unfold sH;by_cases h:pv s.M c n s.P.length<n
  ·rw[aj h];generalize pv s.M c n s.P.length=p at*;have ha:=hp4 h;generalize hr:s.P.length=r at*;have hS:∀i,i<n->∀l,l<r->ou s.M r p i (s.P.getD l 0)=Im i l:=by
    intro i hi l hl;by_cases e1:i=r
    ·rw[e1,pO,I.unit l oO p h,sT oO,sT oO]
    ·by_cases e2:i=p
     ·rw[e2,sE,I.unit l oO r oO,sT oO,sT oO]
     ·rw[tX _ e1 e2,I.unit l oO i hi]
   refine⟨by simp only[aG,eO];omega,?_,?_,?_,?_⟩
   ·exact List.pairwise_append.2 ⟨I.inc,List.pairwise_singleton _ _,λa ha b hb=>by rw[aZ.1 hb];exact I.lt a ha⟩
   ·intro q hq;rcases bO.1 hq with g|g
    ·have:=I.lt q g;omega
    ·rw[aZ.1 g];omega
   ·intro l hl i hi;simp only[aG,eO,hr]at hl;dsimp only;rw[PB,hr];by_cases g:l<r
    ·rw[aj g];by_cases e:i=r
     ·rw[e,tq,hS r oO l g,sT oO,bT,dh]
     ·rw[qX _ e,hS i hi l g,hS r oO l g,sT (r:=r) oO,bT];grind
    ·rw[ah g,aj oO];obtain rfl:l=r:=oO;by_cases e:i=l
     ·rw[e,tq,pO,xd,bT,bY _ ha]
     ·rw[qX _ e,pO,bT,bY _ ha,sT e];grind
   ·intro i hi1 hi j hj;simp only[aG,eO,hr]at hi1;dsimp only;rw[qX _ oO,pO];by_cases g:j=c
    ·subst g;rw[bT,bY _ ha];grind
    ·have e1:s.M p j=0:=I.low p oO h j oO;have e2:ou s.M r p i j=0:=by
      by_cases e2:i=p
      ·rw[e2,sE];exact I.low r oO oO j oO
      ·rw[tX _ oO e2];exact I.low i oO hi j oO
     rw[e1,e2,bT];grind
  ·rw[ah h];refine⟨I.len,I.inc,λq hq=>by have:=I.lt q hq;omega,I.unit,λi hi1 hi j hj=> ?_⟩;by_cases g:j=c
   ·subst g;exact hp3 i hi1 oO
   ·exact I.low i hi1 hi j oO
theorem ya (n:Nat) (A:Mx) (c:Nat):∀k,(lD n A c).P.length<=(lD n A (c+k)).P.length/\(lD n A (c+k)).P.length<=(lD n A c).P.length+k
 |0=>⟨aH _,aH _⟩
 |k+1=>by
  obtain⟨h1,h2⟩:=ya n A c k;show _<=(sH n (c+k) (lD n A (c+k))).P.length/\(sH n (c+k) (lD n A (c+k))).P.length<=_;generalize lD n A (c+k)=s at*;unfold sH;split
  ·simp only[aG,eO];omega
  ·omega
theorem yZ (n:Nat) (A:Mx) (c:Nat):(lD n A c).P.length<=c:=by
 have:=(ya n A 0 c).2;rw[bZ]at this;exact dx this (by show [].length+c<=c;simp)
theorem B5 {n:Nat} {A:Mx} {c:Nat} (h:n<=(lD n A c).P.length):∀k,lD n A (c+k)=lD n A c
 |0=>rfl
 |k+1=>by
  show sH n (c+k) (lD n A (c+k))=_;rw[B5 h k];unfold sH;rw[ah];have:=(po (lD n A c).M (c+k) (rinv n A c).len).1;omega
def mM (A:Mx) (x:Nat->Rat) (m i:Nat):Rat:=kg (λj=>A i j*x j) m
def HO (n m:Nat) (A:Mx) (x:Nat->Rat):Prop:=∀i,i<n->mM A x m i=0
theorem qm (f:Nat->Rat) (t:Rat) (n:Nat):kg (λi=>t*f i) n=t*kg f n:=by
 have:=mV (λ_=>0) f t n;rw[lr (f:=λ_=>0) λ_ _=>rfl,iN]at this;rw[<-this];exact kp λi _=>(iN _).symm
theorem A8 (A:Mx) (x:Nat->Rat) (m p q i:Nat):mM (ou A p q) x m i=if i=p then mM A x m q else if i=q then mM A x m p else mM A x m i:=by
 unfold mM;by_cases h1:i=p
 ·rw[aj h1,h1];exact kp λj _=>by rw[pO]
 ·rw[ah h1];by_cases h2:i=q
  ·rw[aj h2,h2];exact kp λj _=>by rw[sE]
  ·rw[ah h2];exact kp λj _=>by rw[tX _ h1 h2]
theorem QJ {n m p q:Nat} (hp:p<n) (hq:q<n) (A:Mx) (x:Nat->Rat):HO n m (ou A p q) x↔HO n m A x:=by
 constructor
 ·intro h i hi;by_cases h1:i=p
  ·have:=h q hq;rw[A8]at this;by_cases h2:q=p
   ·rw[aj h2]at this;rw[h1,<-h2];exact this
   ·rw[ah h2,aj rfl]at this;rw[h1];exact this
  ·by_cases h2:i=q
   ·have:=h p hp;rw[A8,aj rfl]at this;rw[h2];exact this
   ·have:=h i hi;rw[A8,ah h1,ah h2]at this;exact this
 ·intro h i hi;rw[A8];split
  ·exact h q hq
  ·split
   ·exact h p hp
   ·exact h i hi
theorem Ct (A:Mx) (x:Nat->Rat) (m r i:Nat) (a:Rat) (f:Nat->Rat):mM (elim A r a f) x m i=if i=r then a⁻¹ *mM A x m r else mM A x m i+(-(f i*a⁻¹))*mM A x m r:=by
 unfold mM;by_cases h:i=r
 ·rw[aj h,h,<-qm];refine kp λj _=> ?_;unfold elim;rw[aj rfl,bT];grind
 ·rw[ah h,<-mV];refine kp λj _=> ?_;unfold elim;rw[ah h,bT];grind
theorem NV {n m r:Nat} (hr:r<n) (A:Mx) (x:Nat->Rat) {a:Rat} (ha:a≠0) (f:Nat->Rat):HO n m (elim A r a f) x↔HO n m A x:=by
 constructor
 ·intro h;have h0:mM A x m r=0:=by
   have:=h r hr;rw[Ct,aj rfl]at this;rcases eW.1 this with g|g
   ·exact absurd (by have:=bY a ha;rw[g,dR]at this;exact absurd this dD) ha
   ·exact g
  intro i hi;by_cases e:i=r
  ·rw[e];exact h0
  ·have:=h i hi;rw[Ct,ah e,h0,dR,g8]at this;exact this
 ·intro h i hi;rw[Ct,h r hr,h i hi];split<;>grind
theorem A7 (n m:Nat) (A:Mx) (x:Nat->Rat):∀c,HO n m (lD n A c).M x↔HO n m A x
 |0=>Iff.rfl
 |c+1=>by
  rw[<-A7 n m A x c];show HO n m (sH n c (lD n A c)).M x↔_;have hl:=(rinv n A c).len;generalize lD n A c=s at*;obtain⟨h1,h2,h3,h4⟩:=po s.M c hl;unfold sH;split
  ·next h=>rw[NV oO _ _ (h4 h),QJ oO h]
  ·exact Iff.rfl
theorem Lv (n:Nat) (A:Mx):∀c,qR n A=(lD n A c).d*qR n (lD n A c).M
 |0=>(dY _).symm
 |c+1=>by
  rw[Lv n A c];show _=(sH n c (lD n A c)).d*qR n (sH n c (lD n A c)).M;have hl:=(rinv n A c).len;generalize lD n A c=s at*;obtain⟨h1,h2,h3,h4⟩:=po s.M c hl;unfold sH;split
  ·next h=>
   show _=((if pv s.M c n s.P.length=s.P.length then s.d else-s.d)*s.M (pv s.M c n s.P.length) c)*qR n (elim _ _ _ _);rw[gN,<-HT oO _ (h4 h)];split
   ·next e=>rw[e,DO]
   ·next e=>rw[On oO h (λg=>e g.symm)];grind
  ·rfl
theorem ED:∀ {P:List Nat} {a n:Nat},P.Pairwise (· < ·)->(∀p∈P,a<=p/\p<a+n)->P.length=n->P=List.range' a n
 | [],a,n,_,_,h=>by rw[<-h];rfl
 |q::P,a,n,hi,hm,hl=>by
  obtain⟨n,rfl⟩:∃k,n=k+1:=⟨P.length,by rw[<-hl];rfl⟩;rw[bj]at hl;obtain⟨h1,h2⟩:=List.pairwise_cons.1 hi;have hq:=hm q (aQ ..);have key:∀ {P:List Nat} {b:Nat},P.Pairwise (· < ·)->(∀p∈P,b<=p/\p<a+(n+1))->P.length+b<=a+(n+1)\/P=[]:=by
   intro P;induction P with
   |nil=>exact λ_ _=> .inr rfl
   |cons x P ih=>
    intro b g1 g2;obtain⟨g3,g4⟩:=List.pairwise_cons.1 g1;have gx:=g2 x (aQ ..);rcases ih (b:=x+1) g4 (λp hp=>⟨g3 p hp,(g2 p (aK _ hp)).2⟩)with h|h
    ·left;rw[bj];omega
    ·left;rw[h];simp only[bj,f9];omega
  have hk:=key (b:=q+1) h2 λp hp=>⟨h1 p hp,(hm p (aK _ hp)).2⟩;have hqa:q=a:=by
   rcases hk with g|g
   ·omega
   ·have:n=0:=by rw[g]at hl;simpa using hl.symm
    omega
  subst hqa;rw[List.range'_succ,ED (a:=q+1) (n:=n) h2 (λp hp=>⟨h1 p hp,by have:=(hm p (aK _ hp)).2;omega⟩) oO]
theorem B0 {n c:Nat} {s:Rd} (I:Mb n c s) (h:s.P.length=c):s.P=List.range c:=by
 rw[List.range_eq_range'];exact ED I.inc (λp hp=>⟨aB _,by have:=I.lt p hp;omega⟩) h
theorem Aj {n c:Nat} {s:Rd} (I:Mb n c s) (h:s.P.length=c) {l i:Nat} (hl:l<c) (hi:i<n):s.M i l=Im i l:=by
 have:=I.unit l oO i hi;rwa[B0 I h,ap,List.getElem?_range hl,fc]at this
def Un (n:Nat) (A:Mx):Rat:=if(lD n A n).P.length=n then(lD n A n).d else 0
theorem QR (n:Nat) (A:Mx):Un n A=qR n A:=by
 have I:=rinv n A n;have hl:=yZ n A n;rw[Lv n A n];unfold Un;generalize lD n A n=s at*;by_cases h:s.P.length=n
 ·rw[aj h,nV (B:=Im) λi hi j hj=>Aj I h hj hi,F6,i2]
 ·rw[ah h,Ce (p:=n-1) oO λj hj=>I.low (n-1) oO oO j hj,dR]
def kv (P:List Nat) (M:Mx) (f j:Nat):Rat:=if j=f then 1 else if j∈P then-M (P.idxOf j) f else 0
theorem xA {P:List Nat} (h:P.Pairwise (· < ·)):P.Nodup:=h.imp λg=>Nat.ne_of_lt g
theorem Po {P:List Nat} {M:Mx} {f l:Nat} (hi:P.Pairwise (· < ·)) (hf:f∉P) (hl:l<P.length):kv P M f (P.getD l 0)= -M l f:=by
 have hm:=o7 hl;unfold kv;rw[ah (λe=>hf (by rw[<-e];exact hm)),aj hm];congr 2;rw[ap,aJ hl,fc];exact(xA hi).idxOf_getElem l hl
theorem getD_inj {P:List Nat} (hi:P.Pairwise (· < ·)) {l k:Nat} (hl:l<P.length) (hk:k<P.length) (h:P.getD l 0=P.getD k 0):l=k:=by
 rw[ap,ap,aJ hl,aJ hk,fc,fc]at h;exact(jU (xA hi)).1 h
theorem Cq {P:List Nat} {j:Nat} (h:j∈P):∃l,l<P.length/\P.getD l 0=j:=by
 obtain⟨l,hl,e⟩:=fy h;exact⟨l,hl,by rw[ap,aJ hl];exact e⟩
theorem Tw {P:List Nat} {M:Mx} {f m:Nat} (hi:P.Pairwise (· < ·)) (hf:f∉P) (hm:∀p∈P,p<m) (hfm:f<m) (A:Mx) (i:Nat) (hu:∀l,l<P.length->A i (P.getD l 0)=Im i l):
  mM A (kv P M f) m i=if i<P.length then A i f-M i f else A i f:=by
 have e:mM A (kv P M f) m i=kg (λj=>(if j=f then A i f else 0)+1*(if i<P.length/\j=P.getD i 0 then-M i f else 0)) m:=by
  refine kp λj hj=> ?_;by_cases h1:j=f
  ·rw[aj h1,ah (λg=>hf (by rw[<-h1,g.2];exact o7 g.1)),h1];unfold kv;rw[aj rfl];grind
  ·rw[ah h1];by_cases h2:j∈P
   ·obtain⟨l,hl,rfl⟩:=Cq h2;rw[Po hi hf hl,hu l hl];by_cases h3:i=l
    ·rw[aj ⟨oO,by rw[h3]⟩,h3,xd];grind
    ·rw[ah (λg=>h3 (getD_inj hi g.1 hl g.2.symm)),sT h3];grind
   ·rw[ah (λg=>h2 (by rw[g.2];exact o7 g.1))];unfold kv;rw[ah h1,ah h2];grind
 rw[e,mV,nz (p:=f) hfm λj _ h=>ah h,aj rfl];by_cases h:i<P.length
 ·rw[aj h,nz (p:=P.getD i 0) (hm _ (o7 h)) λj _ g=>ah λq=>g q.2,aj ⟨h,rfl⟩];grind
 ·rw[ah h,lr λj _=>ah λq=>h q.1];grind
theorem Ji {n m:Nat} {s:Rd} (I:Mb n m s) {f:Nat} (hf:f∉s.P) (hfm:f<m):HO n m s.M (kv s.P s.M f):=by
 intro i hi;rw[Tw I.inc hf I.lt hfm s.M i λl hl=>I.unit l hl i hi];split
 ·grind
 ·exact I.low i oO hi f hfm
theorem ME {n m:Nat} {A:Mx} {x y:Nat->Rat} (h:∀j,j<m->x j=y j):HO n m A x↔HO n m A y:=by
 have:∀i,mM A x m i=mM A y m i:=λi=>kp λj hj=>by rw[h j hj]
 unfold HO;constructor
 ·intro g i hi;rw[<-this];exact g i hi
 ·intro g i hi;rw[this];exact g i hi
theorem SB (n c:Nat) (A:Mx):(lD n A (c+1)).P=if pv (lD n A c).M c n (lD n A c).P.length<n then(lD n A c).P++[c]else(lD n A c).P:=by
 show(sH n c (lD n A c)).P=_;unfold sH;split<;>rfl
theorem AG {α:Type} (q:α->Bool):∀l:List α,(l.filter q).length+(l.filter λa=> !q a).length=l.length
 | []=>rfl
 |a::l=>by
  have:=AG q l;rw[fE,fE];cases q a<;>simp only[jF,jH,gZ,iG,Bool.not_false,bj]<;>omega
theorem CN {P:List Nat} {m:Nat} (hi:P.Pairwise (· < ·)) (hm:∀p∈P,p<m):((List.range m).filter λf=> !decide (f∈P)).length+P.length=m:=by
 have hp:((List.range m).filter λf=>decide (f∈P)).Perm P:=by
  refine(List.perm_ext_iff_of_nodup (List.nodup_range.filter _) (xA hi)).2 λa=> ?_;rw[dV,cW,fP];exact⟨λh=>h.2,λh=>⟨hm a h,h⟩⟩
 have h1:=hp.length_eq;have h2:=AG (λf=>decide (f∈P)) (List.range m);rw[dI]at h2;omega
theorem wF {n k:Nat} {A:Mx} (h:(lD n A (k+1)).P.length=k+1):(lD n A k).P.length=k/\pv (lD n A k).M k n k<n:=by
 have h1:=(ya n A k 1).2;have h2:=yZ n A k;have e:(lD n A k).P.length=k:=oO;refine⟨e,?_⟩;rw[SB,e]at h;by_cases g:pv (lD n A k).M k n k<n
 ·exact g
 ·rw[ah g,e]at h;omega
theorem wU {n k:Nat} {A:Mx} (h:(lD n A k).P.length=k) (hp:pv (lD n A k).M k n k<n):(lD n A (k+1)).P.length=k+1/\(lD n A (k+1)).M=elim (ou (lD n A k).M k (pv (lD n A k).M k n k)) k ((lD n A k).M (pv (lD n A k).M k n k) k) λi=>ou (lD n A k).M k (pv (lD n A k).M k n k) i k:=by
 refine⟨by rw[SB,h,aj hp];simp[h],?_⟩;show(sH n k (lD n A k)).M=_;unfold sH;rw[h,aj hp]
def dd (n:Nat) (B:Mx):Nat->Rat
 |0=>1
 |k+1=>dd n B k*(lD n B k).M (pv (lD n B k).M k n k) k
def ve (B:Mx):Prop:=∀i j,∃z:Int,B i j=z
def SC (n:Nat) (B:Mx) (k:Nat) (B':Mx):Prop:=ve B'/\∀(K:Nat) (s σ:Nat->Nat),k<=K->(∀a,a<k->s a=a)->(∀a,k<=a->a<K->k<=s a/\s a<n)->
 qR K (λa b=>B' (s a) (σ b))=dd n B k*qR K λa b=>(lD n B k).M (s a) (σ b)
theorem OW {n:Nat} {B:Mx} (hB:ve B):∀k,(lD n B k).P.length=k->∃B',SC n B k B'
 |0,_=>⟨B,hB,λK s σ _ _ _=>(dY _).symm⟩
 |k+1,h=>by
  obtain⟨hk,hp⟩:=wF h;obtain⟨B',hB',hI⟩:=OW hB k hk;obtain⟨_,eM⟩:=wU hk hp;have hlen:=(rinv n B k).len;obtain⟨h1,_,_,h4⟩:=po (lD n B k).M k (n:=n) (r:=k) oO;have ha:=h4 hp;unfold SC;rw[eM];show∃B',ve B'/\∀(K:Nat) (s σ:Nat->Nat),k+1<=K->(∀a,a<k+1->s a=a)->(∀a,k+1<=a->a<K->k+1<=s a/\s a<n)->qR K (λa b=>B' (s a) (σ b))=(dd n B k*(lD n B k).M (pv (lD n B k).M k n k) k)*_;generalize pv (lD n B k).M k n k=p at*;generalize (lD n B k).M=N at*;refine⟨ou B' k p,λi j=> ?_,λK s σ hK hs1 hs2=> ?_⟩
  ·unfold ou;split
   ·exact hB' _ _
   ·split
    ·exact hB' _ _
    ·exact hB' _ _
  ·have hsw:∀X:Mx,(λa b=>ou X k p (s a) (σ b))=λa b=>X (if s a=k then p else if s a=p then k else s a) (σ b):=by
    intro X;funext a b;unfold ou;split
    ·rfl
    ·split<;>rfl
   have e:=hI K (λa=>if s a=k then p else if s a=p then k else s a) σ oO (λa ha=>by
    have:=hs1 a oO;show(if s a=k then p else if s a=p then k else s a)=a;rw[this,ah oO,ah oO]) λa h1' h2'=>by
     show k<=(if s a=k then p else if s a=p then k else s a)/\(if s a=k then p else if s a=p then k else s a)<n;by_cases g:a=k
     ·rw[hs1 a oO,aj g];omega
     ·have:=hs2 a oO h2';rw[ah oO];split<;>omega
   rw[hsw B',e,gN];congr 1;rw[<-hsw N];have hsk:=hs1 k oO;have ed:=HT (n:=K) (r:=k) oO (λa b=>ou N k p (s a) (σ b)) ha λa=>ou N k p (s a) k;rw[ed];congr 1;refine nV λa ha' b _=> ?_;by_cases g:a=k
   ·rw[g,tq,hsk,tq]
   ·have hne:s a≠k:=by
     by_cases g2:a<k
     ·rw[hs1 a oO];exact g
     ·have:=hs2 a oO ha';omega
    rw[qX _ g,qX _ hne,hsk]
theorem Ua {n:Nat} {B:Mx} (hB:ve B) {k:Nat} (hk:(lD n B k).P.length=k) {i:Nat} (hi:i<n) (j:Nat):∃z:Int,dd n B k*(lD n B k).M i j=z:=by
 obtain⟨B',hB',hI⟩:=OW hB k hk;have I:=rinv n B k;have hlen:=I.len;have hu:∀ {l i:Nat},l<k->i<n->(lD n B k).M i l=Im i l:=λhl hi=>Aj I hk hl hi;by_cases g:i<k
 ·have e:=hI k (λa=>a) (λb=>if b=i then j else b) (aH _) (λa _=>rfl) λa h1 h2=>absurd h2 oO;rw[nV (A:=λa b=>(lD n B k).M a (if b=i then j else b)) (B:=yh i λa=>(lD n B k).M a j) λa ha b hb=> ?_,B6 _ g]at e
  ·rw[<-e];exact ET λa _ b _=>hB' _ _
  ·unfold yh;by_cases h:b=i
   ·rw[aj h,aj h]
   ·rw[ah h,ah h];exact hu hb oO
 ·have e:=hI (k+1) (λa=>if a<k then a else i) (λb=>if b<k then b else j) oO (λa ha=>aj ha) λa h1 h2=>by
   show k<=(if a<k then a else i)/\(if a<k then a else i)<n;rw[ah oO];omega
  rw[nV (A:=λa b=>(lD n B k).M (if a<k then a else i) (if b<k then b else j)) (B:=yh k λa=>(lD n B k).M (if a<k then a else i) j) λa ha b hb=> ?_,B6 _ oO,ah (dH _)]at e
  ·rw[<-e];exact ET λa _ b _=>hB' _ _
  ·unfold yh;by_cases h:b=k
   ·rw[ah (show¬b<k by omega),aj h]
   ·rw[aj (show b<k by omega),ah h];by_cases h2:a<k
    ·rw[aj h2];exact hu oO oO
    ·rw[ah h2,hu oO hi,sT oO,sT oO]
theorem Il {n:Nat} {B:Mx}:∀k,(lD n B k).P.length=k->dd n B k≠0
 |0,_=>by show(1:Rat)≠0;decide
 |k+1,h=>by
  obtain⟨hk,hp⟩:=wF h;have hlen:=(rinv n B k).len;intro e;rcases eW.1 e with g|g
  ·exact Il k hk g
  ·exact(po (lD n B k).M k (n:=n) (r:=k) oO).2.2.2 hp g
def IR (W:Nat->Nat->Int) (p q:Nat):Nat->Nat->Int:=λi j=>if i=p then W q j else if i=q then W p j else W i j
def DM (W:Nat->Nat->Int) (k:Nat) (last:Int):Nat->Nat->Int:=λi j=>if i=k then W k j else if j=k then 0 else(W k k*W i j-W i k*W k j).tdiv last
def GG (n m:Nat) (B:Mx) (k:Nat) (W:Nat->Nat->Int):Prop:=∀i,i<n->∀j,j<m->((W i j:Int):Rat)=dd n B k*(lD n B k).M i j
theorem Nm {n m k:Nat} {B:Mx} {W:Nat->Nat->Int} (h:GG n m B k W) (hk:(lD n B k).P.length=k) {i j:Nat} (hi:i<n) (hj:j<m):W i j=0↔(lD n B k).M i j=0:=by
 have e:=h i hi j hj;constructor
 ·intro g;rw[g]at e;rcases eW.1 e.symm with q|q
  ·exact absurd q (Il k hk)
  ·exact q
 ·intro g;rw[g,dR]at e;exact gT.1 e
theorem NO {n m k:Nat} {B:Mx} {W:Nat->Nat->Int} (hB:ve B) (h:GG n m B k W) (hk:(lD n B k).P.length=k) (hkm:k<m) (hp:pv (lD n B k).M k n k<n) {last:Int} (hl:((last:Int):Rat)=dd n B k):
  GG n m B (k+1) (DM (IR W k (pv (lD n B k).M k n k)) k last)/\((DM (IR W k (pv (lD n B k).M k n k)) k last k k:Int):Rat)=dd n B (k+1):=by
 obtain⟨hk1,eM⟩:=wU hk hp;have hlen:=(rinv n B k).len;obtain⟨h1,_,_,h4⟩:=po (lD n B k).M k (n:=n) (r:=k) oO;have ha:=h4 hp;have hd:dd n B (k+1)=dd n B k*(lD n B k).M (pv (lD n B k).M k n k) k:=rfl;have hd0:=Il k hk;have hex:=λi (hi:i<n) j=>Ua hB hk1 hi j;have hW:∀i,i<n->∀j,j<m->((IR W k (pv (lD n B k).M k n k) i j:Int):Rat)=dd n B k*ou (lD n B k).M k (pv (lD n B k).M k n k) i j:=by
  intro i hi j hj;unfold IR ou;split
  ·exact h _ hp j hj
  ·split
   ·exact h _ oO j hj
   ·exact h _ hi j hj
 unfold GG;rw[eM]at hex⊢;rw[hd]at hex⊢;generalize hpp:pv (lD n B k).M k n k=p at*;generalize (lD n B k).M=N at*;generalize IR W k p=V at*;generalize dd n B k=D at*;have hkk:((V k k:Int):Rat)=D*N p k:=by rw[hW k oO k hkm,pO]
 refine⟨λi hi j hj=> ?_,by unfold DM;rw[aj rfl];exact hkk⟩;unfold DM;by_cases g:i=k
 ·rw[aj g,g,hW k oO j hj,tq];rw[bT];have:=bY _ ha;grind
 ·rw[ah g];by_cases g2:j=k
  ·rw[aj g2,g2,qX _ g,pO,bT,bY _ ha];show((0:Int):Rat)=_;grind
  ·rw[ah g2];obtain⟨z,hz⟩:=hex i hi j;have e:V k k*V i j-V i k*V k j=last*z:=by
    refine gT.1 ?_;rw[jZ,eG,eG,eG,hkk,hW i hi j hj,hW i hi k hkm,hW k oO j hj,hl,<-hz,qX _ g,pO,bT];have:=bY _ ha;grind
   have hl0:last≠0:=λq=>hd0 (by rw[<-hl,q];rfl);rw[e,Int.mul_tdiv_cancel_left _ hl0,<-hz]
theorem vq {n:Nat} {A B:Mx} {c:Nat->Rat} (hc:∀i,i<n->c i≠0) (hB:∀i,i<n->∀j,B i j=c i*A i j):∀k,(lD n A k).P.length=k->
  (lD n B k).P.length=k/\∃c':Nat->Rat,(∀i,i<n->c' i≠0)/\∀i,i<n->∀j,(lD n B k).M i j=(if i<k then 1 else c' i)*(lD n A k).M i j
 |0,_=>⟨rfl,c,hc,λi hi j=>by rw[ah (aW _)];exact hB i hi j⟩
 |k+1,h=>by
  obtain⟨hk,hp⟩:=wF h;obtain⟨hkB,c',hc',hM⟩:=vq hc hB k hk;obtain⟨hk1,eA⟩:=wU hk hp;have hlen:=(rinv n A k).len;have ep:pv (lD n B k).M k n k=pv (lD n A k).M k n k:=PH oO λi h1 h2=>by
   rw[hM i h2,ah oO];constructor
   ·intro g;rcases eW.1 g with q|q
    ·exact absurd q (hc' i h2)
    ·exact q
   ·intro g;rw[g,dR]
  obtain⟨hk2,eB⟩:=wU hkB (by rw[ep];exact hp);refine⟨hk2,?_⟩;rw[eA,eB,ep];obtain⟨h1,_,_,h4⟩:=po (lD n A k).M k (n:=n) (r:=k) oO;have ha:=h4 hp;generalize pv (lD n A k).M k n k=p at*;generalize (lD n A k).M=M at*;generalize (lD n B k).M=N at*;have hcp:=hc' p hp;have hr:∀j,N p j/N p k=M p j/M p k:=by
   intro j;rw[hM p hp j,hM p hp k,ah oO,bT,bT];have e1:=bY _ ha;have e2:=bY _ hcp;have e3:(c' p*M p k)⁻¹ =(c' p)⁻¹ *(M p k)⁻¹ :=by
    have h0:c' p*M p k≠0:=λq=>by
     rcases eW.1 q with w|w
     ·exact hcp w
     ·exact ha w
    have e4:=bY _ h0;grind
   rw[e3];grind
  refine⟨λi=>if i=p then c' k else c' i,λi hi=> ?_,λi hi j=> ?_⟩
  ·show(if i=p then c' k else c' i)≠0;split
   ·exact hc' k oO
   ·exact hc' i hi
  ·by_cases g:i=k
   ·rw[g,tq,tq,pO,pO,hr,aj oO,dY]
   ·rw[qX _ g,qX _ g,pO,pO,hr];by_cases g2:i=p
    ·have f1:ou N k p p j=c' k*M k j:=by rw[sE,hM k oO,ah oO]
     have f2:ou N k p p k=c' k*M k k:=by rw[sE,hM k oO,ah oO]
     have f3:ou M k p p j=M k j:=by rw[sE]
     have f4:ou M k p p k=M k k:=by rw[sE]
     dsimp only;rw[g2,f1,f2,f3,f4,ah oO,aj rfl];grind
    ·have f1:=hM i hi j;have f2:=hM i hi k;rw[tX N g g2,tX M g g2];dsimp only;have q1:ou N k p i k=N i k:=tX _ g g2 _;have q2:ou M k p i k=M i k:=tX _ g g2 _;rw[q1,q2];by_cases g3:i<k
     ·rw[aj g3]at f1 f2;rw[f1,f2,aj oO];grind
     ·rw[ah g3]at f1 f2;rw[f1,f2,ah oO,ah g2];grind
open Go Go.RowKit Go.Proofs.YtoeiejliehgopaaGreatDoor
structure Rw (α:Type)where
 b:Nat
 cap:Nat
 X:List α
 sp:List Value
def ov {α:Type}:Rw α:=⟨0,0,[],[]⟩
def Rw.v {α:Type} (r:Rw α):Value:= .slice (some ⟨r.b,0,none⟩) r.X.length r.cap
def Rw.xO {α:Type} (enc:α->List Value) (t:TypeId) (r:Rw α):kU:=(r.b,t,r.X.flatMap enc++r.sp)
def Rw.put {α:Type} (r:Rw α) (j:Nat) (u:α):Rw α:=⟨r.b,r.cap,r.X.set j u,r.sp⟩
def mB {α:Type} (enc:α->List Value) (t tS:TypeId) (bo:Nat) (R:List (Rw α)) (H:List kU):List kU:=(bo,tS,R.map Rw.v)::(R.map (Rw.xO enc t)++H)
theorem nu {α:Type} (l:List α) (d:α) {i:Nat} (h:i<l.length):l.getD i d=l[i]:=by
 rw[ap,aJ h];rfl
theorem ni {α:Type} (l:List α) (d u:α) {i j:Nat} (hi:i<l.length):(l.set i u).getD j d=if j=i then u else l.getD j d:=by
 rw[ap,fu,ap];by_cases h:j=i
 ·subst h;simp[hi]
 ·rw[ah (λe=>h e.symm),ah h]
theorem NL {α:Type} {enc:α->List Value} {t tS:TypeId} {bo:Nat} {R:List (Rw α)} {H:List kU} {i:Nat} (hi:i<R.length):(mB enc t tS bo R H)[i+1]?=some ((R.getD i ov).b,t,(R.getD i ov).X.flatMap enc++(R.getD i ov).sp):=by
 unfold mB;rw[List.getElem?_cons_succ,dq (by rw[aS];exact hi),iz,aJ hi,nu R ov hi];rfl
theorem Cb {α:Type} {R:List (Rw α)} {i:Nat} (hi:i<R.length):(R.map Rw.v)[i]?=some (R.getD i ov).v:=by
 rw[iz,aJ hi,nu R ov hi];rfl
theorem UO {α:Type} (r:Rw α) (j:Nat) (u:α):(r.put j u).v=r.v:=by
 unfold Rw.v Rw.put;rw[ce]
theorem M7 {α:Type} (R:List (Rw α)) {i:Nat} (j:Nat) (u:α) (hi:i<R.length):(R.set i ((R.getD i ov).put j u)).map Rw.v=R.map Rw.v:=by
 rw[g9,UO,nu R ov hi];refine ff (by simp) λk h1 h2=> ?_;rw[List.getElem_set];split
 ·next h=>subst h;rw[ew]
 ·rfl
theorem Tu {α:Type} {enc:α->List Value} {t tS:TypeId} {bo:Nat} {R:List (Rw α)} {H:List kU} {i:Nat} (j:Nat) (u:α) (hi:i<R.length):
  (mB enc t tS bo R H).set (i+1) ((R.getD i ov).b,t,((R.getD i ov).X.set j u).flatMap enc++(R.getD i ov).sp)=mB enc t tS bo (R.set i ((R.getD i ov).put j u)) H:=by
 unfold mB;rw[M7 R j u hi,List.set_cons_succ,List.set_append_left _ _ (by rw[aS];exact hi),g9];rfl
def BJ {α:Type} (R:List (Rw α)) (i j:Nat):List (Rw α):=(R.set i (R.getD j ov)).set j (R.getD i ov)
theorem Nu {α:Type} (R:List (Rw α)) (i j:Nat):(BJ R i j).length=R.length:=by unfold BJ;rw[ce,ce]
theorem Ic {α:Type} (R:List (Rw α)) {i j:Nat} (hi:i<R.length) (hj:j<R.length) (k:Nat):(BJ R i j).getD k ov=if k=j then R.getD i ov else if k=i then R.getD j ov else R.getD k ov:=by
 unfold BJ;rw[ni _ _ _ (by rw[ce];exact hj),ni _ _ _ hi]
structure mx {α:Type} (R:List (Rw α)) (n m:Nat) (f:Nat->Nat->α):Prop where
 len:R.length=n
 row:∀i,i<n->(R.getD i ov).X=ky m (f i)
 cap:∀i,i<n->m<=(R.getD i ov).cap/\(R.getD i ov).cap<=9223372036854775807
section
variable {α : Type} {R : List (Rw α)} {n m : Nat} {f g : Nat → Nat → α}
theorem mx.xQ (h:mx R n m f) {i:Nat} (hi:i<n):(R.getD i ov).X.length=m:=by rw[h.row i hi,j9]
theorem mx.v (h:mx R n m f) {i:Nat} (hi:i<n):(R.getD i ov).v= .slice (some ⟨(R.getD i ov).b,0,none⟩) m (R.getD i ov).cap:=by unfold Rw.v;rw[h.xQ hi]
theorem mx.get (h:mx R n m f) {i j:Nat} (hi:i<n) (hj:j<m) (d:α):(R.getD i ov).X.getD j d=f i j:=by rw[h.row i hi];exact kz _ _ hj
theorem mx.congr (h:mx R n m f) (e:∀i,i<n->∀j,j<m->f i j=g i j):mx R n m g:=⟨h.len,λi hi=>by rw[h.row i hi];exact kF λj hj=>e i hi j hj,h.cap⟩
theorem mx.put (h:mx R n m f) {i:Nat} (hi:i<n) (j:Nat) (u:α):mx (R.set i ((R.getD i ov).put j u)) n m λa b=>if a=i/\b=j then u else f a b:=by
 have hl:i<R.length:=by rw[h.len];exact hi
 refine⟨by rw[ce,h.len],λa ha=> ?_,λa ha=> ?_⟩
 ·rw[ni _ _ _ hl];by_cases e:a=i
  ·rw[aj e];show(R.getD i ov).X.set j u=_;rw[h.row i hi,nt,e];exact kF λb _=>by
    by_cases q:b=j
    ·rw[aj q,aj ⟨rfl,q⟩]
    ·rw[ah q,ah λz=>q z.2]
  ·rw[ah e,h.row a ha];exact kF λb _=>by rw[ah λz=>e z.1]
 ·rw[ni _ _ _ hl];by_cases e:a=i
  ·rw[aj e];exact h.cap i hi
  ·rw[ah e];exact h.cap a ha
theorem mx.Gh (h:mx R n m f) {i j:Nat} (hi:i<n) (hj:j<n):mx (BJ R i j) n m λa b=>if a=j then f i b else if a=i then f j b else f a b:=by
 have hi':i<R.length:=by rw[h.len];exact hi
 have hj':j<R.length:=by rw[h.len];exact hj
 refine⟨by rw[Nu,h.len],λa ha=> ?_,λa ha=> ?_⟩
 ·rw[Ic R hi' hj'];by_cases e1:a=j
  ·simp only[aj e1];exact h.row i hi
  ·by_cases e2:a=i
   ·simp only[ah e1,aj e2];exact h.row j hj
   ·simp only[ah e1,ah e2];exact h.row a ha
 ·rw[Ic R hi' hj'];split
  ·exact h.cap i hi
  ·split
   ·exact h.cap j hj
   ·exact h.cap a ha
theorem mx.sl {enc:α->List Value} {size:Nat} {t tS:TypeId} {bo:Nat} {H:List kU} {w0 w:World} (h:mx R n m f) (hS:St w0 w (mB enc t tS bo R H)) (hu:∀x,(enc x).length=size) {i:Nat} (hi:i<n):Sl enc size w (R.getD i ov).v (ky m (f i)):=by
 have hl:i<R.length:=by rw[h.len];exact hi
 have:=hS.WQ (NL hl) hu (n:=m) (cap:=(R.getD i ov).cap) (by rw[h.xQ hi];omega) (h.cap i hi).1 (h.cap i hi).2;rwa[h.row i hi,aV (by rw[j9];omega),<-h.v hi]at this
def rK (v:Value):List Value:=[v]
theorem Hf (l:List Value):l.flatMap rK=l:=by
 induction l with
 |nil=>rfl
 |cons a l ih=>rw[cB,ih];rfl
theorem mx.outer {enc:α->List Value} {t tS:TypeId} {bo:Nat} {H:List kU} {w0 w:World} (h:mx R n m f) (hS:St w0 w (mB enc t tS bo R H)) {cap:Nat} (h1:n<=cap) (h2:cap<=9223372036854775807):Sl rK 1 w (.slice (some ⟨bo,0,none⟩) n cap) (R.map Rw.v):=by
 have hk:(mB enc t tS bo R H)[0]?=some (bo,tS,R.map Rw.v):=rfl;rw[<-Hf (R.map Rw.v)]at hk;have:=hS.sle hk (λ_=>rfl) (n:=n) (cap:=cap) (by rw[aS,h.len];omega) h1 h2;rwa[aV (by rw[aS,h.len];omega)]at this
end
structure rJ {α:Type} (enc:α->List Value) (size:Nat) (w:World) (v:Value) (A:List (List α)) (vs:List Value):Prop where
 len:vs.length=A.length
 sl:Sl rK 1 w v vs
 row:∀i,i<A.length->Sl enc size w (vs.getD i undef) (A.getD i [])
theorem rJ.j4 {α:Type} {enc:α->List Value} {size:Nat} {w w':World} {v:Value} {A:List (List α)} {vs:List Value} (h:rJ enc size w v A vs) (hb:Below w.heap.size w w'):rJ enc size w' v A vs:=⟨h.len,h.sl.j4 hb,λi hi=>(h.row i hi).j4 hb⟩
def ws {α:Type} (n m:Nat) (f:Nat->Nat->α):List (List α):=ky n λi=>ky m (f i)
theorem mQ {α:Type} (n m:Nat) (f:Nat->Nat->α):(ws n m f).length=n:=j9 _ _
theorem pD {α:Type} {n m:Nat} (f:Nat->Nat->α) {i:Nat} (hi:i<n):(ws n m f).getD i []=ky m (f i):=kz _ _ hi
theorem mx.Lc {α:Type} {R:List (Rw α)} {n m:Nat} {f:Nat->Nat->α} {enc:α->List Value} {size:Nat} {t tS:TypeId} {bo:Nat} {H:List kU} {w0 w:World} (h:mx R n m f) (hS:St w0 w (mB enc t tS bo R H)) (hu:∀x,(enc x).length=size) {cap:Nat} (h1:n<=cap) (h2:cap<=9223372036854775807):
  rJ enc size w (.slice (some ⟨bo,0,none⟩) n cap) (ws n m f) (R.map Rw.v):=by
 refine⟨by rw[aS,h.len,mQ],h.outer hS h1 h2,λi hi=> ?_⟩;rw[mQ]at hi;rw[pD f hi,ap,Cb (by rw[h.len];exact hi)];exact h.sl hS hu hi
section
variable {P : Program} {N : Nat} {ρ : Nat → Value} {w0 w w' : World} {d : Option Tmp} {ty : TypeId} {pos : String} {aft : Array Edge} {g : Option (Nat × Bool)} {x y z : Operand} {t t' e : TypeId} {H : List kU} {k b o : Nat} {v : Value} {K : Value → Prop} {K2 : Value → World → Prop}
  {α : Type} {enc : α → List Value} {size : Nat} {R : List (Rw α)} {tR tS : TypeId} {bo : Nat} {zz : List Value}
end
end Go.Sx
namespace Go.Proofs.YtoeiejliehgopaaGreatDoor
open Go Go.RowKit Go.Sx
def mX (A:List (List RR)):Nat:=(A.getD 0 []).length
def AU (A:List (List RR)):Bool:=A.all λr=>decide (r.length=mX A)
def tV (A:List (List RR)):Int:=if A.length=0\/mX A=0 then 4 else if AU A=false then 4 else if 16<A.length\/16<mX A then 2 else 0
def OI (A:List (List RR)):Int:=if tV A≠0 then tV A else if A.length≠mX A then 4 else 0
theorem xp {A:List (List RR)} (h:tV A=0):1<=A.length/\A.length<=16/\1<=mX A/\mX A<=16/\∀i,i<A.length->(A.getD i []).length=mX A:=by
 unfold tV at h;split at h
 ·cases h
 ·next h1=>
  split at h
  ·cases h
  ·next h2=>
   split at h
   ·cases h
   ·next h3=>
    refine⟨oO,oO,oO,oO,λi hi=> ?_⟩;have h4:AU A=true:=by cases q:AU A with
     |true=>rfl
     |false=>exact absurd q h2
    have:=cQ.1 h4 _ (kE A i [] hi);exact gq this
theorem GC {α:Type} (f:α->Bool) (l:List α) (d:α) {i:Nat} (hi:i<l.length) (h:(l.take i).all f=true):
  (f (l.getD i d)=true->(l.take (i+1)).all f=true)/\(f (l.getD i d)=false->l.all f=false):=by
 have e:l.take (i+1)=l.take i++[l.getD i d]:=by
  rw[jM hi,ap,aJ hi];rfl
 constructor
 ·intro g;rw[e,fO,h,fX,g];rfl
 ·intro g;rw[List.all_eq_false];exact⟨_,kE l i d hi,by rw[g];simp⟩
theorem EB (v:Value) (A:List (List RR)) (vs:List Value) (w:World) (hA:rJ j5 3 w v A vs):
  lU Tryz.prog 170 #[v] w λr w'=>r= .int .i64 (tV A)/\Below w.heap.size w w':=by
 have hS:=St.init w;have hmx:=hA.sl.maxLen;have hlen:=hA.len;refine enter Tryz.func170 rfl Tryz.ntmps170 rfl ?_;refine V1 ?_;by_cases h0:A.length=0
 ·have he:tV A=4:=aj (.inl h0);rw[he];refine J1 ?_;refine jp (ki rfl (hA.sl.j4 hS.j4) ⟨_,Tryz.underlying35⟩ ?_);refine J2 ?_;refine kL (ka 8 kR rfl dT) (kL (ka 8 kR rfl dT) (kL (ka 8 kR rfl dT) (kL (ka 8 kR rfl dT) (kL (ka 8 kR rfl dT) (jp (kA (vb rfl dT) rfl ?_))))));refine ja ?_;refine k9 rfl (rfl) ?_;refine J1 ?_;refine jt ?_;refine kB rfl rfl ?_;exact⟨rfl,hS.j4⟩
 have hr0:=hA.row 0 oO;have hm0:=hr0.maxLen;refine J1 ?_;refine jp (ki rfl (hA.sl.j4 hS.j4) ⟨_,Tryz.underlying35⟩ ?_);refine J2 ?_;refine ke (j7 8 kR rfl dF) (ko rfl (ke (j7 8 kR rfl dF) (kj (i:=0) rfl rfl (hA.sl.j4 hS.j4) oO dO lH (lj (j7 8 kR rfl dF) (kt (i:=0) undef rfl lQ (hA.sl.j4 hS.j4) dO rfl rfl (.inr rfl) (ke (j7 8 kR rfl dF) (ki rfl (hr0.j4 hS.j4) ⟨_,Tryz.underlying34⟩ (ke (j7 8 kR rfl dF) (qV rfl rfl (jp (kA (vb rfl dF) rfl ?_)))))))))));refine ja ?_;have hc0:mX A=(A.getD 0 []).length:=rfl;by_cases h1:mX A=0
 ·have he:tV A=4:=aj (.inr h1);rw[he];refine J2 ?_;refine jt ?_;refine kB rfl rfl ?_;exact⟨rfl,hS.j4⟩
 refine V1 ?_;have e1:tV A=if AU A=false then 4 else if 16<A.length\/16<mX A then 2 else 0:=ah oO
 refine J1 ?_;refine jp (ki rfl (hA.sl.j4 hS.j4) ⟨_,Tryz.underlying35⟩ ?_);refine J1 ?_;refine jb ?_;refine kx (λρ w'=>AU A=true/\ρ 0=v/\St w w' []) ?_ ?_
 ·refine ja ?_;refine ku (σ:=Nat) (λi ρ w'=>i<=A.length/\(A.take i).all (λr=>decide (r.length=mX A))=true/\ρ 0=v/\ρ 15=v/\ρ 16=iB A.length/\ρ 17=iB i/\St w w' []) (λi=>A.length-i) 0
   ⟨aB _,by simp,rfl,rfl,vi rfl oO,rfl,hS⟩ ?_
  clear hS;rintro i ρ w2 ⟨hi,hall,h0',h15,h16,h17,hS⟩;refine V1 ?_;by_cases hlt:i<A.length
  ·refine V1 ?_;have hri:=hA.row i hlt;have hmi:=hri.maxLen;have hd:(A.getD i []).length=mX A↔decide ((A.getD i []).length=mX A)=true:=(fI).symm;refine jr ?_;refine jp (kj (i:=i) h15 h17 (hA.sl.j4 hS.j4) oO dO lH (jq (kt (i:=i) undef rfl lQ (hA.sl.j4 hS.j4) dO rfl rfl (.inr rfl) ?_)));refine J2 ?_;refine jp (ki rfl (hri.j4 hS.j4) ⟨_,Tryz.underlying34⟩ ?_);refine J1 ?_;refine jp (kj (i:=0) rfl rfl (hA.sl.j4 hS.j4) oO dO lH (jq (kt (i:=0) undef rfl lQ (hA.sl.j4 hS.j4) dO rfl rfl (.inr rfl) (jp (ki rfl (hr0.j4 hS.j4) ⟨_,Tryz.underlying34⟩ ?_)))));refine V1 ?_;by_cases hne:(A.getD i []).length=mX A
   ·refine V3 ?_;exact⟨i+1,_,rfl,⟨hlt,(GC (λr:List RR=>decide (r.length=mX A)) A [] hlt hall).1 (hd.1 hne),jY,jY,jY,vi rfl oO,hS⟩,oO⟩
   ·refine V1 ?_;have he:tV A=4:=by
     have hev:AU A=false:=(GC (λr:List RR=>decide (r.length=mX A)) A [] hlt hall).2 (ae hne);rw[e1,aj hev]
    rw[he];refine J1 ?_;refine jt ?_;refine kB rfl rfl ?_;exact⟨rfl,hS.j4⟩
  ·refine J1 ?_;refine jt ?_;obtain rfl:i=A.length:=oO;rw[bR]at hall;exact⟨_,rfl,hall,h0',hS⟩
 clear hS;rintro ρ w2 ⟨hev,h0',hS⟩;refine ja ?_;have e2:tV A=if 16<A.length\/16<mX A then 2 else 0:=by rw[e1,ah (by rw[hev];simp)]
 rw[e2];by_cases h3:16<A.length
 ·rw[aj (.inl h3)];refine J1 ?_;refine jp (ki rfl (hA.sl.j4 hS.j4) ⟨_,Tryz.underlying35⟩ ?_);refine J2 ?_;refine kL (ka 32 kR rfl dT) (kL (ka 32 kR rfl dT) (kL (ka 32 kR rfl dT) (kL (ka 32 kR rfl dT) (kL (ka 32 kR rfl dT) (jp (kA (vb rfl dT) rfl ?_))))));refine ja ?_;refine k9 rfl (rfl) ?_;refine J1 ?_;refine jt ?_;refine kB rfl rfl ?_;exact⟨rfl,hS.j4⟩
 refine J1 ?_;refine jp (ki rfl (hA.sl.j4 hS.j4) ⟨_,Tryz.underlying35⟩ ?_);refine J2 ?_;refine ke (j7 32 kR rfl dF) (ko h0' (ke (j7 32 kR rfl dF) (kj (i:=0) rfl rfl (hA.sl.j4 hS.j4) oO dO lH (lj (j7 32 kR rfl dF) (kt (i:=0) undef rfl lQ (hA.sl.j4 hS.j4) dO rfl rfl (.inr rfl) (ke (j7 32 kR rfl dF) (ki rfl (hr0.j4 hS.j4) ⟨_,Tryz.underlying34⟩ (ke (j7 32 kR rfl dF) (t5 rfl rfl (jp (kA (vb rfl dF) rfl ?_)))))))))));refine ja ?_;by_cases h4:16<mX A
 ·rw[aj (.inr h4)];refine J2 ?_;refine jt ?_;refine kB rfl rfl ?_;exact⟨rfl,hS.j4⟩
 rw[ah oO];refine J2 ?_;refine jt ?_;refine kB rfl rfl ?_;exact⟨rfl,hS.j4⟩
theorem Jf (v:Value) (A:List (List RR)) (vs:List Value) (w:World) (hA:rJ j5 3 w v A vs):
  lU Tryz.prog 140 #[v] w λr w'=>r= .int .i64 (OI A)/\Below w.heap.size w w':=by
 have hS:=St.init w;have hmx:=hA.sl.maxLen;have hlen:=hA.len;refine enter Tryz.func140 rfl Tryz.ntmps140 rfl ?_;refine J2 ?_;refine jh (j6 Tryz.call170 rfl (EB v A vs _ (hA.j4 hS.j4)) ?_);rintro _ wc1 ⟨rfl,hBc1⟩;replace hS:=hS.km hBc1;refine V3 ?_;by_cases h0:tV A=0
 ·refine V1 ?_;obtain⟨h1,h2,h3,h4,h5⟩:=xp h0;have hr0:=hA.row 0 oO;have hc0:mX A=(A.getD 0 []).length:=rfl;have e1:OI A=if A.length≠mX A then 4 else 0:=ah oO
  rw[e1];refine J1 ?_;refine jp (ki rfl (hA.sl.j4 hS.j4) ⟨_,Tryz.underlying35⟩ ?_);refine J1 ?_;refine jp (kj (i:=0) rfl rfl (hA.sl.j4 hS.j4) oO dO lH (jq (kt (i:=0) undef rfl lQ (hA.sl.j4 hS.j4) dO rfl rfl (.inr rfl) (jp (ki rfl (hr0.j4 hS.j4) ⟨_,Tryz.underlying34⟩ ?_)))));refine V1 ?_;by_cases h6:A.length=mX A
  ·rw[ah oO];refine J2 ?_;refine jt ?_;refine kB rfl rfl ?_;exact⟨rfl,hS.j4⟩
  ·rw[aj h6];refine J2 ?_;refine jt ?_;refine kB rfl rfl ?_;exact⟨rfl,hS.j4⟩
 ·have e1:OI A=tV A:=aj h0;rw[e1];refine J3 ?_;refine jt ?_;refine kB rfl rfl ?_;exact⟨rfl,hS.j4⟩
theorem Am (q:Rat) (w:World):lU Tryz.prog 197 #[kW (j8 q)] w λr w'=>r= .bool (decide (q=0))/\Below w.heap.size w w':=by
 have hS:=St.init w;refine enter Tryz.func197 rfl Tryz.ntmps197 rfl ?_;refine jr ?_;refine jh (kZ (new:=j5 (j8 q)) rfl rfl hS ?_);intro b1 wz2 hS hBz2;refine J3 ?_;refine jp (sW rfl rfl ?_);refine J1 ?_;refine jt ?_;refine kB rfl rfl ?_;exact⟨bQ Value.bool (en.2 sw),hS.j4⟩
def RM (A:List (List RR)):Mx:=λi j=>toQ ((A.getD i []).getD j kP)
def Ms (k:Nat) (A:List (List RR)):Prop:=∀a∈A,RB k a
theorem Qa {k:Nat} {A:List (List RR)} (h:Ms k A) {i j:Nat} (hi:i<A.length) (hj:j<(A.getD i []).length):Lr ((A.getD i []).getD j kP)<=k:=h _ (kE A i [] hi) _ (kE _ j kP hj)
theorem Mk {k:Nat} {A:List (List RR)} (h:Ms k A) {i j:Nat} (hi:i<A.length) (hj:j<(A.getD i []).length):L (RM A i j)<=k:=dx (uA _) (Qa h hi hj)
abbrev qM (M:Mx):Nat->Nat->RR:=λi j=>j8 (M i j)
theorem Qw {α:Type} (l:List α) (x:α) (r:List α) {i:Nat} (h:l.length=i):(l++x::r)[i]?=some x:=by
 subst h;rw[cZ (aH _),ec];rfl
theorem Bp {α:Type} (l:List α) (x y:α) (r:List α) {i:Nat} (h:l.length=i):(l++x::r).set i y=l++y::r:=by
 subst h;rw[iX _ _ (aH _),ec];rfl
theorem S8 {α:Type} {enc:α->List Value} {e:TypeId} {size:Nat} {v:Value} {X:List α} {Lb:List kU} (h:Gl enc e size v X Lb) (hX:X≠ []):∃r:Rw α,r.X=X/\v=r.v/\Lb=[r.xO enc e]/\r.X.length<=r.cap/\r.cap<=9223372036854775807/\(r.X.flatMap enc++r.sp).length=r.cap*size:=by
 obtain⟨_,⟨_,h2,_⟩|⟨b,cap,sp,h1,h2,h3,h4,h5⟩⟩:=h
 ·exact absurd (gl.1 h2) hX
 ·exact⟨⟨b,cap,X,sp⟩,rfl,h1,h2,h3,by unfold Go.maxLen at h4;omega,h5⟩
theorem Ak {α:Type} {R:List (Rw α)} {i m:Nat} {f:Nat->Nat->α} (h:mx R i m f) {r:Rw α} (hX:r.X=ky m (f i)) (hc:m<=r.cap/\r.cap<=9223372036854775807):mx (R++[r]) (i+1) m f:=by
 have hg:∀a,(R++[r]).getD a ov=if a<i then R.getD a ov else if a=i then r else ov:=by
  intro a;rw[ap];by_cases e:a<i
  ·rw[aj e,dq (by rw[h.len];exact e),ap]
  ·rw[ah e,cZ (by rw[h.len];omega),h.len];by_cases e2:a=i
   ·rw[aj e2,e2,ec];rfl
   ·rw[ah e2,dk (by simp;omega)];rfl
 refine⟨by rw[aG,h.len];rfl,λa ha=> ?_,λa ha=> ?_⟩
 ·rw[hg];by_cases e:a<i
  ·rw[aj e];exact h.row a e
  ·obtain rfl:a=i:=oO;rw[ah e,aj rfl];exact hX
 ·rw[hg];by_cases e:a<i
  ·rw[aj e];exact h.cap a e
  ·obtain rfl:a=i:=oO;rw[ah e,aj rfl];exact hc
def F7 (R:List (Rw RR)):Prop:=∀r∈R,(r.X.flatMap j5++r.sp).length=r.cap*3
def kd:Value:= .slice none 0 0
theorem FX (n:Nat):rep n [kd]=List.replicate n kd:=by
 induction n with
 |zero=>rfl
 |succ n ih=>rw[wV,ih];rfl
theorem zU (v:Value) (A:List (List RR)) (vs:List Value) (m K:Nat) (w:World) (hA:rJ j5 3 w v A vs) (hn1:1<=A.length) (hn:A.length<=1000) (hm1:1<=m) (hm:m<=1000) (hev:∀i,i<A.length->(A.getD i []).length=m) (hB:Ms K A) (hK:K<=MX):
  lU Tryz.prog 141 #[v] w λr w'=>(∃bo R,r= .slice (some ⟨bo,0,none⟩) A.length A.length/\mx R A.length m (qM (RM A))/\F7 R/\St w w' (mB j5 32 34 bo R []))/\Below w.heap.size w w':=by
 have hM:MX=1099511627776:=rfl;obtain⟨n,hn'⟩:∃n,n=A.length:=⟨_,rfl⟩;rw[<-hn']at hn1 hn hev⊢;have hS:=St.init w;have hlen:=hA.len;refine enter Tryz.func141 rfl Tryz.ntmps141 rfl ?_;refine J2 ?_;refine jp (ki rfl (hA.sl.j4 hS.j4) ⟨_,Tryz.underlying35⟩ (jh (Av (n:=n) rfl rfl lH oO oO oO oO hS ?_)));intro bo wz1 hS hBz1;refine V1 ?_;replace hS:St w _ [(bo,34,rep n [kd])]:=hS;rw[FX]at hS;refine J1 ?_;refine jp (ki rfl (hA.sl.j4 hS.j4) ⟨_,Tryz.underlying35⟩ ?_);refine J1 ?_;refine jb ?_;refine kx (λρ w'=>ρ 3= .slice (some ⟨bo,0,none⟩) n n/\∃R,mx R n m (qM (RM A))/\F7 R/\St w w' (mB j5 32 34 bo R [])) ?_ ?_
 ·refine ja ?_;refine ku (σ:=Nat) (λi ρ w'=>i<=n/\ρ 3= .slice (some ⟨bo,0,none⟩) n n/\ρ 11=v/\ρ 12=iB n/\ρ 13=iB i/\∃R,mx R i m (qM (RM A))/\F7 R/\St w w' ((bo,34,R.map Rw.v++List.replicate (n-i) kd)::R.map (Rw.xO j5 32))) (λi=>n-i) 0
   ⟨aB _,rfl,rfl,vi rfl oO,rfl,[],⟨rfl,λi hi=>absurd hi (aW _),λi hi=>absurd hi (aW _)⟩,(λ_ h=>by cases h),hS⟩ ?_
  clear hS;rintro i ρ w2 ⟨hi,h3,h11,h12,h13,R,hR,hF,hS⟩;refine V1 ?_;by_cases hlt:i<n
  ·refine V1 ?_;have hri:=hA.row i oO;have hli:=hev i hlt;obtain⟨row,hrow⟩:=jz (A.getD i []);obtain⟨vr,hvr⟩:=jz (vs.getD i undef);rw[<-hrow]at hri hli;rw[<-hvr]at hri;obtain⟨d,hd⟩:∃d,n-i=d+1:=⟨n-i-1,oO⟩;rw[hd,fU]at hS;refine J1 ?_;refine jp (kj (i:=i) h11 h13 (hA.sl.j4 hS.j4) oO dO lH (jq (kt (i:=i) undef rfl lQ (hA.sl.j4 hS.j4) dO rfl rfl (.inr rfl) ?_)));refine V2 ?_;rw[<-hvr];refine jr ?_;refine jp (ko rfl (jp (ki rfl (hri.j4 hS.j4) ⟨_,Tryz.underlying34⟩ ?_)));refine J1 ?_;refine jb ?_;refine kx (λρ w'=>ρ 3= .slice (some ⟨bo,0,none⟩) n n/\ρ 11=v/\ρ 12=iB n/\ρ 13=iB i/\∃vi_ Li,Gl j5 32 3 vi_ (ky m (qM (RM A) i)) Li/\St w w' (((bo,34,R.map Rw.v++vi_::List.replicate d kd)::R.map (Rw.xO j5 32))++Li)) ?_ ?_
   ·refine ja ?_;refine ku (σ:=Nat) (λj ρ w'=>j<=m/\ρ 3= .slice (some ⟨bo,0,none⟩) n n/\ρ 4=iB i/\ρ 11=v/\ρ 12=iB n/\ρ 13=iB i/\ρ 18=vr/\ρ 19=iB m/\ρ 20=iB j/\∃vi_ Li,Gl j5 32 3 vi_ (ky j (qM (RM A) i)) Li/\St w w' (((bo,34,R.map Rw.v++vi_::List.replicate d kd)::R.map (Rw.xO j5 32))++Li)) (λj=>m-j) 0
     ⟨aB _,jY,rfl,jY,jY,jY,rfl,vi rfl oO,rfl,kd,[],Gl.nil _ _ _,by rw[aU];exact hS⟩ ?_
    clear hS;rintro j ρ w3 ⟨hj,h3,h4,h11,h12,h13,h18,h19,h20,vi_,Li,hG,hS⟩;have htl:=j9 j (qM (RM A) i);refine V1 ?_;by_cases hjl:j<m
    ·refine V1 ?_;have hLr:=Qa hB (i:=i) (j:=j) oO (by rw[<-hrow,hli];exact hjl);rw[<-hrow]at hLr;obtain⟨r,hr⟩:=jz (row.getD j kP);have hq:j8 (RM A i j)=fx r:=by rw[hr,hrow];rfl
     rw[<-hr]at hLr;have hlenR:(R.map Rw.v).length=i:=by rw[aS,hR.len]
     have hfit:i<(R.map Rw.v++vi_::List.replicate d kd).length:=by rw[aG,hlenR,bj];omega
     refine jr ?_;refine jp (kj (i:=j) h18 h20 (hri.j4 hS.j4) oO dO kK (jq (kt (i:=j) kP rfl kf (hri.j4 hS.j4) dO rfl rfl (.inl rfl) ?_)));refine J1 ?_;intro b7 wz2 hS hBz2;refine J1 ?_;intro wz3 hS;refine ja ?_;rw[<-hr]at hS;replace hS:St w _ ((b7,32,j5 r)::(((bo,34,R.map Rw.v++vi_::List.replicate d kd)::R.map (Rw.xO j5 32))++Li)):=hS;refine J1 ?_;refine jh (j6 Tryz.call65 rfl (HJ r _ oO) ?_);rintro _ wc4 ⟨rfl,hBc4⟩;replace hS:=hS.km hBc4;refine V1 ?_;refine kx (λρ w'=>ρ 3= .slice (some ⟨bo,0,none⟩) n n/\ρ 4=iB i/\ρ 7=pB b7/\ρ 11=v/\ρ 12=iB n/\ρ 13=iB i/\ρ 18=vr/\ρ 19=iB m/\ρ 20=iB j/\St w w' (((b7,32,j5 (fx r))::(bo,34,R.map Rw.v++vi_::List.replicate d kd)::R.map (Rw.xO j5 32))++Li)) ?_ ?_
     ·by_cases hv:Ka r
      ·refine lx rfl (by rw[ao hv];rfl) ?_;refine ja ?_;have e:fx r=r:=FK hv;rw[e];exact⟨_,rfl,jY,jY,rfl,jY,jY,jY,jY,jY,jY,hS⟩
      ·refine k9 rfl (by rw[ae hv];rfl) ?_;refine ja ?_;have e:fx r=kP:=by unfold fx;rw[F8 hv,ol];rfl
       rw[e];refine jr ?_;refine jp (kT rfl px ?_);refine J1 ?_;intro wz5 hS;refine ja ?_;exact⟨_,rfl,jY,jY,rfl,jY,jY,jY,jY,jY,jY,hS⟩
     clear hS;rintro ρ w4 ⟨h3,h4,h7,h11,h12,h13,h18,h19,h20,hS⟩;refine ja ?_;refine kC [jo 0,jo 1,jo 2,jo 3,jo 4,ju 5,ju 6,jv 7,jw 8,jo 9,jw 10] kR kR hS ?_;intro wz6 hS hBz6;refine J4 ?_;refine jl rfl (kD (i:=i) rfl rfl oO dO lH (jm rfl (Kc (k:=1) rfl lQ hS rfl (by rw[bZ,eI];exact Qw _ _ _ hlenR) ?_)));refine J1 ?_;refine jn rfl (mD (vs:=[kW (fx r)]) rfl kK rfl dD dD dD (by simp[Value.cells,kW]) rfl hS ?_);intro b35 wz7 hS hBz7;refine⟨hBz7,?_⟩;refine jx rfl (mf [fx r] rfl rfl kK dD hG hS rfl rfl ks (wE [fx r]) dL dL ?_);intro va8 La8 wa8 hG hS hga8;refine jl rfl (kD (i:=i) rfl rfl oO dO lH (jx rfl (nM (k:=1) rfl rfl lQ hS rfl (by rw[bZ,eI];exact hfit) (by obtain⟨a,c,rfl⟩:=hG.len;rfl) ?_)));intro wz9 hS;refine ja ?_;rw[<-hq,<-om]at hG;refine V2 ?_;refine⟨j+1,_,rfl,⟨hjl,jY,jY,jY,jY,jY,jY,jY,vi rfl oO,_,_,hG,?_⟩,oO⟩;have hS2:=hS.drop (ab _ _);rw[bZ,eI,Bp _ _ _ _ hlenR]at hS2;exact hS2
    ·refine J1 ?_;refine jt ?_;obtain rfl:j=m:=oO;exact⟨_,rfl,h3,h11,h12,h13,vi_,Li,hG,hS⟩
   clear hS;rintro ρ w3 ⟨h3,h11,h12,h13,vi_,Li,hG,hS⟩;refine V2 ?_;obtain⟨r,hX,rfl,rfl,hc1,hc2,hc3⟩:=S8 hG (by intro e;have:=bQ List.length e;rw[j9]at this;simp at this;omega);have hR':=Ak hR hX ⟨by rw[hX,j9]at hc1;exact hc1,hc2⟩;refine⟨i+1,_,rfl,⟨hlt,jY,jY,jY,vi rfl oO,R++[r],hR',(λx hx=>(bO.1 hx).elim (hF x) λg=>by rw[aZ.1 g];exact hc3),?_⟩,oO⟩;rw[bH,bH,show n-(i+1)=d by omega,aI];exact hS
  ·refine J1 ?_;refine jt ?_;obtain rfl:i=n:=oO;rw[ec,jy,aU]at hS;refine⟨_,rfl,h3,R,hR,hF,?_⟩;unfold mB;rw[aU];exact hS
 clear hS;rintro ρ w2 ⟨h3,R,hR,hF,hS⟩;refine J2 ?_;refine jt ?_;refine kB rfl rfl ?_;exact⟨⟨bo,R,rfl,hR,hF,hS⟩,hS.j4⟩
def VX (X:List RR) (k:Nat):Rat:=toQ (X.getD k kP)
theorem yJ {n:Nat} (f:Nat->Rat) (i:Nat) (q:Rat):(ky n λj=>j8 (f j)).set i (j8 q)=ky n λj=>j8 (if j=i then q else f j):=by
 rw[nt];exact kF λj _=>by by_cases h:j=i<;>simp only[h,gZ,jH]
end Go.Proofs.YtoeiejliehgopaaGreatDoor
namespace Go.Sx
open Go Go.RowKit Go.Proofs.YtoeiejliehgopaaGreatDoor
section
variable {P : Program} {N : Nat} {ρ : Nat → Value} {w0 w w' : World} {d : Option Tmp} {ty : TypeId} {pos : String} {aft : Array Edge} {g : Option (Nat × Bool)} {x y z : Operand} {t t' e : TypeId} {H : List kU} {k b o : Nat} {v : Value} {K : Value → Prop} {K2 : Value → World → Prop}
  {α : Type} {enc : α → List Value} {size : Nat} {R : List (Rw α)} {tR tS : TypeId} {bo : Nat} {zz : List Value}
theorem K3 (pre:List kU) (T:List kU) (k:Nat):(pre++T)[pre.length+k]?=T[k]?:=by
 rw[cZ oO];congr 1;omega
theorem Pw (pre:List kU) (T:List kU) (k:Nat) (u:kU):(pre++T).set (pre.length+k) u=pre++T.set k u:=by
 rw[iX _ _ oO];congr 2;omega
theorem nh (pre:List kU) {i:Nat} (hx:ev N ρ x= .pointer (some ⟨bo,o,none⟩)) (ht:lO P t=some (1,false,zz)) (hS:St w0 w (pre++mB enc tR tS bo R H)) (ho:o=i) (hi:i<R.length) (h:K (R.getD i ov).v):qN P N ρ w ⟨d,.load t x,ty,pos,aft,g⟩ K:=by
 subst ho;exact Kc (k:=pre.length+0) hx ht hS (by rw[K3];rfl) (Cb hi) h
theorem qW (pre:List kU) {i j:Nat} {agg:Bool} (dd:α) (hu:∀x,(enc x).length=size) (hx:ev N ρ x= .pointer (some ⟨b,o,none⟩)) (ht:lO P t=some (size,agg,zz)) (hS:St w0 w (pre++mB enc tR tS bo R H)) (hb:(R.getD i ov).b=b) (hi:i<R.length)
  (ho:o=j*size) (hj:j<(R.getD i ov).X.length) (hv:RY agg (enc ((R.getD i ov).X.getD j dd))=v) (hagg:agg=true\/size=1) (h:K v):qN P N ρ w ⟨d,.load t x,ty,pos,aft,g⟩ K:=by
 subst hb;exact Cp (k:=pre.length+(i+1)) dd hu hx ht hS (by rw[K3];exact NL hi) ho hj hv hagg h
theorem x9 (pre:List kU) {i j:Nat} {agg:Bool} (u:α) (hu:∀x,(enc x).length=size) (hx:ev N ρ x= .pointer (some ⟨b,o,none⟩)) (hy:ev N ρ y=v) (ht:lO P t=some (size,agg,zz)) (hS:St w0 w (pre++mB enc tR tS bo R H)) (hb:(R.getD i ov).b=b) (hi:i<R.length)
  (ho:o=j*size) (hj:j<(R.getD i ov).X.length) (hv:v.cells.toList=enc u) (h1:(enc u).all (·.oneCell')=true) (h:∀w',St w0 w' (pre++mB enc tR tS bo (R.set i ((R.getD i ov).put j u)) H)->K2 undef w'):pd P N ρ w ⟨d,.store t x y,ty,pos,aft,g⟩ K2:=by
 subst hb;refine B3 (k:=pre.length+(i+1)) u hu hx hy ht hS (by rw[K3];exact NL hi) ho hj hv h1 λw' hS'=> ?_;rw[Pw,Tu j u hi]at hS';exact h w' hS'
theorem rY (pre:List kU) {cs:List Value} {T:List kU} {i:Nat} (hx:ev N ρ x= .pointer (some ⟨bo,o,none⟩)) (hy:ev N ρ y=v) (ht:lO P t=some (1,false,zz)) (hS:St w0 w (pre++(bo,tS,cs)::T)) (ho:o=i) (hi:i<cs.length) (h1:v.oneCell'=true) (h:∀w',St w0 w' (pre++(bo,tS,cs.set i v)::T)->K2 undef w'):
  pd P N ρ w ⟨d,.store t x y,ty,pos,aft,g⟩ K2:=by
 subst ho;refine nM (k:=pre.length+0) hx hy ht hS (by rw[K3];rfl) hi h1 λw' hS'=> ?_;rw[Pw]at hS';exact h w' hS'
theorem Fs (L:List kU):mB enc tR tS bo R H++L=mB enc tR tS bo R (H++L):=by unfold mB;rw[bW,aI]
theorem Fg (pre:List kU) {i j:Nat} (hi:i<R.length) (hj:j<R.length) (h:St w0 w (pre++(bo,tS,((R.map Rw.v).set i (R.getD j ov).v).set j (R.getD i ov).v)::(R.map (Rw.xO enc tR)++H))):St w0 w (pre++mB enc tR tS bo (BJ R i j) H):=by
 have e:((R.map Rw.v).set i (R.getD j ov).v).set j (R.getD i ov).v=(BJ R i j).map Rw.v:=by
  unfold BJ;rw[g9,g9]
 rw[e]at h;refine h.perm (bP _ (List.Perm.cons _ (bU _ (List.Perm.map _ ?_))));unfold BJ;rw[nu R ov hi,nu R ov hj];exact(List.set_set_perm hi hj).symm
theorem Aq (r:Rw α):r.v.oneCell'=true:=rfl
end
end Go.Sx
namespace Go.Proofs.YtoeiejliehgopaaGreatDoor
open Go Go.RowKit Go.Sx
def xR (M:Mx) (i r:Nat) (x:Rat) (k a b:Nat):Rat:=if a=i/\b<k then M i b-x*M r b else M a b
theorem EU {P:Program} {N:Nat} {ρ:Nat->Value} {w:World} {fn:Func} {R:Value->World->Prop} (hr:fn.results= #[]) (h:R (.tuple #[]) w):
  bodyPost P fn (λe w'=>∃v,e= .returned v/\R v w') .ret (act N ρ) w:=
 gB (results_none hr _ _ _) rfl ⟨_,rfl,h⟩
theorem MC {R:List (Rw RR)} {n m:Nat} {M:Mx} {w0:World} {bo:Nat} {H:List kU} (i r:Nat) (x:Rat) (K:Nat) (w:World) (hR:mx R n m (qM M)) (hm:m<=1000) (hi:i<n) (hr:r<n) (hir:i≠r) (hL:∀j,j<m->L (M i j)<=K/\L (M r j)<=K) (hx:L x<=K) (hK:4*K+4<=MX) (hS:St w0 w (mB j5 32 34 bo R H)):
  lU Tryz.prog 198 #[(R.getD i ov).v,(R.getD r ov).v,kW (j8 x)] w λv w'=>v= .tuple #[]/\∃R',mx R' n m (qM λa b=>if a=i then M i b-x*M r b else M a b)/\St w0 w' (mB j5 32 34 bo R' H):=by
 have hM:MX=1099511627776:=rfl;have hvi:=hR.v hi;have hvr:=hR.v hr;obtain⟨bi,hbi⟩:=jz ((R.getD i ov).b);obtain⟨br,hbr⟩:=jz ((R.getD r ov).b);obtain⟨ci,hci⟩:=jz ((R.getD i ov).cap);obtain⟨cr,hcr⟩:=jz ((R.getD r ov).cap);rw[<-hbi,<-hci]at hvi;rw[<-hbr,<-hcr]at hvr;rw[hvi,hvr];refine enter Tryz.func198 rfl Tryz.ntmps198 rfl ?_;refine jr ?_;refine jh (kZ (new:=j5 (j8 x)) rfl rfl hS ?_);intro b5 wz1 hS hBz1;refine ja ?_;replace hS:St w0 _ ([(b5,32,j5 (j8 x))]++mB j5 32 34 bo R H):=hS;refine J3 ?_;refine jb ?_;refine kx (λρ w'=>∃R',mx R' n m (qM (xR M i r x m))/\St w0 w' ([(b5,32,j5 (j8 x))]++mB j5 32 34 bo R' H)) ?_ ?_
 ·refine ja ?_;refine ku (σ:=Nat) (λk ρ w'=>k<=m/\ρ 0= .slice (some ⟨bi,0,none⟩) m ci/\ρ 1= .slice (some ⟨br,0,none⟩) m cr/\ρ 5=pB b5/\ρ 8=iB m/\ρ 9=iB k/\
    ∃R',(R'.getD i ov).b=bi/\(R'.getD r ov).b=br/\mx R' n m (qM (xR M i r x k))/\St w0 w' ([(b5,32,j5 (j8 x))]++mB j5 32 34 bo R' H)) (λk=>m-k) 0
   ⟨aB _,rfl,rfl,rfl,rfl,rfl,R,hbi.symm,hbr.symm,hR.congr λa _ b _=>by show j8 (M a b)=j8 (xR M i r x 0 a b);unfold xR;rw[ah oO],hS⟩ ?_
  clear hS;rintro k ρ w2 ⟨hk,h0,h1,h5,h8,h9,R',hb1,hb2,hR',hS⟩;have hli:i<R'.length:=by rw[hR'.len];exact hi
  have hlr:r<R'.length:=by rw[hR'.len];exact hr
  refine V1 ?_;by_cases hlt:k<m
  ·refine V1 ?_;have hxi:k<(R'.getD i ov).X.length:=by rw[hR'.xQ hi];exact hlt
   have hxr:k<(R'.getD r ov).X.length:=by rw[hR'.xQ hr];exact hlt
   have hgi:(R'.getD i ov).X.getD k kP=j8 (M i k):=by rw[hR'.get hi hlt];show j8 (xR M i r x k i k)=_;unfold xR;rw[ah oO]
   have hgr:(R'.getD r ov).X.getD k kP=j8 (M r k):=by rw[hR'.get hr hlt];show j8 (xR M i r x k r k)=_;unfold xR;rw[ah oO]
   obtain⟨hL1,hL2⟩:=hL k hlt;have hLm:=zM x (M r k);refine J4 ?_;refine jp (kD (i:=k) rfl rfl oO dO kK (jq (qW [_] (i:=r) (j:=k) kP ks rfl kf hS hb2 hlr oO hxr rfl (.inl rfl) ?_)));rw[hgr];refine jh (j6 Tryz.call197 rfl (Am _ _) ?_);rintro _ wc2 ⟨rfl,hBc2⟩;replace hS:=hS.km hBc2;refine V1 ?_;by_cases hz:M r k=0
   ·refine lx rfl (by rw[ao hz];rfl) ?_;refine V2 ?_;refine⟨k+1,_,rfl,⟨hlt,jY,jY,jY,jY,vi rfl oO,R',hb1,hb2,hR'.congr λa _ b _=> ?_,hS⟩,oO⟩;show j8 (xR M i r x k a b)=j8 (xR M i r x (k+1) a b);congr 1;unfold xR;by_cases g:a=i/\b<k
    ·rw[aj g,aj oO]
    ·rw[ah g];by_cases g2:a=i/\b<k+1
     ·obtain rfl:b=k:=oO;rw[aj g2,hz,g2.1,dR,hJ,Rat.neg_zero,g8]
     ·rw[ah g2]
   ·have hmul:=λw=>pu (j8 x) (j8 (M r k)) w (by rw[Lr_ofQ,Lr_ofQ];omega);rw[toQ_ofQ,toQ_ofQ]at hmul;have hsub:=λw=>mA (j8 (M i k)) (j8 (x*M r k)) w (by rw[Lr_ofQ,Lr_ofQ];omega);rw[toQ_ofQ,toQ_ofQ]at hsub;refine k9 rfl (by rw[ae hz];rfl) ?_;refine ja ?_;refine kC [jo 0,jo 1,jo 2,jo 3,jo 4,ju 5,ju 6,jo 7,jo 8,jo 9,ju 10,jv 11,jv 12,jo 13,jw 14] kR kR hS ?_;intro wz3 hS hBz3;refine J4 ?_;refine jl rfl (kD (i:=k) rfl rfl oO dO kK (jm rfl (qW [_] (i:=i) (j:=k) kP ks rfl kf hS hb1 hli oO hxi rfl (.inl rfl) ?_)));refine J3 ?_;refine jl rfl (kD (i:=k) rfl rfl oO dO kK (jm rfl (qW [_] (i:=r) (j:=k) kP ks rfl kf hS hb2 hlr oO hxr rfl (.inl rfl) ?_)));rw[hgi,hgr];refine jn rfl (j6 Tryz.call11 rfl (hmul _) ?_);rintro _ wc4 ⟨rfl,hBc4⟩;replace hS:=hS.km hBc4;refine⟨hBc4,?_⟩;refine jn rfl (j6 Tryz.call16 rfl (hsub _) ?_);rintro _ wc5 ⟨rfl,hBc5⟩;replace hS:=hS.km hBc5;refine⟨hBc5,?_⟩;refine jl rfl (kD (i:=k) rfl rfl oO dO kK (jx rfl (x9 [_] (i:=i) (j:=k) (j8 (M i k-x*M r k)) ks rfl rfl kf hS hb1 hli oO hxi rfl rfl ?_)));intro wz6 hS;refine V2 ?_;refine⟨k+1,_,rfl,⟨hlt,jY,jY,jY,jY,vi rfl oO,_,?_,?_,(hR'.put hi k (j8 (M i k-x*M r k))).congr λa _ b _=> ?_,hS⟩,oO⟩
    ·rw[ni _ _ _ hli,aj rfl];exact hb1
    ·rw[ni _ _ _ hli,ah (λe=>hir e.symm)];exact hb2
    ·show(if a=i/\b=k then j8 (M i k-x*M r k)else j8 (xR M i r x k a b))=j8 (xR M i r x (k+1) a b);unfold xR;by_cases g:a=i/\b=k
     ·rw[aj g,aj oO,g.2]
     ·rw[ah g];by_cases g2:a=i/\b<k
      ·rw[aj g2,aj oO]
      ·rw[ah g2,ah oO]
  ·refine J1 ?_;refine jt ?_;obtain rfl:k=m:=oO;exact⟨_,rfl,R',hR',hS⟩
 clear hS;rintro ρ w2 ⟨R',hR',hS⟩;refine ja ?_;exact pU rfl ⟨rfl,R',hR'.congr λa _ b hb=>by
  show j8 (xR M i r x m a b)=j8 (if a=i then M i b-x*M r b else M a b);unfold xR;congr 1;by_cases g:a=i
  ·rw[aj ⟨g,hb⟩,aj g]
  ·rw[ah (λe=>g e.1),ah g],hS.drop (ab _ _)⟩
def UL (M:Mx) (c n r:Nat):Int:=if pv M c n r<n then(pv M c n r:Int)else-1
theorem LJ (v:Value) (vs:List Value) (n m:Nat) (M:Mx) (r c:Nat) (w:World) (hA:rJ j5 3 w v (ws n m (qM M)) vs) (hr:r<=n) (hc:c<m):
  lU Tryz.prog 196 #[v,.int .i64 r,.int .i64 c] w λu w'=>u= .int .i64 (UL M c n r)/\Below w.heap.size w w':=by
 have hmx:=hA.sl.maxLen;have hlen:=hA.len;rw[mQ]at hlen;obtain⟨_,hp2,_,_⟩:=po M c hr;have hS:=St.init w;refine enter Tryz.func196 rfl Tryz.ntmps196 rfl ?_;refine J3 ?_;refine jb ?_;refine kx (λρ w'=>UL M c n r= -1/\St w w' []) ?_ ?_
 ·refine ja ?_;refine ku (σ:=Nat) (λi ρ w'=>r<=i/\i<=n/\(∀l,r<=l->l<i->M l c=0)/\ρ 0=v/\ρ 2=iB c/\ρ 7=iB i/\St w w' []) (λi=>n-i) r
   ⟨aH _,hr,λl h1 h2=>absurd h2 oO,rfl,rfl,rfl,hS⟩ ?_
  clear hS;rintro i ρ w2 ⟨hri,hi,hz,h0,h2,h7,hS⟩;refine J2 ?_;refine jp (ki rfl (hA.sl.j4 hS.j4) ⟨_,Tryz.underlying35⟩ ?_);refine V1 ?_;by_cases hlt:i<n
  ·refine V1 ?_;have hrow:=hA.row i (by rw[mQ];exact hlt);rw[pD _ hlt]at hrow;have htl:=j9 m (qM M i);have hg:(ky m (qM M i)).getD c kP=j8 (M i c):=kz _ _ hc;refine J2 ?_;refine jp (kj (i:=i) rfl rfl (hA.sl.j4 hS.j4) oO dO lH (jq (kt (i:=i) undef rfl lQ (hA.sl.j4 hS.j4) dO rfl rfl (.inr rfl) ?_)));refine J1 ?_;refine jp (kj (i:=c) rfl rfl (hrow.j4 hS.j4) oO dO kK (jq (kt (i:=c) kP rfl kf (hrow.j4 hS.j4) dO rfl rfl (.inl rfl) ?_)));rw[hg];refine jh (j6 Tryz.call197 rfl (Am _ _) ?_);rintro _ wc1 ⟨rfl,hBc1⟩;replace hS:=hS.km hBc1;refine V1 ?_;by_cases hne:M i c=0
   ·refine lx rfl (by rw[ao hne];rfl) ?_;refine V3 ?_;exact⟨i+1,_,rfl,⟨oO,hlt,λl h1 h2=>by
     by_cases e:l=i
     ·rw[e];exact hne
     ·exact hz l h1 oO,jY,jY,vi rfl oO,hS⟩,oO⟩
   ·refine k9 rfl (by rw[ae hne];rfl) ?_;refine ja ?_;have hp:pv M c n r=i:=FI hri hi hz λ_=>hne;have he:UL M c n r=i:=by unfold UL;rw[hp,aj hlt]
    rw[he];refine J2 ?_;refine jt ?_;refine kB rfl rfl ?_;exact⟨rfl,hS.j4⟩
  ·refine J1 ?_;refine jt ?_;obtain rfl:i=n:=oO;have hp:pv M c i r=i:=FI hri hi hz λh=>absurd h (dH _);exact⟨_,rfl,by unfold UL;rw[hp,ah (dH _)],hS⟩
 clear hS;rintro ρ w2 ⟨he,hS⟩;refine ja ?_;rw[he];refine J1 ?_;refine jt ?_;refine kB rfl rfl ?_;exact⟨rfl,hS.j4⟩
end Go.Proofs.YtoeiejliehgopaaGreatDoor
