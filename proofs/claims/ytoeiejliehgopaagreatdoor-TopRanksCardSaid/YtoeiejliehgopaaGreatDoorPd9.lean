import Derived.Test.YtoeiejliehgopaaGreatDoorPd8
set_option maxRecDepth 20000
set_option maxHeartbeats 8000000
namespace Go.Proofs.YtoeiejliehgopaaGreatDoor
open Go Go.RowKit Go.Sx
theorem fY {f g:Nat->Rat}:∀ {n:Nat},(∀i,i<n->f i<=g i)->ay f n<=ay g n
 |0,_=>Rat.le_refl
 |n+1,h=>by
  have a:=fY (n:=n) λi hi=>h i oO;have b:=h n oO;show ay f n+f n<=ay g n+g n;grind
theorem fg {f:Nat->Rat} {n:Nat} (h:∀i,i<n->0<=f i):0<=ay f n:=by
 have:=fY (f:=λ_=>0) h;rwa[cj λ_ _=>rfl]at this
theorem fQ (f g:Nat->Rat) (n:Nat):ay (λi=>f i+g i) n=ay f n+ay g n:=by
 have:=eu f g 1 n;rw[Rat.one_mul]at this;rw[<-this];exact aJ λi _=>by rw[Rat.one_mul]
theorem gj (f g:Nat->Rat) (n:Nat):ay (λi=>f i-g i) n=ay f n-ay g n:=by
 have:=eu f g (-1) n;have e:ay (λi=>f i-g i) n=ay (λi=>f i+ -1*g i) n:=aJ λi _=>by grind
 rw[e,this];grind
theorem iC (a:Nat->Nat->Rat) (m:Nat):∀n,ay (λi=>ay (λj=>a i j) m) n=ay (λj=>ay (λi=>a i j) n) m
 |0=>(cj λ_ _=>rfl).symm
 |n+1=>by
  show ay _ n+_=_;rw[iC a m n,<-fQ];rfl
theorem r9 {f:Nat->Rat}:∀ {n:Nat},(∀i,i<n->0<=f i)->∀i,i<n->f i<=ay f n
 |n+1,h,i,hi=>by
  have a:=fg (n:=n) λi hi=>h i oO;have b:=h n oO;show f i<=ay f n+f n;by_cases e:i=n
  ·rw[e];grind
  ·have:=r9 (n:=n) (λi hi=>h i oO) i oO;grind
theorem te {f:Nat->Rat} {n:Nat} (h:∀i,i<n->0<=f i) (h0:ay f n<=0):∀i,i<n->f i=0:=λi hi=>by
 have a:=r9 h i hi;have b:=h i hi;grind
theorem fc {a b:Rat} (ha:0<=a) (hb:0<=b):0<=a*b:=Rat.mul_nonneg ha hb
theorem xl {a b:Rat} (ha:0<a) (hb:0<b):0<a*b:=Rat.mul_pos ha hb
theorem gu {a b c:Rat} (h:a<=b) (hc:0<=c):c*a<=c*b:=Rat.mul_le_mul_of_nonneg_left h hc
theorem yv {a b:Rat} (h:a*b=0) (hb:0<b):a=0:=by
 rcases Rat.mul_eq_zero.1 h with h|h
 ·exact h
 ·exact absurd h (ow hb)
structure M7 (M:Mx) (n:Nat):Prop where
 nn:∀i,i<n->∀j,j<n->0<=M i j
 cs:∀j,j<n->jW M j n<=1
section
variable {M : Mx} {n : Nat} {u : Nat → Rat} {F : List Bool}
theorem FJ (M:Mx) (n:Nat) (u:Nat->Rat):ay (λi=>dS M u n i) n=ay (λj=>jW M j n*u j) n:=by
 show ay (λi=>ay (λj=>M i j*u j) n) n=_;rw[iC];refine aJ λj _=> ?_;have e:ay (λi=>M i j*u j) n=ay (λi=>u j*M i j) n:=aJ λi _=>Rat.mul_comm _ _;rw[e,jg,Rat.mul_comm];rfl
theorem P0 (h:M7 M n) (hu:∀i,i<n->0<=u i) (hle:∀i,i<n->u i<=dS M u n i):
  (∀i,i<n->dS M u n i=u i)/\(∀c,c<n->0<u c->jW M c n=1)/\∀a,a<n->u a=0->∀c,c<n->0<u c->M a c=0:=by
 have e:=FJ M n u;have hp:∀i,i<n->0<=dS M u n i-u i:=λi hi=>by have:=hle i hi;grind
 have hq:∀j,j<n->0<=u j-jW M j n*u j:=λj hj=>by
  have:=fc (hu j hj) (show 0<=1-jW M j n by have:=h.cs j hj;grind);grind
 have e1:=gj (λi=>dS M u n i) u n;have e2:=gj u (λj=>jW M j n*u j) n;have z1:=te hp (by have:=fg hq;grind);have z2:=te hq (by have:=fg hp;grind);refine⟨λi hi=>by have:=z1 i hi;grind,λc hc hc0=> ?_,λa ha h0 c hc hc0=> ?_⟩
 ·have:=z2 c hc;have:=yv (a:=1-jW M c n) (b:=u c) (by grind) hc0;grind
 ·have h1:=z1 a ha;have h2:=te (f:=λj=>M a j*u j) (n:=n) (λj hj=>fc (h.nn a ha j hj) (hu j hj)) (by
   show dS M u n a<=0;grind) c hc
  exact yv h2 hc0
theorem Kf {i:Nat} (hi:i<n) (S:Nat->Prop) (h0:S i) (hc:∀a c,a<n->c<n->S c->0<M a c->S a) {k:Nat} (hk:k∈lU M n i):S k:=by
 have h:=(lO.1 hk).2;induction h with
 |base j h=>rw[(yW hi j).1 h];exact h0
 |step a b h1 ha hb hm ih=>exact hc b a hb ha (ih (lO.2 ⟨ha,h1⟩)) hm
theorem vH:∀ {k:Nat},k<=n->iW M n F k=[]->∀i,i<k->F.getD i false=true->(lU M n i).any (Bd M n)=true
 |k+1,hk,h,i,hi,hF=>by
  unfold iW at h;split at h
  ·exact absurd h (Ky oO)
  ·next g=>
   by_cases e:i=k
   ·subst e;cases ha:(lU M n i).any (Bd M n)with
    |true=>rfl
    |false=>exact absurd ⟨hF,ha,.inl h⟩ g
   ·exact vH oO h i oO hF
theorem uU:∀ {k:Nat},k<=n->iW M n F k≠ []->∃i,i<k/\iW M n F k=lU M n i/\(lU M n i).any (Bd M n)=false/\∀j,j<k->F.getD j false=true->(lU M n j).any (Bd M n)=false->(iW M n F k).length<=(lU M n j).length
 |0,_,h=>absurd rfl h
 |k+1,hk,h=>by
  unfold iW at h⊢;split at h
  ·next g=>
   rw[if_pos g];refine⟨k,oO,rfl,g.2.1,λj hj hF ha=> ?_⟩;by_cases e:j=k
   ·rw[e];exact Nat.le_refl _
   ·by_cases e2:iW M n F k=[]
    ·have:=vH oO e2 j oO hF;rw[this]at ha;cases ha
    ·obtain⟨_,_,_,_,h4⟩:=uU oO e2;have h5:=h4 j oO hF ha;rcases g.2.2 with g1|g1
     ·exact absurd g1 e2
     ·omega
  ·next g=>
   rw[if_neg g];obtain⟨i,h1,h2,h3,h4⟩:=uU oO h;refine⟨i,oO,h2,h3,λj hj hF ha=> ?_⟩;by_cases e:j=k
   ·subst e;have:¬((lU M n j).length<(iW M n F j).length):=λhlt=>g ⟨hF,ha,.inr hlt⟩;omega
   ·exact h4 j oO hF ha
theorem AC {n i:Nat} (h:i<n):(List.replicate n true).getD i false=true:=by
 rw[List.getD_eq_getElem?_getD,List.getElem?_replicate,if_pos h];rfl
theorem Qx (h:M7 M n) (hu:∀i,i<n->0<=u i) (hle:∀i,i<n->u i<=dS M u n i) {i:Nat} (hi:i<n) (h0:0<u i):(lU M n i).any (Bd M n)=false/\∀k∈lU M n i,k<n/\0<u k:=by
 obtain⟨_,m2,m3⟩:=P0 h hu hle;have hc:∀k∈lU M n i,k<n/\0<u k:=λk hk=>Kf hi (λk=>k<n/\0<u k) ⟨hi,h0⟩ (λa c ha hc hS hm=>⟨ha,by
  have h1:=hu a ha;by_cases e:u a=0
  ·have:=m3 a ha e c hc hS.2;rw[this]at hm;exact absurd hm (Rat.lt_irrefl)
  ·grind⟩) hk
 refine⟨?_,hc⟩;rw[List.any_eq_false];intro k hk;obtain⟨a,b⟩:=hc k hk;unfold Bd;rw[m2 k a b];decide
theorem Jw (h:M7 M n) (hb:iW M n (List.replicate n true) n=[]) (hu:∀i,i<n->0<=u i) (hle:∀i,i<n->u i<=dS M u n i):∀i,i<n->u i=0:=λi hi=>by
 have h1:=hu i hi;by_cases e:u i=0
 ·exact e
 ·have a:=(Qx h hu hle hi (by grind)).1;rw[vH (Nat.le_refl _) hb i hi (AC hi)]at a;cases a
theorem Dq {p q:Nat->Bool}:∀(l:List Nat),(∀k∈l,p k=true->q k=true)->(l.filter q).length<=(l.filter p).length->∀k∈l,q k=true->p k=true
 | [],_,_=>λ_ h=>by cases h
 |a::l,h,hl=>by
  have h1:∀k∈l,p k=true->q k=true:=λk hk=>h k (List.mem_cons_of_mem _ hk);have mono:(l.filter p).length<=(l.filter q).length:=by
   clear hl h;induction l with
   |nil=>exact Nat.le_refl _
   |cons b l ih=>
    have ih:=ih λk hk=>h1 k (List.mem_cons_of_mem _ hk);have hb:=h1 b (List.mem_cons_self ..);rw[List.filter_cons,List.filter_cons];cases e1:p b<;>cases e2:q b<;>simp_all<;>omega
  have ha:=h a (List.mem_cons_self ..);rw[List.filter_cons,List.filter_cons]at hl;intro k hk hq;cases e1:p a
  ·cases e2:q a
   ·rw[e1,e2]at hl;rcases List.mem_cons.1 hk with rfl|hk
    ·rw[e2]at hq;cases hq
    ·exact Dq l h1 hl k hk hq
   ·rw[e1,e2]at hl;simp only[if_true,List.length_cons]at hl;simp at hl;omega
  ·rw[e1,ha e1]at hl;rcases List.mem_cons.1 hk with rfl|hk
   ·exact e1
   ·exact Dq l h1 (by simpa using hl) k hk hq
theorem Pm (h:M7 M n) {C:List Nat} (hC:iW M n (List.replicate n true) n=C) (hu:∀i,i∈C->dS M u n i=u i) (h0:∀i,i∉C->u i=0) {i0:Nat} (hi0:0<u i0):(∀i,i∈C->0<u i)/\∀i,i<n->dS M u n i=u i:=by
 have hin:∀i,0<u i->i∈C:=λi hi=>by
  by_cases e:i∈C
  ·exact e
  ·rw[h0 i e]at hi;exact absurd hi Rat.lt_irrefl
 have hCn:∀c,c∈C->c<n:=λc hc=>by rw[<-hC]at hc;exact(qG M n _ n).2 c hc
 obtain⟨p,hp⟩:∃p:Nat->Rat,p=λi=>if 0<u i then u i else 0:=⟨_,rfl⟩
 have hp1:∀i,0<=p i/\u i<=p i/\(0<u i->p i=u i)/\(0<p i->0<u i):=λi=>by
  rw[hp];dsimp only;split<;>grind
 have hle:∀i,i<n->p i<=dS M p n i:=λi hi=>by
  have hnn:0<=dS M p n i:=fg λj hj=>fc (h.nn i hi j hj) (hp1 j).1;by_cases g:0<u i
  ·rw[(hp1 i).2.2.1 g,<-hu i (hin i g)];exact fY λj hj=>gu (hp1 j).2.1 (h.nn i hi j hj)
  ·have:p i=0:=by rw[hp];exact if_neg g
   rw[this];exact hnn
 have hpn:∀i,i<n->0<=p i:=λi _=>(hp1 i).1;have hi0n:=hCn i0 (hin i0 hi0);obtain⟨k1,k2⟩:=Qx h hpn hle hi0n (by rw[(hp1 i0).2.2.1 hi0];exact hi0);have hne:iW M n (List.replicate n true) n≠ []:=λe=>by
  have:=hin i0 hi0;rw[<-hC,e]at this;cases this
 obtain⟨i1,_,e1,_,h4⟩:=uU (Nat.le_refl n) hne;have h5:=h4 i0 hi0n (AC hi0n) k1;rw[e1]at h5 hC;have hpos:∀i,i∈C->0<u i:=λi hi=>by
  have hm:i∈lU M n i0:=by
   have:=Dq (p:=λk=>(Ni M n (oX n i0)).getD k false) (q:=λk=>(Ni M n (oX n i1)).getD k false) (List.range n) (λk hk hkp=> ?_) h5 i (List.mem_range.2 (hCn i hi)) ?_
   ·exact nZ.2 ⟨hCn i hi,this⟩
   ·have hk1:=k2 k (nZ.2 ⟨List.mem_range.1 hk,hkp⟩);have:=hin k ((hp1 k).2.2.2 hk1.2);rw[<-hC]at this;exact(nZ.1 this).2
   ·rw[<-hC]at hi;exact(nZ.1 hi).2
  exact(hp1 i).2.2.2 (k2 i hm).2
 refine⟨hpos,λi hi=> ?_⟩;have ep:p=u:=by
  funext k;by_cases g:0<u k
  ·exact(hp1 k).2.2.1 g
  ·have hz:u k=0:=h0 k λhk=>g (hpos k hk);rw[hp];show(if 0<u k then u k else 0)=u k;rw[hz];exact if_neg Rat.lt_irrefl
 have:=(P0 h hpn hle).1 i hi;rwa[ep]at this
theorem OI (h:M7 M n) (hb:iW M n (List.replicate n true) n=[]) {v c:Nat->Rat} (hc:∀i,i<n->0<=c i) (hv:∀i,i<n->v i=dS M v n i+c i):∀i,i<n->0<=v i:=by
 have hz:=Jw (u:=λi=>if v i<0 then-v i else 0) h hb (λi _=>by split<;>grind) (λi hi=>by
  have hnn:0<=dS M (λi=>if v i<0 then-v i else 0) n i:=fg λj hj=>fc (h.nn i hi j hj) (by dsimp only;split<;>grind);split
  ·have h1:ay (λj=> -(M i j*v j)) n<=dS M (λi=>if v i<0 then-v i else 0) n i:=fY λj hj=>by
    dsimp only;have:=gu (a:= -v j) (b:=if v j<0 then-v j else 0) (by split<;>grind) (h.nn i hi j hj);grind
   have h2:=gj (λ_=>0) (λj=>M i j*v j) n;rw[cj (f:=λ_=>0) λ_ _=>rfl]at h2;have h3:ay (λi_1=>(0:Rat)-M i i_1*v i_1) n=ay (λj=> -(M i j*v j)) n:=aJ λj _=>by grind
   have h4:=hv i hi;have h5:=hc i hi;have h6:dS M v n i=ay (λj=>M i j*v j) n:=rfl;grind
  ·exact hnn)
 intro i hi;have:=hz i hi;split at this<;>grind
end
theorem Ap (n:Nat) (A:Mx):∀c,(cI n A c).d≠0
 |0=>by show(1:Rat)≠0;decide
 |c+1=>by
  by_cases h:pv (cI n A c).M c n (cI n A c).P.length<n
  ·have hp:=(ig (cI n A c).M c (rinv n A c).len).2.2.2 h;have ih:=Ap n A c;rw[Cy h];intro e;rcases Rat.mul_eq_zero.1 e with e|e
   ·split at e
    ·exact ih e
    ·exact ih (by grind)
   ·exact hp e
  ·rw[FY h];exact Ap n A c
theorem JH {m:Nat} {A:Mx} (hm:0<m) (h:∀j,j<m->ay (λi=>A i j) m=0):jX m A=0:=by
 have key:∀k,k<m->jX m (jC A 0 λj=>ay (λi=>A i j) (k+1))=jX m A:=by
  intro k;induction k with
  |zero=>
   intro _;refine fH λi _ j _=> ?_;unfold jC;split
   ·next e=>rw[e];show 0+A 0 j=A 0 j;grind
   ·rfl
  |succ k ih=>
   intro hk;rw[<-ih oO,<-E7 (p:=0) (q:=k+1) hm hk oO (jC A 0 λj=>ay (λi=>A i j) (k+1)) 1];refine fH λi _ j _=> ?_;by_cases e:i=0
   ·rw[e,dm,dm,dm,fe _ _ oO,Rat.one_mul];rfl
   ·rw[fe _ _ e,fe _ _ e,fe _ _ e]
 rw[<-key (m-1) oO];refine xQ (p:=0) hm λj hj=> ?_;rw[dm,Nat.sub_add_cancel hm,h j hj]
theorem QP {m:Nat} {A:Mx} (hm:0<m) (h:∀j,j<m->ay (λi=>A i j) m=0):(cI m A m).P.length<m:=by
 have e:=Lw m A;rw[JH hm h]at e;have hl:=sU m A m;by_cases g:(cI m A m).P.length=m
 ·unfold NY at e;rw[if_pos g]at e;exact absurd e (Ap m A m)
 ·omega
theorem Aq {C:List Nat} {n:Nat} (hC:C.Nodup) (hn:∀c∈C,c<n) (f:Nat->Rat) (h0:∀i,i∉C->f i=0):ay f n=ay (λb=>f (C.getD b 0)) C.length:=by
 have key:∀k,k<=C.length->ay (λi=>if i∈C.take k then f i else 0) n=ay (λb=>f (C.getD b 0)) k:=by
  intro k;induction k with
  |zero=>exact λ_=>cj λi _=>by simp
  |succ k ih=>
   intro hk;have hm:C.getD k 0∈C:=gW hk;have hnot:C.getD k 0∉C.take k:=λhx=>by
    obtain⟨l,hl,e⟩:=vW hx;have hlk:l<k:=by rw[List.length_take]at hl;omega
    have e2:(C.take k).getD l 0=C.getD l 0:=by
     rw[List.getD_eq_getElem?_getD,List.getD_eq_getElem?_getD,List.getElem?_take,if_pos hlk]
    rw[e2]at e;have a:=oq C hC (k:=l) oO;rw[e,oq C hC hk]at a;omega
   show _=ay _ k+f (C.getD k 0);have hone:ay (λi=>if i=C.getD k 0 then f i else 0) n=f (C.getD k 0):=by
    rw[fk (p:=C.getD k 0) (hn _ hm) λi _ hi=>if_neg hi];exact if_pos rfl
   rw[<-ih oO,<-hone,<-fQ];refine aJ λi _=> ?_;have et:C.take (k+1)=C.take k++[C.getD k 0]:=by
    rw[List.take_add_one,List.getD_eq_getElem?_getD,List.getElem?_eq_getElem hk];rfl
   rw[et];by_cases e:i=C.getD k 0
   ·rw[if_pos e,if_pos (by rw[e];simp),e,if_neg hnot];grind
   ·rw[if_neg e];by_cases e2:i∈C.take k
    ·rw[if_pos (List.mem_append_left _ e2),if_pos e2];grind
    ·rw[if_neg (λh=>(List.mem_append.1 h).elim e2 λh=>e (List.mem_singleton.1 h)),if_neg e2];grind
 rw[<-key C.length (Nat.le_refl _),List.take_length];refine aJ λi _=> ?_;split
 ·rfl
 ·next h=>exact h0 i h
theorem JW {M:Mx} {C:List Nat} {i j:Nat} (hi:i<C.length) (hj:j<C.length):RM (ij M C) i j=lu M C i j:=by
 unfold RM ij;rw[iw _ hi,aV _ _ hj,toQ_ofQ]
theorem AP {M:Mx} {C:List Nat} (hC:0<C.length):ew (ij M C)=C.length:=by
 show((ij M C).getD 0 []).length=_;unfold ij;rw[iw _ hC,ao]
theorem JT {M:Mx} {C:List Nat} (hC:0<C.length) (h16:C.length<=16):mN (ij M C)=0:=by
 have h1:(ij M C).length=C.length:=eg _ _ _;have h2:=AP (M:=M) hC;have h3:t7 (ij M C)=true:=by
  unfold t7;rw[List.all_eq_true];intro r hr;obtain⟨i,_,rfl⟩:=lR hr;rw[ao,h2];exact decide_eq_true rfl
 unfold mN;rw[h1,h2,h3,if_neg oO,if_neg dD,if_neg oO]
theorem Fb {n m:Nat} {A B:Mx} {x:Nat->Rat} (h:∀i,i<n->∀j,j<m->A i j=B i j) (hk:CB n m A x):CB n m B x:=λi hi=>by
 rw[<-hk i hi];exact aJ λj hj=>by rw[h i hi j hj]
theorem KS {M:Mx} {C:List Nat} (hC:0<C.length) (h16:C.length<=16) (hc:∀j,j<C.length->ay (λi=>lu M C i j) C.length=0):
  Db (ij M C)≠ []/\(∃f,f<C.length/\f∉(cI C.length (RM (ij M C)) C.length).P/\∀j,j<C.length->GJ M C j=kv (cI C.length (RM (ij M C)) C.length).P (cI C.length (RM (ij M C)) C.length).M f j)/\(∃f,f<C.length/\GJ M C f=1)/\CB C.length C.length (lu M C) (GJ M C):=by
 have h1:(ij M C).length=C.length:=eg _ _ _;have h2:=AP (M:=M) hC;have hs:(cI C.length (RM (ij M C)) C.length).P.length<C.length:=by
  refine QP hC λj hj=> ?_;rw[<-hc j hj];exact aJ λi hi=>JW hi hj
 have I:=rinv C.length (RM (ij M C)) C.length;have ek:Db (ij M C)=(Gm (cI C.length (RM (ij M C)) C.length).P C.length).map (jU (cI C.length (RM (ij M C)) C.length).M (cI C.length (RM (ij M C)) C.length).P C.length):=by
  unfold Db AQ;rw[if_pos (JT hC h16),h1,h2]
 have hfc:=xI I.inc I.lt;have hker:=λx=>uB C.length C.length (RM (ij M C)) x C.length;have h0:∀j,GJ M C j=toQ (((Db (ij M C)).getD 0 []).getD j bM):=λj=>rfl;generalize cI C.length (RM (ij M C)) C.length=s at*;have hfl:Gm s.P C.length=(List.range C.length).filter λf=> !decide (f∈s.P):=rfl;cases hf:Gm s.P C.length with
 |nil=>rw[<-hfl,hf]at hfc;simp at hfc;omega
 |cons f l=>
  have hm:f∈Gm s.P C.length:=by rw[hf];exact List.mem_cons_self ..
  rw[hfl,List.mem_filter,List.mem_range]at hm;have hfP:f∉s.P:=by simpa using hm.2
  have hk0:∀j,j<C.length->GJ M C j=kv s.P s.M f j:=λj hj=>by
   rw[h0,ek,hf];show toQ ((jU s.M s.P C.length f).getD j bM)=_;unfold jU;rw[aV _ _ hj,toQ_ofQ]
  refine⟨by rw[ek,hf];simp,⟨f,hm.1,hfP,hk0⟩,⟨f,hm.1,by rw[hk0 f hm.1];exact if_pos rfl⟩,?_⟩;rw[Hk hk0];exact Fb (λi hi j hj=>JW hi hj) ((hker _).1 (DH I hfP hm.1))
theorem zN {C:List Nat} (hC:C.Nodup) (l:Nat->Rat) {b:Nat} (hb:b<C.length):nQ C l C.length (C.getD b 0)=l b:=by
 unfold nQ;rw[List.take_length,if_pos (gW hb),oq C hC hb]
theorem Ag {C:List Nat} (l:Nat->Rat) {i:Nat} (h:i∉C):nQ C l C.length i=0:=by
 unfold nQ;rw[List.take_length,if_neg h]
theorem Lk {M:Mx} {C:List Nat} {n:Nat} (hC:C.Nodup) (hn:∀c∈C,c<n) (l:Nat->Rat) (i:Nat):dS M (nQ C l C.length) n i=ay (λb=>M i (C.getD b 0)*l b) C.length:=by
 have h:=Aq hC hn (λj=>M i j*nQ C l C.length j) λj hj=>by rw[Ag l hj,Rat.mul_zero]
 unfold dS;rw[h];exact aJ λb hb=>by rw[zN hC l hb]
theorem Fk (M:Mx) {C:List Nat} (l:Nat->Rat) {a:Nat} (ha:a<C.length):dS (lu M C) l C.length a=ay (λb=>M (C.getD a 0) (C.getD b 0)*l b) C.length-l a:=by
 have e:∀b,lu M C a b*l b=M (C.getD a 0) (C.getD b 0)*l b-(if b=a then l a else 0):=λb=>by
  unfold lu;by_cases h:a=b
  ·rw[if_pos h,if_pos h.symm,h];grind
  ·rw[if_neg h,if_neg λh2=>h h2.symm];grind
 unfold dS;rw[aJ λb _=>e b,gj,fk (f:=λb=>if b=a then l a else 0) ha λb _ hb=>if_neg hb,if_pos rfl]
theorem sO {M:Mx} {n:Nat} {C:List Nat} (h:M7 M n) (hb:iW M n (List.replicate n true) n=C) (hne:C≠ []) (h16:n<=16):
  Db (ij M C)≠ []/\(∀i,i∈C->0<nu M C i)/\(∀i,i∉C->nu M C i=0)/\(∀i,i<n->dS M (nu M C) n i=nu M C i)/\(∀c,c∈C->jW M c n=1)/\∃f,f<C.length/\f∉(cI C.length (RM (ij M C)) C.length).P/\∀j,j<C.length->GJ M C j=kv (cI C.length (RM (ij M C)) C.length).P (cI C.length (RM (ij M C)) C.length).M f j:=by
 obtain⟨hC,hCn⟩:=qG M n (List.replicate n true) n;have hle:=tw M n (List.replicate n true) n;obtain⟨i0,hi0,e0,lk0,_⟩:=uU (Nat.le_refl n) (by rw[hb];exact hne);rw[hb]at hC hCn hle e0;have hC0:0<C.length:=List.length_pos_iff.2 hne;have hcs:∀c,c∈C->jW M c n=1:=λc hc=>by
  rw[List.any_eq_false]at lk0;rw[e0]at hc;have h1:=lk0 c hc;have h2:=h.cs c (lO.1 hc).1;unfold Bd at h1;have h3:¬jW M c n<1:=λg=>h1 (decide_eq_true g);grind
 have hz:∀a,a<n->a∉C->∀c,c∈C->M a c=0:=λa ha hna c hc=>by
  have h1:=h.nn a ha c (hCn c hc);by_cases e:M a c=0
  ·exact e
  ·rw[e0]at hc hna;exact absurd (lO.2 ⟨ha,.step c a (lO.1 hc).2 (lO.1 hc).1 ha (by grind)⟩) hna
 have hsub:∀j,j<C.length->ay (λi=>lu M C i j) C.length=0:=λj hj=>by
  have hm:=gW hj;have e:∀i,lu M C i j=M (C.getD i 0) (C.getD j 0)-(if i=j then 1 else 0):=λi=>rfl;rw[aJ λi _=>e i,gj,fk (f:=λi=>if i=j then(1:Rat)else 0) hj λi _ hi=>if_neg hi,if_pos rfl];have hs:=Aq hC hCn (λa=>if a∈C then M a (C.getD j 0)else 0) λa ha=>if_neg ha;have e2:ay (λa=>if a∈C then M a (C.getD j 0)else 0) n=jW M (C.getD j 0) n:=aJ λa ha=>by
   split
   ·rfl
   ·next g=>exact(hz a ha g _ hm).symm
  have e3:ay (λb=>if C.getD b 0∈C then M (C.getD b 0) (C.getD j 0)else 0) C.length=ay (λb=>M (C.getD b 0) (C.getD j 0)) C.length:=aJ λb hb=>if_pos (gW hb);rw[<-e3,<-hs,e2,hcs _ hm];grind
 obtain⟨k1,k2,⟨f,hf,hf1⟩,hker⟩:=KS hC0 oO hsub;have hdot:∀i,i∈C->dS M (nu M C) n i=nu M C i:=λi hi=>by
  obtain⟨a,ha,e⟩:=vW hi;have h1:=hker a ha;rw[Fk M _ ha]at h1;unfold nu;rw[Lk hC hCn,<-e,zN hC _ ha];grind
 obtain⟨p1,p2⟩:=Pm h hb hdot (λi hi=>Ag _ hi) (i0:=C.getD f 0) (by
  unfold nu;rw[zN hC _ hf,hf1];decide)
 exact⟨k1,p1,λi hi=>Ag _ hi,p2,hcs,k2⟩
theorem ki {n j:Nat} (h:j<n):(List.range n).getD j 0=j:=by
 rw[List.getD_eq_getElem?_getD,List.getElem?_range h];rfl
theorem GM {n:Nat} {A:Mx} (hA:∀x,CB n n A x->∀i,i<n->x i=0):(cI n A n).P.length=n:=by
 have I:=rinv n A n;have hl:=sU n A n;by_cases e:(cI n A n).P.length=n
 ·exact e
 ·have hfc:=xI I.inc I.lt;cases hf:(List.range n).filter λf=> !decide (f∈(cI n A n).P)with
  |nil=>rw[hf]at hfc;simp at hfc;omega
  |cons f l=>
   have hm:f∈(List.range n).filter λf=> !decide (f∈(cI n A n).P):=by rw[hf];exact List.mem_cons_self ..
   rw[List.mem_filter,List.mem_range]at hm;have hfP:f∉(cI n A n).P:=by simpa using hm.2
   have h1:=hA _ ((uB n n A _ n).1 (DH I hfP hm.1)) f hm.1;have h2:kv (cI n A n).P (cI n A n).M f f=1:=if_pos rfl;rw[h2]at h1;exact absurd h1 dD
theorem sZ {g:fp} {M:Mx} (h:M7 M g.n) (hb:iW M g.n (List.replicate g.n true) g.n=[]) (h0:0<g.n) (h16:g.n<=16) (hc:∀i,i<g.n->0<=uy g i):
  Fs (ij M (List.range g.n)) (tc g (List.range g.n))=0/\KO (ij M (List.range g.n)) (tc g (List.range g.n))=aS g.n (λj=>aj (Nh g M (List.range g.n) j))/\(∀i,i<g.n->0<=jG g M (List.range g.n) i)/\(∀i,i<g.n->jG g M (List.range g.n) i=dS M (jG g M (List.range g.n)) g.n i+uy g i)/\
  (Hm (ij M (List.range g.n)) (tc g (List.range g.n))).P.length=g.n/\∀j,j<g.n->jG g M (List.range g.n) j=(Hm (ij M (List.range g.n)) (tc g (List.range g.n))).M j g.n:=by
 obtain⟨n,hn⟩:=jz g.n;rw[<-hn]at h hb h0 h16 hc⊢;have hl:(List.range n).length=n:=List.length_range;have h1:(ij M (List.range n)).length=n:=by rw[show(ij M (List.range n)).length=(List.range n).length from eg _ _ _,hl]
 have h2:=AP (M:=M) (C:=List.range n) oO;have hsh:=JT (M:=M) (C:=List.range n) oO oO;have hcb:(tc g (List.range n)).length=n:=by unfold tc;rw[ao,hl]
 have hsq:JJ (ij M (List.range n))=0:=by
  unfold JJ;rw[hsh,if_neg dD,if_neg (by rw[h1,h2,hl];simp)]
 have hsubM:∀i,i<n->∀j,j<n->lu M (List.range n) i j=M i j-(if i=j then 1 else 0):=λi hi j hj=>by
  unfold lu;rw[ki hi,ki hj]
 have hA1:∀i,i<n->∀j,j<n->ys (ij M (List.range n)) (tc g (List.range n)) i j=lu M (List.range n) i j:=λi hi j hj=>by
  unfold ys;rw[h1,if_pos hj,JW oO oO]
 have hA2:∀i,i<n->ys (ij M (List.range n)) (tc g (List.range n)) i n= -uy g i:=λi hi=>by
  unfold ys VX tc;rw[h1,if_neg oO,if_pos rfl,aV _ _ oO,toQ_ofQ,ki hi]
 have hdM:∀x i,i<n->dS (lu M (List.range n)) x n i=dS M x n i-x i:=λx i hi=>by
  have:=Fk M (C:=List.range n) x (a:=i) oO;rw[hl,ki hi]at this;rw[this];congr 1;exact aJ λb hb=>by rw[ki hb]
 have hinj:∀x,CB n n (ys (ij M (List.range n)) (tc g (List.range n))) x->∀i,i<n->x i=0:=λx hx=>by
  have hx2:CB n n (lu M (List.range n)) x:=Fb hA1 hx;have hd:∀i,i<n->dS M x n i=x i:=λi hi=>by
   have:=hx2 i hi;rw[hdM x i hi]at this;grind
  have hz:=Jw (u:=λi=>if x i<0 then-x i else x i) h hb (λi _=>by split<;>grind) (λi hi=>by
   have e1:dS M x n i<=dS M (λi=>if x i<0 then-x i else x i) n i:=fY λj hj=>by
    dsimp only;exact gu (by split<;>grind) (h.nn i hi j hj)
   have e2:dS M (λj=> -x j) n i<=dS M (λi=>if x i<0 then-x i else x i) n i:=fY λj hj=>by
    dsimp only;exact gu (by split<;>grind) (h.nn i hi j hj)
   have e3:dS M (λj=> -x j) n i= -dS M x n i:=by
    have:=gj (λ_=>0) (λj=>M i j*x j) n;rw[cj (f:=λ_=>0) λ_ _=>rfl]at this;have h3:ay (λj=>(0:Rat)-M i j*x j) n=dS M (λj=> -x j) n i:=aJ λj _=>by grind
    have h4:dS M x n i=ay (λj=>M i j*x j) n:=rfl;grind
   have:=hd i hi;split<;>grind)
  intro i hi;have:=hz i hi;split at this<;>grind
 have hP:=GM hinj;have hsd:Hm (ij M (List.range n)) (tc g (List.range n))=cI n (ys (ij M (List.range n)) (tc g (List.range n))) n:=by unfold Hm;rw[h1]
 have hse:Fs (ij M (List.range n)) (tc g (List.range n))=0:=by
  unfold Fs;rw[if_neg (by rw[hsq];decide),if_neg (by rw[h1,hcb];simp),hsd,h1,if_pos hP]
 have hsl:KO (ij M (List.range n)) (tc g (List.range n))=aS n λi=>aj ((Hm (ij M (List.range n)) (tc g (List.range n))).M i n):=by
  unfold KO;rw[if_pos hse,h1]
 have hsv:∀j,j<n->Nh g M (List.range n) j=(Hm (ij M (List.range n)) (tc g (List.range n))).M j n:=λj hj=>by
  unfold Nh;rw[hsl,aV _ _ hj,toQ_ofQ]
 have hfd:∀j,j<n->jG g M (List.range n) j=(Hm (ij M (List.range n)) (tc g (List.range n))).M j n:=λj hj=>by
  have:=zN (C:=List.range n) List.nodup_range (Nh g M (List.range n)) (b:=j) oO;rw[ki hj]at this;unfold jG;rw[this,hsv j hj]
 have hv:∀i,i<n->jG g M (List.range n) i=dS M (jG g M (List.range n)) n i+uy g i:=by
  obtain⟨A,hA⟩:=jz (ys (ij M (List.range n)) (tc g (List.range n)));rw[<-hA]at hsd hA1 hA2 hP;have er:=vO (A:=A) (c:=n) (n:=n) oO 1;have I:=rinv n A (n+1);have hr:=xu (rinv n A n) hP;have hn':n∉(cI n A (n+1)).P:=by rw[er,hr];simp
  have hk:=(uB n (n+1) A _ (n+1)).1 (DH I hn' oO);rw[er]at hk;have hkn:kv (cI n A n).P (cI n A n).M n n=1:=if_pos rfl;have hkj:∀j,j<n->kv (cI n A n).P (cI n A n).M n j= -(cI n A n).M j n:=λj hj=>by
   have:=IG (P:=(cI n A n).P) (M:=(cI n A n).M) (f:=n) (l:=j) (rinv n A n).inc (by rw[hr];simp) oO;rw[hr]at this⊢;rwa[ki hj]at this
  intro i hi;have h3:=hk i hi;have h4:ay (λj=>A i j*kv (cI n A n).P (cI n A n).M n j) n+A i n*kv (cI n A n).P (cI n A n).M n n=0:=h3;rw[hkn,hA2 i hi]at h4;have h5:ay (λj=>A i j*kv (cI n A n).P (cI n A n).M n j) n= -dS (lu M (List.range n)) (jG g M (List.range n)) n i:=by
   have:=gj (λ_=>0) (λj=>lu M (List.range n) i j*jG g M (List.range n) j) n;rw[cj (f:=λ_=>0) λ_ _=>rfl]at this;have h6:ay (λj=>(0:Rat)-lu M (List.range n) i j*jG g M (List.range n) j) n=ay (λj=>A i j*kv (cI n A n).P (cI n A n).M n j) n:=aJ λj hj=>by
    rw[hkj j hj,hA1 i hi j hj,hfd j hj,hsd];grind
   have h7:dS (lu M (List.range n)) (jG g M (List.range n)) n i=ay (λj=>lu M (List.range n) i j*jG g M (List.range n) j) n:=rfl;grind
  have h8:=hdM (jG g M (List.range n)) i hi;grind
 refine⟨hse,?_,OI h hb hc hv,hv,by rw[hsd];exact hP,hfd⟩;rw[hsl];exact bA λj hj=>by rw[hsv j hj]
def ko (c:Int):List Pa->Rat
 | []=>0
 |p::l=>(if p.c=c then p.q else 0)+ko c l
def qs:List Pa->Rat
 | []=>0
 |p::l=>p.q+qs l
structure yq (t:Tr):Prop where
 q:∀p∈t.ps,0<=p.q
 s:t.sm=qs t.ps
def qc (T:List Tr):Prop:=∀t∈T,yq t
theorem v9 (c:Int) (m:List Pa):∀l,ko c (l++m)=ko c l+ko c m
 | []=>by show ko c m=0+ko c m;grind
 |p::l=>by show _+ko c (l++m)=_+ko c l+ko c m;rw[v9 c m l];grind
theorem yZ (m:List Pa):∀l,qs (l++m)=qs l+qs m
 | []=>by show qs m=0+qs m;grind
 |p::l=>by show _+qs (l++m)=_+qs l+qs m;rw[yZ m l];grind
theorem EO (c:Int) (r:Rat):∀l:List Pa,ko c (l.map λp=>⟨p.c,p.q*r⟩)=ko c l*r
 | []=>by show(0:Rat)=0*r;grind
 |p::l=>by
  show(if p.c=c then p.q*r else 0)+ko c (l.map λp=>⟨p.c,p.q*r⟩)=((if p.c=c then p.q else 0)+ko c l)*r;rw[EO c r l];split<;>grind
theorem Ie (r:Rat):∀l:List Pa,qs (l.map λp=>⟨p.c,p.q*r⟩)=qs l*r
 | []=>by show(0:Rat)=0*r;grind
 |p::l=>by
  show p.q*r+qs (l.map λp=>⟨p.c,p.q*r⟩)=(p.q+qs l)*r;rw[Ie r l];grind
theorem zT (c:Int) (t:Tr) (a:Rat):ko c (Aa t a)=ko c t.ps*(a/t.sm):=EO c _ t.ps
theorem M6 (t:Tr) (a:Rat):qs (Aa t a)=qs t.ps*(a/t.sm):=Ie _ t.ps
theorem Ju {c:Int}:∀ {l:List Pa},(∀p∈l,0<=p.q)->0<=ko c l
 | [],_=>Rat.le_refl
 |p::l,h=>by
  have a:=h p (List.mem_cons_self ..);have b:=Ju (c:=c) λp hp=>h p (List.mem_cons_of_mem _ hp);show 0<=(if p.c=c then p.q else 0)+ko c l;split<;>grind
theorem No:∀ {l:List Pa},(∀p∈l,0<=p.q)->0<=qs l
 | [],_=>Rat.le_refl
 |p::l,h=>by
  have a:=h p (List.mem_cons_self ..);have b:=No λp hp=>h p (List.mem_cons_of_mem _ hp);show 0<=p.q+qs l;grind
theorem Kq {c:Int}:∀ {l:List Pa},(∀p∈l,0<=p.q)->ko c l<=qs l
 | [],_=>Rat.le_refl
 |p::l,h=>by
  have a:=h p (List.mem_cons_self ..);have b:=Kq (c:=c) λp hp=>h p (List.mem_cons_of_mem _ hp);show(if p.c=c then p.q else 0)+ko c l<=p.q+qs l;split<;>grind
theorem rX {n:Nat}:∀ {l:List Pa},(∀p∈l,r7 n p)->ay (λk=>ko k l) n+ko (-1) l=qs l
 | [],_=>by
  show ay (λ_=>0) n+0=0;rw[cj λ_ _=>rfl];grind
 |p::l,h=>by
  have ih:=rX (n:=n) λp hp=>h p (List.mem_cons_of_mem _ hp);have e:=fQ (λk=>if p.c=(k:Int)then p.q else 0) (λk=>ko k l) n;show ay (λk:Nat=>(if p.c=(k:Int)then p.q else 0)+ko k l) n+((if p.c= -1 then p.q else 0)+ko (-1) l)=p.q+qs l;rw[e];rcases h p (List.mem_cons_self ..)with g|⟨g1,g2⟩
  ·rw[if_pos g,cj λk _=>if_neg oO];grind
  ·rw[if_neg oO,fk (p:=p.c.toNat) oO λk _ hk=>if_neg oO,if_pos oO];grind
theorem AF (k:Nat):∀(l:List Pa) (s:Rs),(jk s l).c k=s.c k+ko k l
 | [],s=>by show s.c k=s.c k+0;grind
 |p::l,s=>by
  show(jk (wm s p) l).c k=s.c k+((if p.c=k then p.q else 0)+ko k l);rw[AF k l];unfold wm;by_cases e:p.c= -1
  ·rw[if_pos e,if_neg (show¬p.c=(k:Int) by omega)];grind
  ·rw[if_neg e];show(if(k:Int)=p.c then s.c k+p.q else s.c k)+_=_;by_cases e2:p.c=(k:Int)
   ·rw[if_pos e2,if_pos e2.symm];grind
   ·rw[if_neg e2,if_neg λh=>e2 h.symm];grind
theorem Kc:∀(l:List Pa) (s:Rs),(jk s l).r=s.r+ko (-1) l
 | [],s=>by show s.r=s.r+0;grind
 |p::l,s=>by
  show(jk (wm s p) l).r=s.r+((if p.c= -1 then p.q else 0)+ko (-1) l);rw[Kc l];unfold wm;by_cases e:p.c= -1
  ·rw[if_pos e,if_pos e];grind
  ·rw[if_neg e,if_neg e];grind
theorem fm (t:Tr) (T:List Tr) (m:Rat):dq (t::T) m=if m<t.sm then 0 else dq T (m-t.sm)+1:=rfl
theorem yC {t:Tr} {T:List Tr} {m:Rat} (h:¬m<t.sm):j9 (t::T) m=j9 T (m-t.sm):=by
 unfold j9;rw[fm,if_neg h,md];grind
theorem xk {t:Tr} {T:List Tr} {m:Rat} (h:m<t.sm):j9 (t::T) m=m:=by
 unfold j9;rw[fm,if_pos h];show m-0=m;grind
theorem pH (t:Tr) (T:List Tr) (m:Rat):jD (t::T) m=if m<t.sm then Aa t m else t.ps++jD T (m-t.sm):=by
 unfold jD;rw[fm];by_cases h:m<t.sm
 ·rw[if_pos h,if_pos h,xk h,if_pos (show 0<(t::T).length from Nat.succ_pos _)];rfl
 ·rw[if_neg h,if_neg h,yC h,List.take_succ_cons,List.flatMap_cons,List.append_assoc];congr 1;congr 1;by_cases g:dq T (m-t.sm)<T.length
  ·rw[if_pos g,if_pos (show dq T (m-t.sm)+1<(t::T).length by rw[List.length_cons];omega)];rfl
  ·rw[if_neg g,if_neg (show¬dq T (m-t.sm)+1<(t::T).length by rw[List.length_cons];omega)]
theorem pS (t:Tr) (T:List Tr) (m r:Rat):jy (t::T) m r=if m<t.sm then Aa t r else jy T (m-t.sm) r:=by
 unfold jy;rw[fm];by_cases h:m<t.sm
 ·rw[if_pos h,if_pos h,if_pos (show 0<(t::T).length from Nat.succ_pos _)];rfl
 ·rw[if_neg h,if_neg h];by_cases g:dq T (m-t.sm)<T.length
  ·rw[if_pos g,if_pos (show dq T (m-t.sm)+1<(t::T).length by rw[List.length_cons];omega)];rfl
  ·rw[if_neg g,if_neg (show¬dq T (m-t.sm)+1<(t::T).length by rw[List.length_cons];omega)]
theorem n4 (t:Tr) (T:List Tr) (m:Rat):j8 (t::T) m=if m<t.sm then t.sm-m else j8 T (m-t.sm):=by
 unfold j8;by_cases h:m<t.sm
 ·rw[if_pos h,xk h,fm,if_pos h];rfl
 ·rw[if_neg h,yC h,fm,if_neg h];rfl
def mC (T:List Tr) (m:Rat) (c:Int):Rat:=ko c (jD T m)
def qt (T:List Tr) (m:Rat) (c:Int):Rat:=ko c (jy T m 1)
def K7 (T:List Tr) (m:Rat):Rat:=qs (jD T m)
theorem gI (t:Tr) (T:List Tr) (m:Rat) (c:Int):mC (t::T) m c=if m<t.sm then ko c t.ps*(m/t.sm)else ko c t.ps+mC T (m-t.sm) c:=by
 unfold mC;rw[pH];split
 ·exact zT _ _ _
 ·exact v9 _ _ _
theorem nO (t:Tr) (T:List Tr) (m:Rat) (c:Int):qt (t::T) m c=if m<t.sm then ko c t.ps*(1/t.sm)else qt T (m-t.sm) c:=by
 unfold qt;rw[pS];split
 ·exact zT _ _ _
 ·rfl
theorem sN (t:Tr) (T:List Tr) (m:Rat):K7 (t::T) m=if m<t.sm then qs t.ps*(m/t.sm)else qs t.ps+K7 T (m-t.sm):=by
 unfold K7;rw[pH];split
 ·exact M6 _ _
 ·exact yZ _ _
theorem xK (T:List Tr) (m r:Rat) (c:Int):ko c (jy T m r)=r*qt T m c:=by
 unfold qt jy;split
 ·rw[zT,zT,Rat.div_def,Rat.div_def];grind
 ·show(0:Rat)=r*0;grind
theorem uf {b:Rat} (h:0<b):0<b⁻¹/\b*b⁻¹ =1:=⟨Rat.inv_pos.2 h,Rat.mul_inv_cancel _ (ow h)⟩
theorem mE {a b:Rat} (h:0<b):b*(a/b)=a:=by
 have:=(uf h).2;rw[Rat.div_def];grind
theorem A2 {a b:Rat} (ha:0<=a) (hb:0<b):0<=a/b:=by rw[Rat.div_def];exact fc ha (Rat.le_of_lt (uf hb).1)
theorem KN {a b:Rat} (h:a<=b) (hb:0<b):a/b<=1:=by
 obtain⟨h1,h2⟩:=uf hb;have:=gu h (Rat.le_of_lt h1);rw[Rat.div_def];grind
theorem Ia {a b c:Rat} (h:a<=b) (hc:0<c):a/c<=b/c:=by
 have:=gu h (Rat.le_of_lt (uf hc).1);rw[Rat.div_def,Rat.div_def];grind
section
variable {T : List Tr} {m m' h : Rat} {c : Int}
theorem qc.hd {t:Tr} (hT:qc (t::T)):yq t:=hT t (List.mem_cons_self ..)
theorem qc.tl {t:Tr} (hT:qc (t::T)):qc T:=λx hx=>hT x (List.mem_cons_of_mem _ hx)
theorem yq.s0 {t:Tr} (h:yq t):0<=t.sm:=by rw[h.s];exact No h.q
theorem yq.a {t:Tr} (h:yq t) (c:Int):0<=ko c t.ps/\ko c t.ps<=t.sm:=⟨Ju h.q,by rw[h.s];exact Kq h.q⟩
theorem zh:∀ {T:List Tr} {m:Rat},qc T->0<=m->0<=mC T m c
 | [],_,_,_=>Rat.le_refl
 |t::T,m,hT,hm=>by
  have a:=(hT.hd.a c).1;rw[gI];split
  ·next g=>exact fc a (A2 hm (by grind))
  ·have:=zh (T:=T) (m:=m-t.sm) hT.tl (by grind);grind
theorem vw:∀ {T:List Tr} {m m':Rat},qc T->0<=m->m<=m'->mC T m c<=mC T m' c
 | [],_,_,_,_,_=>Rat.le_refl
 |t::T,m,m',hT,hm,hmm=>by
  have a:=(hT.hd.a c).1;rw[gI,gI];by_cases g:m<t.sm
  ·rw[if_pos g];by_cases g2:m'<t.sm
   ·rw[if_pos g2];exact gu (Ia hmm (by grind)) a
   ·rw[if_neg g2];have h1:=gu (KN (Rat.le_of_lt g) (by grind)) a;have h2:=zh (T:=T) (m:=m'-t.sm) (c:=c) hT.tl (by grind);grind
  ·rw[if_neg g,if_neg (by grind)];have:=vw (T:=T) (m:=m-t.sm) (m':=m'-t.sm) hT.tl (by grind) (by grind);grind
theorem JZ:∀ {T:List Tr} {m:Rat},qc T->0<=m->K7 T m<=m
 | [],_,_,h=>h
 |t::T,m,hT,hm=>by
  have hs:=hT.hd.s;rw[sN];split
  ·next g=>
   rw[<-hs,mE (by grind)];exact Rat.le_refl
  ·have:=JZ (T:=T) (m:=m-t.sm) hT.tl (by grind);grind
theorem JD:∀ {T:List Tr} {m m':Rat},qc T->0<=m->m<=m'->K7 T m'-K7 T m<=m'-m
 | [],m,m',_,_,h=>by show(0:Rat)-0<=_;grind
 |t::T,m,m',hT,hm,hmm=>by
  have hs:=hT.hd.s;have e:∀x,0<=x->x<t.sm->qs t.ps*(x/t.sm)=x:=λx h0 g=>by rw[<-hs,mE (by grind)]
  rw[sN,sN];by_cases g:m<t.sm
  ·rw[if_pos g,e m hm g];by_cases g2:m'<t.sm
   ·rw[if_pos g2,e m' (by grind) g2];exact Rat.le_refl
   ·rw[if_neg g2];have:=JZ (T:=T) (m:=m'-t.sm) hT.tl (by grind);grind
  ·rw[if_neg g,if_neg (by grind)];have:=JD (T:=T) (m:=m-t.sm) (m':=m'-t.sm) hT.tl (by grind) (by grind);grind
theorem uQ:∀ {T:List Tr},qc T->mC T 0 c=0
 | [],_=>rfl
 |t::T,hT=>by
  have a:=hT.hd.a c;rw[gI];split
  ·rw[Rat.div_def];grind
  ·have e:t.sm=0:=by have:=hT.hd.s0;grind
   rw[e,show(0:Rat)-0=0 by grind,uQ (T:=T) hT.tl];grind
theorem sE:∀ {T:List Tr} {m:Rat},dq T m<T.length->0<j8 T m
 | [],_,h=>absurd h (Nat.not_lt_zero _)
 |t::T,m,h=>by
  rw[n4];rw[fm]at h;split
  ·grind
  ·next g=>
   rw[if_neg g,List.length_cons]at h;exact sE oO
theorem D8:∀ {T:List Tr} {m:Rat},qc T->0<=m->0<=h->dq T m<T.length->h<=j8 T m->mC T (m+h) c=mC T m c+h*qt T m c
 | [],_,_,_,_,hf,_=>absurd hf (Nat.not_lt_zero _)
 |t::T,m,hT,hm,h0,hf,hg=>by
  rw[n4]at hg;rw[gI,gI,nO];by_cases g:m<t.sm
  ·rw[if_pos g]at hg;have hi:=(uf (b:=t.sm) (by grind)).2;rw[if_pos g,if_pos g];split
   ·rw[Rat.div_def,Rat.div_def,Rat.div_def];grind
   ·have e:m+h-t.sm=0:=by grind
    rw[e,uQ hT.tl,Rat.div_def,Rat.div_def];have:m+h=t.sm:=by grind
    grind
  ·rw[fm,if_neg g,List.length_cons]at hf;rw[if_neg g]at hg;rw[if_neg g,if_neg g,if_neg (by grind),show m+h-t.sm=(m-t.sm)+h by grind,D8 (T:=T) hT.tl (by grind) h0 oO hg];grind
theorem rF:∀ {T:List Tr} {m:Rat},0<=h->¬dq T m<T.length->mC T (m+h) c=mC T m c/\qt T m c=0
 | [],_,_,_=>⟨rfl,rfl⟩
 |t::T,m,h0,hf=>by
  rw[fm,List.length_cons]at hf;rw[gI,gI,nO];by_cases g:m<t.sm
  ·rw[if_pos g]at hf;omega
  ·rw[if_neg g]at hf;obtain⟨e1,e2⟩:=rF (T:=T) (m:=m-t.sm) h0 oO;rw[if_neg g,if_neg g,if_neg (by grind),show m+h-t.sm=(m-t.sm)+h by grind,e1];exact⟨rfl,e2⟩
theorem Bi:∀ {T:List Tr} {m:Rat},qc T->0<=m->0<=qt T m c
 | [],_,_,_=>Rat.le_refl
 |t::T,m,hT,hm=>by
  rw[nO];split
  ·next g=>exact fc (hT.hd.a c).1 (A2 dD (by grind))
  ·exact Bi hT.tl (by grind)
theorem Rk:∀ {T:List Tr} {m:Rat},qc T->0<=m->qs (jy T m 1)<=1
 | [],_,_,_=>by show(0:Rat)<=1;decide
 |t::T,m,hT,hm=>by
  rw[pS];split
  ·next g=>
   rw[M6,<-hT.hd.s,mE (by grind)];decide
  ·exact Rk hT.tl (by grind)
theorem o7:∀ {T:List Tr} {m m':Rat},m<=m'->dq T m<=dq T m'
 | [],_,_,_=>Nat.le_refl _
 |t::T,m,m',hm=>by
  rw[fm,fm];by_cases g:m<t.sm
  ·rw[if_pos g];exact Nat.zero_le _
  ·rw[if_neg g,if_neg (by grind)];exact Nat.succ_le_succ (o7 (by grind))
theorem zK:∀ {T:List Tr} {m:Rat},dq T m<T.length->dq T m<dq T (m+j8 T m)
 | [],_,hf=>absurd hf (Nat.not_lt_zero _)
 |t::T,m,hf=>by
  have gp:=sE hf;rw[n4]at gp⊢;rw[fm]at hf;rw[fm,fm];by_cases g:m<t.sm
  ·rw[if_pos g,if_pos g,if_neg (by grind)];exact Nat.succ_pos _
  ·rw[if_neg g]at hf gp⊢;rw[if_neg g,if_neg (by grind),show m+j8 T (m-t.sm)-t.sm=(m-t.sm)+j8 T (m-t.sm) by grind];rw[List.length_cons]at hf;exact Nat.succ_lt_succ (zK oO)
end
def fa {α:Type} (f:α->Rat):List α->Rat
 | []=>0
 |a::l=>f a+fa f l
section
variable {α : Type} {f g : α → Rat}
theorem kw (m:List α):∀l,fa f (l++m)=fa f l+fa f m
 | []=>by show fa f m=0+fa f m;grind
 |a::l=>by show f a+fa f (l++m)=f a+fa f l+fa f m;rw[kw m l];grind
theorem qS:∀ {l:List α},(∀a∈l,f a<=g a)->fa f l<=fa g l
 | [],_=>Rat.le_refl
 |a::l,h=>by
  have h1:=h a (List.mem_cons_self ..);have h2:=qS λa ha=>h a (List.mem_cons_of_mem _ ha);show f a+fa f l<=g a+fa g l;grind
theorem d9:∀ {l:List α},(∀a∈l,f a=g a)->fa f l=fa g l
 | [],_=>rfl
 |a::l,h=>by
  show f a+fa f l=g a+fa g l;rw[h a (List.mem_cons_self ..),d9 λa ha=>h a (List.mem_cons_of_mem _ ha)]
theorem tL {l:List α} (h:∀a∈l,0<=f a):0<=fa f l:=by
 have h1:=qS (f:=λ_:α=>(0:Rat)) h;have h2:∀l:List α,fa (λ_=>(0:Rat)) l=0:=λl=>by
  induction l with
  |nil=>rfl
  |cons a l ih=>show(0:Rat)+fa (λ_=>0) l=0;rw[ih];grind
 rwa[h2]at h1
theorem lX (f g:α->Rat) (t:Rat):∀l,fa (λa=>f a+t*g a) l=fa f l+t*fa g l
 | []=>by show(0:Rat)=0+t*0;grind
 |a::l=>by show f a+t*g a+fa _ l=f a+fa f l+t*(g a+fa g l);rw[lX f g t l];grind
theorem FD (f g:α->Rat) (l:List α):fa (λa=>f a-g a) l=fa f l-fa g l:=by
 have:=lX f g (-1) l;have e:fa (λa=>f a-g a) l=fa (λa=>f a+ -1*g a) l:=d9 λa _=>by grind
 rw[e,this];grind
theorem sv (a:α->Nat->Rat) (n:Nat):∀l,ay (λk=>fa (λp=>a p k) l) n=fa (λp=>ay (a p) n) l
 | []=>cj λ_ _=>rfl
 |p::l=>by
  show ay (λk=>a p k+fa (λp=>a p k) l) n=_;rw[fQ,sv a n l];rfl
end
theorem tj (f:Nat->Rat):∀n,ay f (n+1)=f 0+ay (λi=>f (i+1)) n
 |0=>by show 0+f 0=f 0+0;grind
 |n+1=>by
  show ay f (n+1)+f (n+1)=f 0+(ay (λi=>f (i+1)) n+f (n+1));rw[tj f n];grind
theorem EA (f:Nat->Rat):∀l:List Nat,fa f l=ay (λb=>f (l.getD b 0)) l.length
 | []=>rfl
 |a::l=>by
  rw[List.length_cons,tj];show f a+fa f l=f a+ay (λb=>f (l.getD b 0)) l.length;rw[EA f l]
theorem fS (mem:List Nat) (f:Nat->Rat):fN mem f=fa f mem:=by
 have:∀(l:List Nat) (a:Rat),(l.map f).foldl (· + ·) a=a+fa f l:=by
  intro l;induction l with
  |nil=>intro a;show a=a+0;grind
  |cons b l ih=>intro a;show(l.map f).foldl (· + ·) (a+f b)=a+(f b+fa f l);rw[ih];grind
 unfold fN;rw[this];grind
structure iy (y:Ly):Prop where
 rk:qc y.rk
 rp:∀t∈y.rk,∀p∈t.ps,r7 y.n p
 ld:∀p∈y.pl,qc p.ld
 lp:∀p∈y.pl,∀t∈p.ld,∀q∈t.ps,r7 y.n q
 nd:(y.pl.flatMap Pl.mem).Nodup
 mn:∀p∈y.pl,∀i∈p.mem,i<y.n
def PS (y:Ly) (m:Rat) (p:Pl):Rat:=fN p.mem (cy y m)
def RS (y:Ly) (m:Rat) (p:Pl):Rat:=fN p.mem (dy y m)
def dC (y:Ly) (m:Rat) (k:Nat):Rat:=(kp y m y.pl.length).c k
def dR (y:Ly) (m:Rat):Rat:=(kp y m y.pl.length).r
def sC (y:Ly) (m:Rat) (k:Nat):Rat:=(kB y m y.pl.length).c k
theorem im (y:Ly) (m:Rat) (k:Nat):cy y m k=mC y.rk m k:=by
 unfold cy;rw[AF];show 0+_=_;unfold mC;grind
theorem mF (y:Ly) (m:Rat) (k:Nat):dy y m k=qt y.rk m k:=by
 unfold dy;rw[AF];show 0+_=_;unfold qt;grind
theorem wG {L:Pl->List Pa} (k:Nat):∀(l:List Pl) (s:Rs),(l.foldl (λs p=>jk s (L p)) s).c k=s.c k+fa (λp=>ko k (L p)) l
 | [],s=>by show s.c k=s.c k+0;grind
 |p::l,s=>by
  show(l.foldl (λs p=>jk s (L p)) (jk s (L p))).c k=s.c k+(ko k (L p)+fa _ l);rw[wG k l,AF];grind
theorem Ab {L:Pl->List Pa}:∀(l:List Pl) (s:Rs),(l.foldl (λs p=>jk s (L p)) s).r=s.r+fa (λp=>ko (-1) (L p)) l
 | [],s=>by show s.r=s.r+0;grind
 |p::l,s=>by
  show(l.foldl (λs p=>jk s (L p)) (jk s (L p))).r=s.r+(ko (-1) (L p)+fa _ l);rw[Ab l,Kc];grind
theorem o8 (y:Ly) (m:Rat) (k:Nat):dC y m k=iT y (cy y m) k+fa (λp=>mC p.ld (PS y m p) k) y.pl:=by
 unfold dC kp;rw[List.take_length];exact wG k _ _
theorem Nd (y:Ly) (m:Rat):dR y m=fa (λp=>mC p.ld (PS y m p) (-1)) y.pl:=by
 unfold dR kp;rw[List.take_length];have:=Ab (L:=λp=>jD p.ld (fN p.mem (cy y m))) y.pl ⟨iT y (cy y m),0⟩;show(y.pl.foldl (O8 y m) ⟨iT y (cy y m),0⟩).r=_;show(y.pl.foldl (λs p=>jk s (jD p.ld (fN p.mem (cy y m)))) ⟨iT y (cy y m),0⟩).r=_;rw[this];show(0:Rat)+fa (λp=>mC p.ld (PS y m p) (-1)) y.pl=_;grind
theorem Cw (y:Ly) (m:Rat) (k:Nat):sC y m k=iT y (dy y m) k+fa (λp=>RS y m p*qt p.ld (PS y m p) k) y.pl:=by
 have h:=wG (L:=λp=>jy p.ld (fN p.mem (cy y m)) (fN p.mem (dy y m))) k y.pl ⟨iT y (dy y m),0⟩;unfold sC kB;rw[List.take_length];show(y.pl.foldl (λs p=>jk s (jy p.ld (fN p.mem (cy y m)) (fN p.mem (dy y m)))) ⟨iT y (dy y m),0⟩).c k=_;rw[h];congr 1;exact d9 λp _=>xK _ _ _ _
section
variable {y : Ly} {m m' h : Rat} {k : Nat}
theorem gC (y:Ly) (f:Nat->Rat) (k:Nat):iT y f k=if k∈y.pl.flatMap Pl.mem then 0 else f k:=rfl
theorem sV (hy:iy y) (f:Nat->Rat):ay (iT y f) y.n+fa (λp=>fN p.mem f) y.pl=ay f y.n:=by
 have h1:fa (λp=>fN p.mem f) y.pl=fa f (y.pl.flatMap Pl.mem):=by
  have:∀l:List Pl,fa (λp=>fN p.mem f) l=fa f (l.flatMap Pl.mem):=λl=>by
   induction l with
   |nil=>rfl
   |cons p l ih=>rw[List.flatMap_cons,kw,<-ih,<-fS];rfl
  exact this _
 have h2:=Aq (C:=y.pl.flatMap Pl.mem) hy.nd (n:=y.n) (λc hc=>by
  obtain⟨p,hp,hc⟩:=List.mem_flatMap.1 hc;exact hy.mn p hp c hc) (λk=>if k∈y.pl.flatMap Pl.mem then f k else 0) λi hi=>if_neg hi
 rw[h1,EA f];have h3:ay (λb=>f ((y.pl.flatMap Pl.mem).getD b 0)) (y.pl.flatMap Pl.mem).length=ay (λb=>if(y.pl.flatMap Pl.mem).getD b 0∈y.pl.flatMap Pl.mem then f ((y.pl.flatMap Pl.mem).getD b 0)else 0) (y.pl.flatMap Pl.mem).length:=aJ λb hb=>(if_pos (gW hb)).symm;rw[h3,<-h2,<-fQ];refine aJ λi _=> ?_;rw[gC];split<;>grind
theorem rJ (hy:iy y) (hm:0<=m):0<=cy y m k:=by rw[im];exact zh hy.rk hm
theorem we (hy:iy y) (hm:0<=m) (hmm:m<=m'):cy y m k<=cy y m' k:=by rw[im,im];exact vw hy.rk hm hmm
theorem sT (hy:iy y) (hm:0<=m):0<=dy y m k:=by rw[mF];exact Bi hy.rk hm
theorem kX (hy:iy y) (hm:0<=m) (p:Pl):0<=PS y m p:=by unfold PS;rw[fS];exact tL λa _=>rJ hy hm
theorem uV (hy:iy y) (hm:0<=m) (hmm:m<=m') (p:Pl):PS y m p<=PS y m' p:=by unfold PS;rw[fS,fS];exact qS λa _=>we hy hm hmm
theorem zu (hy:iy y) (hm:0<=m) (p:Pl):0<=RS y m p:=by unfold RS;rw[fS];exact tL λa _=>sT hy hm
theorem Qk (hy:iy y) (hm:0<=m):0<=dC y m k:=by
 rw[o8,gC];have h1:=rJ (k:=k) hy hm;have h2:=tL (f:=λp=>mC p.ld (PS y m p) k) (l:=y.pl) λp hp=>zh (hy.ld p hp) (kX hy hm p);split<;>grind
theorem ME (hy:iy y) (hm:0<=m) (hmm:m<=m'):dC y m k<=dC y m' k:=by
 rw[o8 y m k,o8 y m' k,gC y _ k,gC y _ k];have h1:=we (k:=k) hy hm hmm;have h2:fa (λp=>mC p.ld (PS y m p) k) y.pl<=fa (λp=>mC p.ld (PS y m' p) k) y.pl:=qS λp hp=>vw (hy.ld p hp) (kX hy hm p) (uV hy hm hmm p);split<;>grind
theorem PF (hy:iy y) (hm:0<=m):0<=sC y m k:=by
 rw[Cw,gC];have h1:=sT (k:=k) hy hm;have h2:=tL (f:=λp=>RS y m p*qt p.ld (PS y m p) k) (l:=y.pl) λp hp=>fc (zu hy hm p) (Bi (hy.ld p hp) (kX hy hm p));split<;>grind
theorem uE {n:Nat}:∀ {T:List Tr} {m:Rat},(∀t∈T,∀p∈t.ps,r7 n p)->∀p∈jD T m,r7 n p
 | [],_,_,p,hp=>by
  have hp:p∈([]:List Pa):=hp;cases hp
 |t::T,m,hT,p,hp=>by
  rw[pH]at hp;split at hp
  ·obtain⟨q,hq,rfl⟩:=List.mem_map.1 hp;exact hT t (List.mem_cons_self ..) q hq
  ·rcases List.mem_append.1 hp with hp|hp
   ·exact hT t (List.mem_cons_self ..) p hp
   ·exact uE (λt ht=>hT t (List.mem_cons_of_mem _ ht)) p hp
theorem Fz {n:Nat} {r:Rat}:∀ {T:List Tr} {m:Rat},(∀t∈T,∀p∈t.ps,r7 n p)->∀p∈jy T m r,r7 n p
 | [],_,_,p,hp=>by
  have hp:p∈([]:List Pa):=hp;cases hp
 |t::T,m,hT,p,hp=>by
  rw[pS]at hp;split at hp
  ·obtain⟨q,hq,rfl⟩:=List.mem_map.1 hp;exact hT t (List.mem_cons_self ..) q hq
  ·exact Fz (λt ht=>hT t (List.mem_cons_of_mem _ ht)) p hp
theorem Kp {n:Nat} {T:List Tr} (hT:qc T) (hp:∀t∈T,∀p∈t.ps,r7 n p) (hm:0<=m) (hmm:m<=m'):ay (λk=>mC T m' k) n-ay (λk=>mC T m k) n<=m'-m:=by
 have h1:=rX (n:=n) (l:=jD T m) (uE hp);have h2:=rX (n:=n) (l:=jD T m') (uE hp);have h3:=JD hT hm hmm;have h4:=vw (c:= -1) hT hm hmm;unfold K7 at h3;unfold mC at h4;show ay (λk:Nat=>ko k (jD T m')) n-ay (λk:Nat=>ko k (jD T m)) n<=_;grind
theorem JC {n:Nat} {T:List Tr} (hT:qc T) (hp:∀t∈T,∀p∈t.ps,r7 n p) (hm:0<=m):ay (λk=>qt T m k) n<=1:=by
 have h1:=rX (n:=n) (l:=jy T m 1) (Fz hp);have h3:=Rk hT hm;have h4:=Bi (c:= -1) hT hm;unfold qt at h4;show ay (λk:Nat=>ko k (jy T m 1)) n<=_;grind
theorem O9 (hy:iy y) (hm:0<=m) (hmm:m<=m'):ay (dC y m') y.n-ay (dC y m) y.n<=m'-m:=by
 have e:∀m,ay (dC y m) y.n=ay (iT y (cy y m)) y.n+fa (λp=>ay (λk=>mC p.ld (PS y m p) k) y.n) y.pl:=λm=>by
  rw[<-sv (λp k=>mC p.ld (PS y m p) k),<-fQ];exact aJ λk _=>o8 y m k
 have h1:fa (λp=>ay (λk=>mC p.ld (PS y m' p) k) y.n-ay (λk=>mC p.ld (PS y m p) k) y.n) y.pl<=fa (λp=>PS y m' p-PS y m p) y.pl:=
  qS λp hp=>Kp (hy.ld p hp) (hy.lp p hp) (kX hy hm p) (uV hy hm hmm p)
 rw[FD,FD]at h1;have h2:=sV hy (cy y m);have h3:=sV hy (cy y m');have h4:=Kp hy.rk hy.rp hm hmm;have h5:∀m,ay (cy y m) y.n=ay (λk=>mC y.rk m k) y.n:=λm=>aJ λk _=>im y m k;have h6:∀m,fa (λp=>fN p.mem (cy y m)) y.pl=fa (λp=>PS y m p) y.pl:=λm=>rfl;rw[h5,h6]at h2 h3;rw[e,e];grind
theorem N7 (hy:iy y) (hm:0<=m):ay (sC y m) y.n<=1:=by
 have e:ay (sC y m) y.n=ay (iT y (dy y m)) y.n+fa (λp=>ay (λk=>RS y m p*qt p.ld (PS y m p) k) y.n) y.pl:=by
  rw[<-sv (λp k=>RS y m p*qt p.ld (PS y m p) k),<-fQ];exact aJ λk _=>Cw y m k
 have h1:fa (λp=>ay (λk=>RS y m p*qt p.ld (PS y m p) k) y.n) y.pl<=fa (λp=>RS y m p) y.pl:=qS λp hp=>by
  rw[jg];have:=gu (JC (hy.ld p hp) (hy.lp p hp) (kX hy hm p)) (zu hy hm p);grind
 have h2:=sV hy (dy y m);have h4:=JC hy.rk hy.rp hm;have h5:ay (dy y m) y.n=ay (λk=>qt y.rk m k) y.n:=aJ λk _=>mF y m k;have h6:fa (λp=>fN p.mem (dy y m)) y.pl=fa (λp=>RS y m p) y.pl:=rfl;rw[h5,h6]at h2;rw[e];grind
theorem wc (y:Ly) (m:Rat):∀(l:List Pl) (o:Rat),l.foldl (lS y m) o<=o/\(∀p∈l,rY y m p->l.foldl (lS y m) o<=qk y m p)/\(l.foldl (lS y m) o=o\/∃p,p∈l/\rY y m p/\l.foldl (lS y m) o=qk y m p)
 | [],o=>⟨Rat.le_refl,λ_ h=>by(cases h),.inl rfl⟩
 |p::l,o=>by
  obtain⟨h1,h2,h3⟩:=wc y m l (lS y m o p);have e:lS y m o p<=o/\(rY y m p->lS y m o p<=qk y m p)/\(lS y m o p=o\/rY y m p/\lS y m o p=qk y m p):=by
   unfold lS;by_cases g:rY y m p
   ·rw[if_pos g];unfold r6;split
    ·exact⟨by grind,λ_=>by grind,.inl rfl⟩
    ·exact⟨by grind,λ_=>Rat.le_refl,.inr ⟨g,rfl⟩⟩
   ·rw[if_neg g];exact⟨Rat.le_refl,λh=>absurd h g,.inl rfl⟩
  show l.foldl (lS y m) (lS y m o p)<=o/\_/\_;refine⟨by grind,λq hq hc=> ?_,?_⟩
  ·rcases List.mem_cons.1 hq with rfl|hq
   ·have:=e.2.1 hc;show l.foldl (lS y m) (lS y m o q)<=_;grind
   ·exact h2 q hq hc
  ·show l.foldl (lS y m) (lS y m o p)=o\/∃q,q∈p::l/\rY y m q/\l.foldl (lS y m) (lS y m o p)=qk y m q;rcases h3 with h3|⟨q,hq,hc,h3⟩
   ·rw[h3];rcases e.2.2 with e|⟨e1,e2⟩
    ·exact .inl e
    ·exact .inr ⟨p,List.mem_cons_self ..,e1,e2⟩
   ·exact .inr ⟨q,List.mem_cons_of_mem _ hq,hc,h3⟩
def xf (y:Ly) (m:Rat):Rat:=pj y m y.pl.length
theorem nG (y:Ly) (m:Rat):xf y m<=j8 y.rk m/\(∀p∈y.pl,rY y m p->xf y m<=qk y m p)/\(xf y m=j8 y.rk m\/∃p,p∈y.pl/\rY y m p/\xf y m=qk y m p):=by
 have:=wc y m y.pl (j8 y.rk m);unfold xf pj;rw[List.take_length];exact this
theorem CP {p:Pl} (hc:rY y m p):qk y m p*RS y m p=j8 p.ld (PS y m p):=by
 have:=mE (a:=j8 p.ld (PS y m p)) hc.2;rw[Rat.mul_comm]at this;exact this
theorem Av (hf:dq y.rk m<y.rk.length):0<xf y m:=by
 obtain⟨_,_,h⟩:=nG y m;rcases h with h|⟨p,hp,hc,h⟩
 ·rw[h];exact sE hf
 ·rw[h];unfold qk;rw[Rat.div_def];exact xl (sE hc.1) (uf hc.2).1
theorem zb (hy:iy y) (hm:0<=m) (h0:0<=h) (hs:dq y.rk m<y.rk.length->h<=xf y m):cy y (m+h) k=cy y m k+h*dy y m k:=by
 rw[im,im,mF];by_cases hf:dq y.rk m<y.rk.length
 ·exact D8 hy.rk hm h0 hf (by have:=(nG y m).1;have:=hs hf;grind)
 ·obtain⟨e1,e2⟩:=rF (c:=k) h0 hf;rw[e1,e2];grind
theorem HG (hy:iy y) (hm:0<=m) (h0:0<=h) (hs:dq y.rk m<y.rk.length->h<=xf y m) (p:Pl):PS y (m+h) p=PS y m p+h*RS y m p:=by
 unfold PS RS;rw[fS,fS,fS,<-lX];exact d9 λa _=>zb hy hm h0 hs
theorem E5 (hf:¬dq y.rk m<y.rk.length) (p:Pl):RS y m p=0:=by
 unfold RS;rw[fS,d9 (g:=λ_=>(0:Rat)+0*0) λa _=> ?_]
 ·rw[lX (λ_=>(0:Rat)) (λ_=>0) 0];have:=lX (λ_:Nat=>(0:Rat)) (λ_=>0) 1 p.mem;have e:fa (λa:Nat=>(0:Rat)+1*0) p.mem=fa (λ_=>0) p.mem:=d9 λ_ _=>by grind
  rw[e]at this;grind
 ·rw[mF,(rF (h:=0) (c:=a) dD hf).2];grind
theorem Jy (hy:iy y) (hm:0<=m) (h0:0<=h) (hs:dq y.rk m<y.rk.length->h<=xf y m) {p:Pl} (hp:p∈y.pl) (c:Int):mC p.ld (PS y (m+h) p) c=mC p.ld (PS y m p) c+h*(RS y m p*qt p.ld (PS y m p) c):=by
 have hr:=zu hy hm p;have hhr:=fc h0 hr;rw[HG hy hm h0 hs];by_cases hl:dq p.ld (PS y m p)<p.ld.length
 ·rw[D8 (hy.ld p hp) (kX hy hm p) hhr hl ?_]
  ·grind
  ·have gp:=sE hl;by_cases hr0:0<RS y m p
   ·by_cases hf:dq y.rk m<y.rk.length
    ·have hc:rY y m p:=⟨hl,hr0⟩;have h1:=(nG y m).2.1 p hp hc;have h2:=CP hc;have h3:=hs hf;have h4:=gu (show h<=qk y m p by grind) hr;grind
    ·rw[E5 hf]at hr0;exact absurd hr0 Rat.lt_irrefl
   ·have:RS y m p=0:=by grind
    rw[this];grind
 ·obtain⟨e1,e2⟩:=rF (c:=c) hhr hl;rw[e1,e2];grind
theorem It (hy:iy y) (hm:0<=m) (h0:0<=h) (hs:dq y.rk m<y.rk.length->h<=xf y m):dC y (m+h) k=dC y m k+h*sC y m k:=by
 rw[o8,o8,Cw,gC,gC,gC,zb hy hm h0 hs,d9 λp hp=>Jy hy hm h0 hs hp k,lX];split<;>grind
theorem Mm (hf:¬dq y.rk m<y.rk.length):sC y m k=0:=by
 rw[Cw,gC,mF,(rF (h:=0) (c:=k) dD hf).2];have:fa (λp=>RS y m p*qt p.ld (PS y m p) k) y.pl=fa (λ_=>0) y.pl:=d9 λp _=>by rw[E5 hf,Rat.zero_mul]
 rw[this];have h1:=lX (λ_:Pl=>(0:Rat)) (λ_=>0) 1 y.pl;have e:fa (λa:Pl=>(0:Rat)+1*0) y.pl=fa (λ_=>0) y.pl:=d9 λ_ _=>by grind
 rw[e]at h1;split<;>grind
def oC (y:Ly) (m:Rat):Nat:=(y.rk.length-dq y.rk m)+(y.pl.map λp=>p.ld.length-dq p.ld (PS y m p)).sum
theorem zx {f g:Pl->Nat}:∀ {l:List Pl},(∀p∈l,f p<=g p)->(l.map f).sum<=(l.map g).sum/\((∃p,p∈l/\f p<g p)->(l.map f).sum<(l.map g).sum)
 | [],_=>⟨Nat.le_refl _,λ⟨_,h,_⟩=>by cases h⟩
 |a::l,h=>by
  obtain⟨h1,h2⟩:=zx (l:=l) λp hp=>h p (List.mem_cons_of_mem _ hp);have h3:=h a (List.mem_cons_self ..);rw[List.map_cons,List.map_cons,List.sum_cons,List.sum_cons];refine⟨oO,λ⟨p,hp,hlt⟩=> ?_⟩;rcases List.mem_cons.1 hp with rfl|hp
  ·omega
  ·have:=h2 ⟨p,hp,hlt⟩;omega
theorem BC (hy:iy y) (hm:0<=m) (hmm:m<=m'):oC y m'<=oC y m:=by
 have h1:=o7 (T:=y.rk) hmm;have h2:=(zx (f:=λp=>p.ld.length-dq p.ld (PS y m' p)) (g:=λp=>p.ld.length-dq p.ld (PS y m p)) (l:=y.pl) λp _=>by
  have:=o7 (T:=p.ld) (uV hy hm hmm p);omega).1
 unfold oC;omega
theorem Bk (hy:iy y) (hm:0<=m) (hf:dq y.rk m<y.rk.length):oC y (m+xf y m)<oC y m:=by
 have hp:=Av hf;have hmm:m<=m+xf y m:=by grind
 have h1:=o7 (T:=y.rk) hmm;have h2:=zx (f:=λp=>p.ld.length-dq p.ld (PS y (m+xf y m) p)) (g:=λp=>p.ld.length-dq p.ld (PS y m p)) (l:=y.pl) λp _=>by
  have:=o7 (T:=p.ld) (uV hy hm hmm p);omega
 unfold oC;rcases(nG y m).2.2 with e|⟨p,hp',hc,e⟩
 ·have:=zK hf;rw[<-e]at this;have:=h2.1;have:=lT y.rk (m+xf y m);omega
 ·have h3:=HG hy hm (Rat.le_of_lt hp) (λ_=>Rat.le_refl) p;have h4:=CP hc;rw[<-e]at h4;rw[h4]at h3;have h5:=zK hc.1;have h6:dq p.ld (PS y m p)<dq p.ld (PS y (m+xf y m) p):=by rw[h3];exact h5
  have:=lT p.ld (PS y (m+xf y m) p);have:=h2.2 ⟨p,hp',by show _-_<_-_;omega⟩;omega
theorem Cc (hy:iy y) {m0:Rat} (h0:0<=m0):∀(f:Nat) (m:Rat),m0<=m->(∀k,k<y.n->sC y m k=sC y m0 k)->(∀m'',m0<=m''->m''<=m->∀k,k<y.n->dC y m'' k=dC y m0 k+(m''-m0)*sC y m0 k)->oC y m<f->
  match A9 y m0 f m with
  |some z=>m0<z/\oC y z<oC y m0/\∀m'',m0<=m''->m''<=z->∀k,k<y.n->dC y m'' k=dC y m0 k+(m''-m0)*sC y m0 k
  |none=>(∀k,k<y.n->sC y m0 k=0)/\∀m'',m0<=m''->∀k,k<y.n->dC y m'' k=dC y m0 k+(m''-m0)*sC y m0 k
 |0,_,_,_,_,hmu=>absurd hmu (Nat.not_lt_zero _)
 |f+1,m,hmm,hs,hl,hmu=>by
  have hm:0<=m:=by grind
  unfold A9;by_cases hf:dq y.rk m<y.rk.length
  ·have hp:=Av hf;have hst:=Bk hy hm hf;have hmo:=BC hy h0 hmm;have hl2:∀m'',m0<=m''->m''<=sw y m->∀k,k<y.n->dC y m'' k=dC y m0 k+(m''-m0)*sC y m0 k:=λm'' h1 h2 k hk=>by
    by_cases g:m''<=m
    ·exact hl m'' h1 g k hk
    ·have h3:m''<=m+xf y m:=h2;have e:=It (k:=k) (h:=m''-m) hy hm (by grind) (λ_=>by grind);rw[show m+(m''-m)=m'' by grind,hl m hmm Rat.le_refl k hk,hs k hk]at e;grind
   rw[if_pos hf];by_cases he:AW y (sw y m)=AW y m0/\FL y (sw y m)=FL y m0
   ·rw[if_pos he];have hmu2:oC y (sw y m)<oC y m:=hst;have hmn:m<sw y m:=by show m<m+xf y m;grind
    refine Cc hy h0 f (sw y m) (by grind) (λk hk=> ?_) hl2 oO;have h1:(FL y (sw y m)).getD k bM=(FL y m0).getD k bM:=by rw[he.2]
    unfold FL at h1;rw[aV _ _ hk,aV _ _ hk]at h1;have h2:=congrArg toQ h1;rw[toQ_ofQ,toQ_ofQ]at h2;exact h2
   ·rw[if_neg he];have hmu2:oC y (sw y m)<oC y m:=hst;exact⟨by show m0<m+xf y m;grind,oO,hl2⟩
  ·rw[if_neg hf];have hz:∀k,k<y.n->sC y m0 k=0:=λk hk=>by rw[<-hs k hk];exact Mm hf
   refine⟨hz,λm'' h1 k hk=> ?_⟩;by_cases g:m''<=m
   ·exact hl m'' h1 g k hk
   ·have e:=It (k:=k) (h:=m''-m) hy hm (by grind) (λh=>absurd h hf);rw[show m+(m''-m)=m'' by grind,hl m hmm Rat.le_refl k hk,hs k hk]at e;grind
theorem z8 (hy:iy y) {m0:Rat} (h0:0<=m0) {f:Nat} (hf:oC y m0<f):
  match A9 y m0 f m0 with
  |some z=>m0<z/\oC y z<oC y m0/\∀m'',m0<=m''->m''<=z->∀k,k<y.n->dC y m'' k=dC y m0 k+(m''-m0)*sC y m0 k
  |none=>(∀k,k<y.n->sC y m0 k=0)/\∀m'',m0<=m''->∀k,k<y.n->dC y m'' k=dC y m0 k+(m''-m0)*sC y m0 k:=
 Cc hy h0 f m0 Rat.le_refl (λ_ _=>rfl) (λm'' h1 h2 k _=>by
  have:m''=m0:=by grind
  rw[this];grind) hf
theorem EZ (hy:iy y):dC y 0 k=0:=by
 have hg:∀a,cy y 0 a=0:=λa=>by rw[im];exact uQ hy.rk
 have hP:∀p,PS y 0 p=0:=λp=>by
  unfold PS;rw[fS,d9 (g:=λ_=>(0:Rat)) λa _=>hg a];have h1:=lX (λ_:Nat=>(0:Rat)) (λ_=>0) 1 p.mem;have e:fa (λa:Nat=>(0:Rat)+1*0) p.mem=fa (λ_=>0) p.mem:=d9 λ_ _=>by grind
  rw[e]at h1;grind
 rw[o8,gC,hg,d9 (g:=λ_=>(0:Rat)) λp hp=>by rw[hP];exact uQ (hy.ld p hp)];have h1:=lX (λ_:Pl=>(0:Rat)) (λ_=>0) 1 y.pl;have e:fa (λa:Pl=>(0:Rat)+1*0) y.pl=fa (λ_=>0) y.pl:=d9 λ_ _=>by grind
 rw[e]at h1;split<;>grind
end
section
variable {W h : Rat} {q q' s : Nat → Rat} {n k : Nat}
theorem dW (a:Rat):pQ a=a/\0<=a\/pQ a=0/\a<=0:=by
 unfold pQ yu;split<;>grind
theorem ik (hq:∀j,j<k->0<=q j):fP q k=ay q k:=aJ λj hj=>by
 have:=hq j hj;rcases dW (q j)with h|h<;>grind
theorem iP (W:Rat) (q:Nat->Rat):∀k,oP W q k=pQ (fP q k-pQ W)
 |0=>by
  show 0=pQ (0-pQ W);rcases dW W with h|h<;>rcases dW (0-pQ W)with h2|h2<;>grind
 |k+1=>rfl
theorem mI (W:Rat) (q:Nat->Rat) (hs:∀j,j<k->0<=s j):qi W q s k=(if pQ W<=fP q k then 1 else 0)*ay s k:=by
 cases k with
 |zero=>show(0:Rat)=_*0;grind
 |succ k=>
  show(if pQ W<=fP q (k+1)then fP s (k+1)else 0)=_;rw[ik hs];split<;>grind
theorem p8 (W:Rat) (q:Nat->Rat):∀n,ay (mK W q) n=oP W q n
 |0=>rfl
 |n+1=>by
  show ay (mK W q) n+(oP W q (n+1)-oP W q n)=_;rw[p8 W q n];grind
theorem mS (W:Rat) (q s:Nat->Rat):∀n,ay (x6 W q s) n=qi W q s n
 |0=>rfl
 |n+1=>by
  show ay (x6 W q s) n+(qi W q s (n+1)-qi W q s n)=_;rw[mS W q s n];grind
theorem MO (h1:∀j,j<n->0<=q j) (h2:∀j,j<n->q j<=q' j) (hk:k<n):mK W q k<=mK W q' k:=by
 have a:=fY (n:=k) λj hj=>h2 j oO;have b:=h2 k hk;have c:=h1 k hk;unfold mK;rw[iP,iP,iP,iP,ik λj hj=>h1 j oO,ik λj hj=>h1 j oO,ik λj hj=>Rat.le_trans (h1 j oO) (h2 j oO),ik λj hj=>Rat.le_trans (h1 j oO) (h2 j oO)];have e1:ay q (k+1)=ay q k+q k:=rfl;have e2:ay q' (k+1)=ay q' k+q' k:=rfl;rw[e1,e2];generalize ay q k=x at*;generalize ay q' k=y at*;generalize pQ W=w at*;rcases dW (x+q k-w)with g1|g1<;>rcases dW (x-w)with g2|g2<;>rcases dW (y+q' k-w)with g3|g3<;>rcases dW (y-w)with g4|g4<;>grind
theorem Qc (h1:∀j,j<n->0<=q j) (hk:k<n):0<=mK W q k:=by
 have a:=fg (n:=k) λj hj=>h1 j oO;have c:=h1 k hk;unfold mK;rw[iP,iP,ik λj hj=>h1 j oO,ik λj hj=>h1 j oO];have e1:ay q (k+1)=ay q k+q k:=rfl;rw[e1];generalize ay q k=x at*;generalize pQ W=w at*;rcases dW (x+q k-w)with g1|g1<;>rcases dW (x-w)with g2|g2<;>grind
def qA (W:Rat) (q:Nat->Rat) (n:Nat):Rat:=ay q n-ay (mK W q) n
theorem F4 (h1:∀j,j<n->0<=q j) (h2:∀j,j<n->q j<=q' j):qA W q n<=qA W q' n:=by
 have a:=fY h2;unfold qA;rw[p8,p8,iP,iP,ik h1,ik λj hj=>Rat.le_trans (h1 j hj) (h2 j hj)];generalize ay q n=x at*;generalize ay q' n=y at*;generalize pQ W=w at*;rcases dW (x-w)with g2|g2<;>rcases dW (y-w)with g4|g4<;>grind
theorem Qz (h1:∀j,j<n->0<=q j):0<=qA W q n:=by
 have a:=fg h1;have b:0<=pQ W:=by rcases dW W with g|g<;>grind
 unfold qA;rw[p8,iP,ik h1];generalize ay q n=x at*;generalize pQ W=w at*;rcases dW (x-w)with g2|g2<;>grind
theorem PG (h1:∀j,j<n->0<=q j) (hs:∀j,j<n->0<=s j) (hk:k<n):0<=x6 W q s k:=by
 have a:=fg (n:=k) λj hj=>hs j oO;have b:=hs k hk;have c:=h1 k hk;unfold x6;rw[mI W q λj hj=>hs j oO,mI W q λj hj=>hs j oO,ik λj hj=>h1 j oO,ik λj hj=>h1 j oO];have e1:ay q (k+1)=ay q k+q k:=rfl;have e2:ay s (k+1)=ay s k+s k:=rfl;rw[e1,e2];generalize ay q k=x at*;generalize ay s k=y at*;generalize pQ W=w at*;by_cases g1:w<=x
 ·rw[if_pos g1,if_pos (by grind)];grind
 ·rw[if_neg g1];split<;>grind
def yl (W:Rat) (q s:Nat->Rat) (n:Nat):Rat:=ay s n-ay (x6 W q s) n
theorem Ns (hs:∀j,j<n->0<=s j):0<=yl W q s n:=by
 have a:=fg hs;unfold yl;rw[mS,mI W q hs];split<;>grind
theorem Oa (h1:∀j,j<n->0<=q j) (hs:∀j,j<n->0<=s j) (h0:0<=h) (hl:∀k,k<n->0<pQ W-ay q (k+1)->0<ay s (k+1)->h*ay s (k+1)<=pQ W-ay q (k+1)) (hk:k<=n):
  oP W (λj=>q j+h*s j) k=oP W q k+h*qi W q s k:=by
 have a:=fg (n:=k) λj hj=>hs j oO;rw[iP,iP,mI W q λj hj=>hs j oO,ik λj hj=>h1 j oO,ik λj hj=>by
  have b:=h1 j oO;have c:=fc h0 (hs j oO);grind,eu]
 have hl2:0<pQ W-ay q k->0<ay s k->h*ay s k<=pQ W-ay q k:=by
  cases k with
  |zero=>intro _ g;exact absurd g Rat.lt_irrefl
  |succ k=>exact hl k oO
 have hha:=fc h0 a;generalize ay q k=x at*;generalize ay s k=y at*;generalize pQ W=w at*;by_cases g1:w<=x
 ·rw[if_pos g1];rcases dW (x-w)with g2|g2<;>rcases dW (x+h*y-w)with g3|g3<;>grind
 ·rw[if_neg g1];by_cases g4:0<y
  ·have:=hl2 (by grind) g4;rcases dW (x-w)with g2|g2<;>rcases dW (x+h*y-w)with g3|g3<;>grind
  ·have e:y=0:=by grind
   rw[e];rcases dW (x-w)with g2|g2<;>rcases dW (x+h*0-w)with g3|g3<;>grind
end
theorem lZ {α:Type} (f:α->Rat) (r:Nat->List α):∀k,fa f (dV r k)=ay (λi=>fa f (r i)) k
 |0=>rfl
 |k+1=>by rw[gA,kw,lZ f r k];rfl
theorem Cs {α:Type} (f:α->Rat) (d:α):∀l:List α,fa f l=ay (λb=>f (l.getD b d)) l.length
 | []=>rfl
 |a::l=>by
  rw[List.length_cons,tj];show f a+fa f l=f a+ay (λb=>f (l.getD b d)) l.length;rw[Cs f d l]
theorem Nv (a b:Nat):∀(T:List Do) (M:Mx),T.foldl (λM o=>j7 M o.1 o.2.1 o.2.2) M a b=M a b+fa (λo=>if o.1=a/\o.2.1=b then o.2.2 else 0) T
 | [],M=>by show M a b=M a b+0;grind
 |o::T,M=>by
  show T.foldl (λM o=>j7 M o.1 o.2.1 o.2.2) (j7 M o.1 o.2.1 o.2.2) a b=M a b+((if o.1=a/\o.2.1=b then o.2.2 else 0)+fa _ T);rw[Nv a b T];have:j7 M o.1 o.2.1 o.2.2 a b=M a b+if o.1=a/\o.2.1=b then o.2.2 else 0:=by
   unfold j7;by_cases h:a=o.1/\b=o.2.1
   ·rw[if_pos h,if_pos ⟨h.1.symm,h.2.symm⟩,h.1,h.2]
   ·rw[if_neg h,if_neg λg=>h ⟨g.1.symm,g.2.symm⟩];grind
  rw[this];grind
def iM (g:fp) (B:Nat->Nat->Bool) (v:Nat->Nat->Rat) (j i:Nat):Rat:=ay (λc=>if(g.c i c).h=(j:Int)/\B i c=false then v i c else 0) (g.cn i)
def gT (g:fp) (d j:Nat) (r:Nat->Rat) (s:Rat):Rat:=ay (λk=>if(g.lg d k).1=j then r k else 0) (dB g d)+if 0<dB g d/\CV g d=(j:Int)then s else 0
def F0 (g:fp) (B:Nat->Nat->Bool) (dl:Nat->Nat->Rat) (j:Nat):Rat:=
 ay (iM g B dl j) g.n+ay (λd=>gT g d j (mK (g.d d).W (qD g dl d)) (qA (g.d d).W (qD g dl d) (dB g d))) g.ds.length
section
variable {g : fp} {B : Nat → Nat → Bool} {v v' : Nat → Nat → Rat} {j i d : Nat} {r r' : Nat → Rat} {s s' t : Rat}
theorem BI (g:fp) (B:Nat->Nat->Bool) (v v':Nat->Nat->Rat) (t:Rat) (j i:Nat):iM g B (λi c=>v i c+t*v' i c) j i=iM g B v j i+t*iM g B v' j i:=by
 unfold iM;rw[<-eu];exact aJ λc _=>by split<;>grind
theorem MJ (h:∀c,c<g.cn i->v i c<=v' i c):iM g B v j i<=iM g B v' j i:=fY λc hc=>by
 have:=h c hc;split<;>grind
theorem E1 (h:∀c,c<g.cn i->0<=v i c):0<=iM g B v j i:=fg λc hc=>by
 have:=h c hc;split<;>grind
theorem wv (g:fp) (d j:Nat) (r r':Nat->Rat) (s s' t:Rat):gT g d j (λk=>r k+t*r' k) (s+t*s')=gT g d j r s+t*gT g d j r' s':=by
 unfold gT;have e:ay (λk=>if(g.lg d k).1=j then r k+t*r' k else 0) (dB g d)=ay (λk=>if(g.lg d k).1=j then r k else 0) (dB g d)+t*ay (λk=>if(g.lg d k).1=j then r' k else 0) (dB g d):=by
  rw[<-eu];exact aJ λc _=>by split<;>grind
 rw[e];split<;>grind
theorem qR (h:∀k,k<dB g d->r k=r' k):gT g d j r s=gT g d j r' s:=by
 unfold gT;rw[aJ λk hk=>by rw[h k hk]]
theorem Ma (h:∀k,k<dB g d->r k<=r' k) (hs:s<=s'):gT g d j r s<=gT g d j r' s':=by
 have a:=fY (f:=λk=>if(g.lg d k).1=j then r k else 0) (g:=λk=>if(g.lg d k).1=j then r' k else 0) (n:=dB g d) λk hk=>by
  have:=h k hk;split<;>grind
 unfold gT;split<;>grind
theorem FA (h:∀k,k<dB g d->0<=r k) (hs:0<=s):0<=gT g d j r s:=by
 have a:=fg (f:=λk=>if(g.lg d k).1=j then r k else 0) (n:=dB g d) λk hk=>by
  have:=h k hk;split<;>grind
 unfold gT;split<;>grind
theorem HL {n:Nat} {a:Nat->Rat} (x:Nat) (hx:x<n):ay (λj=>if x=j then a j else 0) n=a x:=by
 rw[fk (p:=x) hx λi _ hi=>if_neg λe=>hi e.symm,if_pos rfl]
theorem E6 {n:Nat} {a:Rat} (ha:0<=a) (x:Int) (p:Prop) [Decidable p]:ay (λj=>if x=(j:Int)/\p then a else 0) n<=if p then a else 0:=by
 by_cases hp:p
 ·rw[if_pos hp];by_cases hx:∃k:Nat,k<n/\x=k
  ·obtain⟨k,hk,e⟩:=hx;rw[fk (p:=k) hk λi _ hi=>if_neg λh=>hi oO];split
   ·exact Rat.le_refl
   ·exact ha
  ·rw[cj λi hi=>if_neg λh=>hx ⟨i,hi,h.1⟩];exact ha
 ·rw[if_neg hp,cj λi _=>if_neg λh=>hp h.2];exact Rat.le_refl
theorem Bf (h:∀c,c<g.cn i->0<=v i c) (n:Nat):ay (λj=>iM g B v j i) n<=ay (λc=>if B i c=false then v i c else 0) (g.cn i):=by
 unfold iM;rw[iC];exact fY λc hc=>E6 (h c hc) _ _
theorem Ca {n:Nat} (hl:∀k,k<dB g d->(g.lg d k).1<n) (hs:0<=s):ay (λj=>gT g d j r s) n<=ay r (dB g d)+s:=by
 have e1:ay (λj=>ay (λk=>if(g.lg d k).1=j then r k else 0) (dB g d)) n=ay r (dB g d):=by
  rw[iC];exact aJ λk hk=>HL (a:=λ_=>r k) _ (hl k hk)
 have e2:ay (λj=>if 0<dB g d/\CV g d=(j:Int)then s else 0) n<=s:=by
  have h1:=E6 (n:=n) hs (CV g d) (0<dB g d);have h2:ay (λj=>if 0<dB g d/\CV g d=(j:Int)then s else 0) n=ay (λj=>if CV g d=(j:Int)/\0<dB g d then s else 0) n:=aJ λj _=>by simp only[and_comm]
  rw[h2];split at h1<;>grind
 unfold gT;rw[fQ,e1];grind
end
def AL (g:fp):List (Nat×Nat):=dV (λd=>(g.d d).legs) g.ds.length
structure fo (g:fp) (Y:Nat->Ly) (B:Nat->Nat->Bool):Prop where
 ly:∀i,i<g.n->iy (Y i)
 yn:∀i,i<g.n->(Y i).n=g.cn i
 cash:∀i,i<g.n->0<=uy g i
 ho:Iz g
 lg:nj g
 lb:∀i,i<g.n->∀c,c<g.cn i->(B i c=true↔(i,c)∈AL g)
 nd:(AL g).Nodup
theorem Ok {g:fp} {p:Nat×Nat}:p∈AL g↔∃d,d<g.ds.length/\p∈(g.d d).legs:=by
 unfold AL dV;rw[List.mem_flatMap];constructor
 ·rintro⟨d,h1,h2⟩;exact⟨d,List.mem_range.1 h1,h2⟩
 ·rintro⟨d,h1,h2⟩;exact⟨d,List.mem_range.2 h1,h2⟩
theorem NO (g:fp) (f:Nat->Nat->Rat):ay (λd=>ay (λk=>f (g.lg d k).1 (g.lg d k).2) (dB g d)) g.ds.length=fa (λp=>f p.1 p.2) (AL g):=by
 unfold AL;rw[lZ];exact aJ λd _=>(Cs (λp:Nat×Nat=>f p.1 p.2) (0,0) (g.d d).legs).symm
theorem B9 (n:Nat) (cn:Nat->Nat) (f:Nat->Nat->Rat):∀ {l:List (Nat×Nat)},l.Nodup->(∀p∈l,p.1<n/\p.2<cn p.1)->fa (λp=>f p.1 p.2) l=ay (λi=>ay (λc=>if(i,c)∈l then f i c else 0) (cn i)) n
 | [],_,_=>(cj λi _=>cj λc _=>by simp).symm
 |p::l,hn,hr=>by
  have hp:=(List.nodup_cons.1 hn).1;obtain⟨h1,h2⟩:=hr p (List.mem_cons_self ..);show f p.1 p.2+fa _ l=_;rw[B9 n cn f (List.nodup_cons.1 hn).2 λq hq=>hr q (List.mem_cons_of_mem _ hq)];have e1:ay (λi=>ay (λc=>if(i,c)=p then f i c else 0) (cn i)) n=f p.1 p.2:=by
   rw[fk (p:=p.1) h1 λi _ hi=>cj λc _=>if_neg λe=>hi (by rw[<-e]),fk (p:=p.2) h2 λc _ hc=>if_neg λe=>hc (by rw[<-e]),if_pos rfl]
  rw[<-e1,<-fQ];refine aJ λi _=> ?_;rw[<-fQ];refine aJ λc _=> ?_;by_cases e:(i,c)=p
  ·rw[if_pos e,if_neg (by rw[e];exact hp),if_pos (by rw[e];exact List.mem_cons_self ..)];grind
  ·rw[if_neg e];by_cases e2:(i,c)∈l
   ·rw[if_pos e2,if_pos (List.mem_cons_of_mem _ e2)];grind
   ·rw[if_neg e2,if_neg λh=>(List.mem_cons.1 h).elim e e2];grind
theorem Fx {g:fp} {Y:Nat->Ly} {B:Nat->Nat->Bool} (G:fo g Y B) (f:Nat->Nat->Rat):ay (λd=>ay (λk=>f (g.lg d k).1 (g.lg d k).2) (dB g d)) g.ds.length+ay (λi=>ay (λc=>if B i c=false then f i c else 0) (g.cn i)) g.n=ay (λi=>ay (f i) (g.cn i)) g.n:=by
 rw[NO,B9 g.n g.cn f G.nd λp hp=> ?_,<-fQ]
 ·refine aJ λi hi=> ?_;rw[<-fQ];refine aJ λc hc=> ?_;have:=G.lb i hi c hc;by_cases e:(i,c)∈AL g
  ·rw[if_pos e,this.2 e,if_neg dD];grind
  ·rw[if_neg e,if_pos (by cases hb:B i c with|false=>rfl|true=>exact absurd (this.1 hb) e)];grind
 ·obtain⟨d,hd,hp⟩:=Ok.1 hp;obtain⟨k,hk,e⟩:=List.getElem_of_mem hp;have h:=G.lg d hd k hk;have e2:g.lg d k=p:=by
   show(g.d d).legs.getD k (0,0)=p;rw[List.getD_eq_getElem?_getD,List.getElem?_eq_getElem hk,e];rfl
  rw[e2]at h;exact h
section
variable {W : Rat} {q : Nat → Rat} {s : Nat → Nat → Rat} {d : Nat → Rat} {n k : Nat}
theorem zy (hs:∀i,i<n->∀j,j<k->0<=s i j) (hd:∀i,i<n->0<=d i):ay (λi=>d i*qi W q (s i) k) n=qi W q (λj=>ay (λi=>d i*s i j) n) k:=by
 rw[mI W q λj hj=>fg λi hi=>fc (hd i hi) (hs i hi j hj),iC,<-jg];refine aJ λi hi=> ?_;rw[mI W q (hs i hi),jg];grind
theorem N8 (hs:∀i,i<n->∀j,j<k+1->0<=s i j) (hd:∀i,i<n->0<=d i):ay (λi=>d i*x6 W q (s i) k) n=x6 W q (λj=>ay (λi=>d i*s i j) n) k:=by
 unfold x6;rw[<-zy hs hd,<-zy (k:=k) (λi hi j hj=>hs i hi j oO) hd,<-gj];exact aJ λi _=>by grind
theorem OY (hs:∀i,i<n->∀j,j<k->0<=s i j) (hd:∀i,i<n->0<=d i):ay (λi=>d i*yl W q (s i) k) n=yl W q (λj=>ay (λi=>d i*s i j) n) k:=by
 unfold yl;rw[mS,<-zy hs hd,iC,<-gj];refine aJ λi _=> ?_;rw[mS,jg];grind
end
section
variable {g : fp} {Y : Nat → Ly} {B : Nat → Nat → Bool} {dl sl dl' sl' : Nat → Nat → Rat}
theorem za (g:fp) (e j:Nat) (d:Nat->Rat) (r:Nat->Nat->Rat) (s:Nat->Rat):∀n,ay (λi=>d i*gT g e j (r i) (s i)) n=gT g e j (λk=>ay (λi=>d i*r i k) n) (ay (λi=>d i*s i) n)
 |0=>by
  unfold gT;rw[cj (f:=λk=>if(g.lg e k).1=j then ay (λi=>d i*r i k) 0 else 0) λk _=>by split<;>rfl];show(0:Rat)=0+if _ then 0 else 0
  split<;>grind
 |n+1=>by
  show ay _ n+d n*gT g e j (r n) (s n)=gT g e j (λk=>ay (λi=>d i*r i k) n+d n*r n k) (ay (λi=>d i*s i) n+d n*s n);rw[za g e j d r s n,wv]
def Bh (g:fp) (B:Nat->Nat->Bool) (dl sl:Nat->Nat->Rat) (j i:Nat):Rat:=iM g B sl j i+ay (λd=>gT g d j (pD g dl sl d i) (yl (g.d d).W (qD g dl d) (j0 g sl d i) (dB g d))) g.ds.length
theorem AH {α:Type} (f:α->Rat) (p:Prop) [Decidable p] (a:α):fa f (if p then [a]else [])=if p then f a else 0:=by
 split
 ·show f a+0=f a;grind
 ·rfl
theorem EP (hho:Iz g) (hl:nj g) {i:Nat} (hi:i<g.n) (j:Nat):rP (DS g B dl sl) j i=Bh g B dl sl j i:=by
 have h0:=Nv j i (DS g B dl sl) λ_ _=>0;have h1:rP (DS g B dl sl) j i=fa (λo=>if o.1=j/\o.2.1=i then o.2.2 else 0) (DS g B dl sl):=by
  unfold rP;rw[h0];grind
 rw[h1];unfold DS Bh;rw[kw,lZ,lZ];congr 1
 ·rw[fk (p:=i) hi λi' _ hne=> ?_]
  ·unfold ux iM;rw[lZ];refine aJ λc hc=> ?_;unfold lI;rw[AH];by_cases e:(g.c i c).h= -1
   ·rw[if_neg λh=>h.1 e,if_neg λh=>oO]
   ·obtain⟨a,_,ea⟩:=hho i hi c hc e;rw[ea];by_cases hb:B i c=false
    ·rw[if_pos ⟨oO,hb⟩];by_cases e2:a=j
     ·rw[if_pos ⟨by rw[e2];rfl,rfl⟩,if_pos ⟨oO,hb⟩]
     ·rw[if_neg λh=>e2 h.1,if_neg λh=>e2 oO]
    ·rw[if_neg λh=>hb h.2,if_neg λh=>hb h.2]
  ·unfold ux;rw[lZ];refine cj λc _=> ?_;unfold lI;rw[AH];split
   ·exact if_neg λh=>hne h.2
   ·rfl
 ·refine aJ λd hd=> ?_;unfold yt;rw[lZ,fk (p:=i) hi λi' _ hne=> ?_]
  ·unfold pb gT;rw[kw,lZ];congr 1
   ·refine aJ λk _=> ?_;show(if(g.lg d k).1=j/\i=i then pD g dl sl d i k else 0)+0=_;by_cases e:(g.lg d k).1=j
    ·rw[if_pos ⟨e,rfl⟩,if_pos e];grind
    ·rw[if_neg λh=>e h.1,if_neg e];grind
   ·unfold tF;rw[AH];by_cases e:0<dB g d
    ·by_cases e2:CV g d= -1
     ·rw[if_neg λh=>h.2 e2,if_neg λh=>oO]
     ·obtain⟨a,_,ea⟩:=hho (g.lg d 0).1 (hl d hd 0 e).1 (g.lg d 0).2 (hl d hd 0 e).2 e2;have ea':CV g d=a:=ea;rw[if_pos ⟨e,e2⟩,ea'];by_cases e3:a=j
      ·rw[if_pos ⟨by rw[e3];rfl,rfl⟩,if_pos ⟨e,oO⟩];rfl
      ·rw[if_neg λh=>e3 h.1,if_neg λh=>e3 oO]
    ·rw[if_neg λh=>e h.1,if_neg λh=>e h.1]
  ·unfold pb;rw[kw,lZ,cj λk _=> ?_]
   ·unfold tF;rw[AH];split
    ·rw[if_neg λh=>hne h.2];grind
    ·grind
   ·show(if(g.lg d k).1=j/\i'=i then pD g dl sl d i' k else 0)+0=_;rw[if_neg λh=>hne h.2];grind
structure uz (g:fp) (v:Nat->Nat->Rat):Prop where
 nn:∀i,i<g.n->∀c,c<g.cn i->0<=v i c
theorem xi (G:fo g Y B) (h:uz g dl) {d:Nat} (hd:d<g.ds.length) {k:Nat} (hk:k<dB g d):0<=qD g dl d k:=h.nn _ (G.lg d hd k hk).1 _ (G.lg d hd k hk).2
theorem xp (G:fo g Y B) (h:uz g sl) {d:Nat} (hd:d<g.ds.length) (i:Nat) {k:Nat} (hk:k<dB g d):0<=j0 g sl d i k:=by
 have:=h.nn _ (G.lg d hd k hk).1 _ (G.lg d hd k hk).2;unfold j0;split
 ·exact this
 ·exact Rat.le_refl
theorem NS (G:fo g Y B) (hd:uz g dl) (hs:uz g sl) {i:Nat} (hi:i<g.n) (j:Nat):0<=Bh g B dl sl j i:=by
 have h1:=E1 (g:=g) (B:=B) (v:=sl) (j:=j) (i:=i) λc hc=>hs.nn i hi c hc;have h2:=fg (f:=λd=>gT g d j (pD g dl sl d i) (yl (g.d d).W (qD g dl d) (j0 g sl d i) (dB g d))) (n:=g.ds.length) λd hd'=>
  FA (λk hk=>PG (λk hk=>xi G hd hd' hk) (λk hk=>xp G hs hd' i hk) hk) (Ns λk hk=>xp G hs hd' i hk)
 unfold Bh;grind
theorem EQ (G:fo g Y B) (hs:uz g sl) {i:Nat} (hi:i<g.n):ay (λj=>Bh g B dl sl j i) g.n<=ay (sl i) (g.cn i):=by
 have e:ay (λj=>Bh g B dl sl j i) g.n=ay (λj=>iM g B sl j i) g.n+ay (λd=>ay (λj=>gT g d j (pD g dl sl d i) (yl (g.d d).W (qD g dl d) (j0 g sl d i) (dB g d))) g.n) g.ds.length:=by
  rw[<-iC (λj d=>gT g d j (pD g dl sl d i) (yl (g.d d).W (qD g dl d) (j0 g sl d i) (dB g d))),<-fQ];rfl
 have h2:=Bf (g:=g) (B:=B) (v:=sl) (i:=i) (λc hc=>hs.nn i hi c hc) g.n;have h3:=fY (f:=λd=>ay (λj=>gT g d j (pD g dl sl d i) (yl (g.d d).W (qD g dl d) (j0 g sl d i) (dB g d))) g.n) (g:=λd=>ay (j0 g sl d i) (dB g d)) (n:=g.ds.length) λd hd'=>by
  have h4:=Ca (g:=g) (d:=d) (r:=pD g dl sl d i) (s:=yl (g.d d).W (qD g dl d) (j0 g sl d i) (dB g d)) (n:=g.n) (λk hk=>(G.lg d hd' k hk).1) (Ns λk hk=>xp G hs hd' i hk);have h5:yl (g.d d).W (qD g dl d) (j0 g sl d i) (dB g d)=ay (j0 g sl d i) (dB g d)-ay (pD g dl sl d i) (dB g d):=rfl;grind
 have h6:=Fx G λa c=>if a=i then sl a c else 0
 have h7:ay (λd=>ay (λk=>if(g.lg d k).1=i then sl (g.lg d k).1 (g.lg d k).2 else 0) (dB g d)) g.ds.length=ay (λd=>ay (j0 g sl d i) (dB g d)) g.ds.length:=rfl;have h8:ay (λa=>ay (λc=>if B a c=false then(if a=i then sl a c else 0)else 0) (g.cn a)) g.n=ay (λc=>if B i c=false then sl i c else 0) (g.cn i):=by
  rw[fk (p:=i) hi λa _ ha=>cj λc _=>by rw[if_neg ha];split<;>rfl];exact aJ λc _=>by rw[if_pos rfl]
 have h9:ay (λa=>ay (λc=>if a=i then sl a c else 0) (g.cn a)) g.n=ay (sl i) (g.cn i):=by
  rw[fk (p:=i) hi λa _ ha=>cj λc _=>if_neg ha];exact aJ λc _=>if_pos rfl
 rw[h7,h8,h9]at h6;rw[e];grind
theorem MF (G:fo g Y B) (h0:uz g dl) (h:∀i,i<g.n->∀c,c<g.cn i->dl i c<=dl' i c) (j:Nat):F0 g B dl j<=F0 g B dl' j:=by
 have h1:=fY (f:=iM g B dl j) (g:=iM g B dl' j) (n:=g.n) λi hi=>MJ λc hc=>h i hi c hc;have hq:∀d,d<g.ds.length->∀k,k<dB g d->qD g dl d k<=qD g dl' d k:=λd hd k hk=>h _ (G.lg d hd k hk).1 _ (G.lg d hd k hk).2;have h2:=fY (f:=λd=>gT g d j (mK (g.d d).W (qD g dl d)) (qA (g.d d).W (qD g dl d) (dB g d))) (g:=λd=>gT g d j (mK (g.d d).W (qD g dl' d)) (qA (g.d d).W (qD g dl' d) (dB g d))) (n:=g.ds.length) λd hd=>
  Ma (λk hk=>MO (λk hk=>xi G h0 hd hk) (hq d hd) hk) (F4 (λk hk=>xi G h0 hd hk) (hq d hd))
 unfold F0;grind
theorem P6 (G:fo g Y B) (h0:uz g dl) (j:Nat):0<=F0 g B dl j:=by
 have h1:=fg (f:=iM g B dl j) (n:=g.n) λi hi=>E1 λc hc=>h0.nn i hi c hc;have h2:=fg (f:=λd=>gT g d j (mK (g.d d).W (qD g dl d)) (qA (g.d d).W (qD g dl d) (dB g d))) (n:=g.ds.length) λd hd=>
  FA (λk hk=>Qc (λk hk=>xi G h0 hd hk) hk) (Qz λk hk=>xi G h0 hd hk)
 unfold F0;grind
theorem Of (g:fp) (B:Nat->Nat->Bool) (dl dl':Nat->Nat->Rat) (j:Nat):F0 g B dl' j-F0 g B dl j=ay (iM g B (λi c=>dl' i c+ -1*dl i c) j) g.n+ay (λd=>gT g d j (λk=>mK (g.d d).W (qD g dl' d) k+ -1*mK (g.d d).W (qD g dl d) k) (qA (g.d d).W (qD g dl' d) (dB g d)+ -1*qA (g.d d).W (qD g dl d) (dB g d))) g.ds.length:=by
 rw[aJ λi _=>BI g B dl' dl (-1) j i,aJ λd _=>wv g d j (mK (g.d d).W (qD g dl' d)) (mK (g.d d).W (qD g dl d)) (qA (g.d d).W (qD g dl' d) (dB g d)) (qA (g.d d).W (qD g dl d) (dB g d)) (-1),eu,eu];unfold F0;grind
theorem Kh (G:fo g Y B) (h0:uz g dl) (h:∀i,i<g.n->∀c,c<g.cn i->dl i c<=dl' i c):ay (F0 g B dl') g.n-ay (F0 g B dl) g.n<=ay (λi=>ay (dl' i) (g.cn i)-ay (dl i) (g.cn i)) g.n:=by
 have hq:∀d,d<g.ds.length->∀k,k<dB g d->qD g dl d k<=qD g dl' d k:=λd hd k hk=>h _ (G.lg d hd k hk).1 _ (G.lg d hd k hk).2;rw[<-gj,aJ λj _=>Of g B dl dl' j,fQ,iC,iC (λj d=>gT g d j (λk=>mK (g.d d).W (qD g dl' d) k+ -1*mK (g.d d).W (qD g dl d) k) (qA (g.d d).W (qD g dl' d) (dB g d)+ -1*qA (g.d d).W (qD g dl d) (dB g d)))];have h1:=fY (f:=λi=>ay (λj=>iM g B (λi c=>dl' i c+ -1*dl i c) j i) g.n) (g:=λi=>ay (λc=>if B i c=false then dl' i c+ -1*dl i c else 0) (g.cn i)) (n:=g.n) λi hi=>
  Bf (λc hc=>by have:=h i hi c hc;grind) g.n
 have h2:=fY (f:=λd=>ay (λj=>gT g d j (λk=>mK (g.d d).W (qD g dl' d) k+ -1*mK (g.d d).W (qD g dl d) k) (qA (g.d d).W (qD g dl' d) (dB g d)+ -1*qA (g.d d).W (qD g dl d) (dB g d))) g.n) (g:=λd=>ay (λk=>dl' (g.lg d k).1 (g.lg d k).2+ -1*dl (g.lg d k).1 (g.lg d k).2) (dB g d)) (n:=g.ds.length) λd hd=>by
  have h4:=Ca (g:=g) (d:=d) (r:=λk=>mK (g.d d).W (qD g dl' d) k+ -1*mK (g.d d).W (qD g dl d) k) (s:=qA (g.d d).W (qD g dl' d) (dB g d)+ -1*qA (g.d d).W (qD g dl d) (dB g d)) (n:=g.n) (λk hk=>(G.lg d hd k hk).1) (by
   have:=F4 (W:=(g.d d).W) (λk hk=>xi G h0 hd hk) (hq d hd);grind)
  rw[eu]at h4;rw[eu];have e1:ay (λk=>dl' (g.lg d k).1 (g.lg d k).2) (dB g d)=ay (qD g dl' d) (dB g d):=rfl;have e2:ay (λk=>dl (g.lg d k).1 (g.lg d k).2) (dB g d)=ay (qD g dl d) (dB g d):=rfl;unfold qA at h4⊢;grind
 have h3:=Fx G λi c=>dl' i c+ -1*dl i c;have h5:ay (λi=>ay (dl' i) (g.cn i)-ay (dl i) (g.cn i)) g.n=ay (λi=>ay (λc=>dl' i c+ -1*dl i c) (g.cn i)) g.n:=aJ λi _=>by rw[eu];grind
 rw[h5];grind
def x3 (g:fp) (sl:Nat->Nat->Rat) (d:Nat->Rat) (e k:Nat):Rat:=sl (g.lg e k).1 (g.lg e k).2*d (g.lg e k).1
theorem N5 (G:fo g Y B) (h0:uz g dl) (hs:uz g sl) {d:Nat->Rat} (hd:∀i,i<g.n->0<=d i) {h:Rat} (hh:0<=h) (hl:∀i,i<g.n->∀c,c<g.cn i->dl' i c=dl i c+(h*d i)*sl i c)
  (hw:∀e,e<g.ds.length->∀k,k<dB g e->0<pQ (g.d e).W-ay (qD g dl e) (k+1)->0<ay (x3 g sl d e) (k+1)->h*ay (x3 g sl d e) (k+1)<=pQ (g.d e).W-ay (qD g dl e) (k+1)) (j:Nat):
  F0 g B dl' j=F0 g B dl j+h*dS (Bh g B dl sl) d g.n j:=by
 have e1:dS (Bh g B dl sl) d g.n j=ay (iM g B (λi c=>d i*sl i c) j) g.n+ay (λe=>gT g e j (x6 (g.d e).W (qD g dl e) (x3 g sl d e)) (yl (g.d e).W (qD g dl e) (x3 g sl d e) (dB g e))) g.ds.length:=by
  have a1:∀i,Bh g B dl sl j i*d i=d i*iM g B sl j i+ay (λe=>d i*gT g e j (pD g dl sl e i) (yl (g.d e).W (qD g dl e) (j0 g sl e i) (dB g e))) g.ds.length:=λi=>by
   unfold Bh;rw[jg];grind
  show ay (λi=>Bh g B dl sl j i*d i) g.n=_;rw[aJ λi _=>a1 i,fQ,iC];congr 1
  ·refine aJ λi _=> ?_;unfold iM;rw[<-jg];exact aJ λc _=>by split<;>grind
  ·refine aJ λe he=> ?_;rw[za];have hS:∀k,k<dB g e->ay (λi=>d i*j0 g sl e i k) g.n=x3 g sl d e k:=λk hk=>by
    rw[fk (p:=(g.lg e k).1) (G.lg e he k hk).1 λi _ hi=>by unfold j0;rw[if_neg λh=>hi h.symm,Rat.mul_zero]];unfold j0 x3;rw[if_pos rfl,Rat.mul_comm]
   have hn:∀i,i<g.n->∀k,k<dB g e->0<=j0 g sl e i k:=λi _ k hk=>xp G hs he i hk;rw[OY hn hd];have c1:yl (g.d e).W (qD g dl e) (λk=>ay (λi=>d i*j0 g sl e i k) g.n) (dB g e)=yl (g.d e).W (qD g dl e) (x3 g sl d e) (dB g e):=by
    unfold yl;rw[mS,mS,mI _ _ λk hk=>fg λi hi=>fc (hd i hi) (hn i hi k hk),aJ hS,mI _ _ λk hk=>by rw[<-hS k hk];exact fg λi hi=>fc (hd i hi) (hn i hi k hk)]
   rw[c1];refine qR λk hk=> ?_;have:=N8 (W:=(g.d e).W) (q:=qD g dl e) (s:=j0 g sl e) (d:=d) (n:=g.n) (k:=k) (λi hi j hj=>hn i hi j oO) hd;show ay (λi=>d i*x6 (g.d e).W (qD g dl e) (j0 g sl e i) k) g.n=_;rw[this];unfold x6;have hS1:∀m,m<=dB g e->qi (g.d e).W (qD g dl e) (λj=>ay (λi=>d i*j0 g sl e i j) g.n) m=qi (g.d e).W (qD g dl e) (x3 g sl d e) m:=λm hm=>by
    rw[mI _ _ λk hk=>fg λi hi=>fc (hd i hi) (hn i hi k oO),aJ λk hk=>hS k oO,mI _ _ λk hk=>by rw[<-hS k oO];exact fg λi hi=>fc (hd i hi) (hn i hi k oO)]
   rw[hS1 _ oO,hS1 _ oO]
 have e2:∀i,i<g.n->iM g B dl' j i=iM g B dl j i+h*iM g B (λi c=>d i*sl i c) j i:=λi hi=>by
  rw[<-BI];refine aJ λc hc=> ?_;rw[hl i hi c hc];split<;>grind
 have e3:∀e,e<g.ds.length->gT g e j (mK (g.d e).W (qD g dl' e)) (qA (g.d e).W (qD g dl' e) (dB g e))=gT g e j (mK (g.d e).W (qD g dl e)) (qA (g.d e).W (qD g dl e) (dB g e))+h*gT g e j (x6 (g.d e).W (qD g dl e) (x3 g sl d e)) (yl (g.d e).W (qD g dl e) (x3 g sl d e) (dB g e)):=λe he=>by
  have hq:∀k,k<dB g e->qD g dl' e k=qD g dl e k+h*x3 g sl d e k:=λk hk=>by
   show dl' _ _=dl _ _+_;rw[hl _ (G.lg e he k hk).1 _ (G.lg e he k hk).2];unfold x3;grind
  have hn:∀k,k<dB g e->0<=qD g dl e k:=λk hk=>xi G h0 he hk;have hsn:∀k,k<dB g e->0<=x3 g sl d e k:=λk hk=>fc (hs.nn _ (G.lg e he k hk).1 _ (G.lg e he k hk).2) (hd _ (G.lg e he k hk).1);have hov:∀k,k<=dB g e->oP (g.d e).W (qD g dl' e) k=oP (g.d e).W (qD g dl e) k+h*qi (g.d e).W (qD g dl e) (x3 g sl d e) k:=λk hk=>by
   rw[<-Oa hn hsn hh (hw e he) hk,iP,iP];congr 2;exact aJ λj hj=>by rw[hq j oO]
  rw[<-wv];have c1:qA (g.d e).W (qD g dl' e) (dB g e)=qA (g.d e).W (qD g dl e) (dB g e)+h*yl (g.d e).W (qD g dl e) (x3 g sl d e) (dB g e):=by
   unfold qA yl;rw[p8,p8,mS,hov _ (Nat.le_refl _),aJ hq,eu];grind
  rw[c1];refine qR λk hk=> ?_;unfold mK x6;rw[hov _ oO,hov _ oO];grind
 unfold F0;rw[e1,aJ e2,aJ e3,eu,eu];grind
end
def Mn (o:Option Rat) (S:Rat->Prop):Prop:=(∀s,S s->∃h,o=some h/\h<=s)/\∀h,o=some h->S h
theorem Mn.add {o:Option Rat} {S:Rat->Prop} (h:Mn o S) (s:Rat):Mn (Ai o s) λr=>S r\/r=s:=by
 obtain⟨h1,h2⟩:=h;cases o with
 |none=>exact⟨λr hr=>⟨s,rfl,by
   rcases hr with hr|hr
   ·obtain⟨_,e,_⟩:=h1 r hr;cases e
   ·rw[hr];exact Rat.le_refl⟩,λr e=> .inr (Option.some.inj e).symm⟩
 |some a=>
  unfold Ai;by_cases g:s<a
  ·simp only[if_pos g];refine⟨λr hr=>⟨s,rfl,?_⟩,λr e=> .inr (Option.some.inj e).symm⟩;rcases hr with hr|hr
   ·obtain⟨b,e,hb⟩:=h1 r hr;have:=Option.some.inj e;grind
   ·rw[hr];exact Rat.le_refl
  ·simp only[if_neg g];refine⟨λr hr=>⟨a,rfl,?_⟩,λr e=> .inl (by rw[<-Option.some.inj e];exact h2 a rfl)⟩;rcases hr with hr|hr
   ·obtain⟨b,e,hb⟩:=h1 r hr;have:=Option.some.inj e;grind
   ·grind
theorem Mn.congr {o:Option Rat} {S S':Rat->Prop} (h:Mn o S) (e:∀r,S r↔S' r):Mn o S':=⟨λs hs=>h.1 s ((e s).2 hs),λr hr=>(e r).1 (h.2 r hr)⟩
section
variable (g : fp) (Y : Nat → Ly) (F : Nat → Nat) (dl sl : Nat → Nat → Rat) (x d : Nat → Rat)
def PY (n:Nat) (r:Rat):Prop:=∃i,i<n/\0<d i/\∃y,Qp Y F x i=some y/\r=(y-x i)/d i
def QG (e n:Nat) (r:Rat):Prop:=∃k,k<n/\0<tW g dl e (k+1)/\0<uI g sl d e (k+1)/\r=tW g dl e (k+1)/uI g sl d e (k+1)
def Ro (n:Nat) (r:Rat):Prop:=∃e,e<n/\QG g dl sl d e (dB g e) r
def rB (r:Rat):Prop:=PY Y F x d g.n r\/Ro g dl sl d g.ds.length r
theorem Ed:∀n,Mn (Lx Y F x d n) (PY Y F x d n)
 |0=>⟨λ_ ⟨_,h,_⟩=>absurd h (Nat.not_lt_zero _),λ_ h=>by cases h⟩
 |n+1=>by
  have ih:=Ed n;have hold:∀r,PY Y F x d n r->PY Y F x d (n+1) r:=λr ⟨i,h1,h2⟩=>⟨i,oO,h2⟩;show Mn (KA Y F x d n (Lx Y F x d n)) _;unfold KA;by_cases hd:0<d n
  ·rw[if_pos hd];cases hn:Qp Y F x n with
   |none=>exact ih.congr λr=>⟨hold r,λ⟨i,h1,h2,y,h3,h4⟩=>by
    by_cases e:i=n
    ·rw[e,hn]at h3;cases h3
    ·exact⟨i,oO,h2,y,h3,h4⟩⟩
   |some y=>exact(ih.add ((y-x n)/d n)).congr λr=>⟨λh=>h.elim (hold r) λh=>⟨n,oO,hd,y,hn,h⟩,λ⟨i,h1,h2,y',h3,h4⟩=>by
    by_cases e:i=n
    ·rw[e,hn]at h3;obtain rfl:=Option.some.inj h3;exact .inr (by rw[h4,e])
    ·exact .inl ⟨i,oO,h2,y',h3,h4⟩⟩
  ·rw[if_neg hd];exact ih.congr λr=>⟨hold r,λ⟨i,h1,h2,y,h3,h4⟩=>by
    by_cases e:i=n
    ·rw[e]at h2;exact absurd h2 hd
    ·exact⟨i,oO,h2,y,h3,h4⟩⟩
theorem Ey {e:Nat} {o:Option Rat} {S:Rat->Prop} (h:Mn o S):∀n,Mn (FR g dl sl d e o n) λr=>S r\/QG g dl sl d e n r
 |0=>h.congr λr=>⟨.inl,λh=>h.elim id λ⟨_,h,_⟩=>absurd h (Nat.not_lt_zero _)⟩
 |n+1=>by
  have ih:=Ey (e:=e) h n;have hold:∀r,QG g dl sl d e n r->QG g dl sl d e (n+1) r:=λr ⟨i,h1,h2⟩=>⟨i,oO,h2⟩;unfold FR;by_cases hc:0<tW g dl e (n+1)/\0<uI g sl d e (n+1)
  ·rw[if_pos hc];refine(ih.add _).congr λr=>⟨λh=> ?_,λh=> ?_⟩
   ·rcases h with(h|h)|h
    ·exact .inl h
    ·exact .inr (hold r h)
    ·exact .inr ⟨n,oO,hc.1,hc.2,h⟩
   ·rcases h with h|⟨i,h1,h2,h3,h4⟩
    ·exact .inl (.inl h)
    ·by_cases e:i=n
     ·exact .inr (by rw[h4,e])
     ·exact .inl (.inr ⟨i,oO,h2,h3,h4⟩)
  ·rw[if_neg hc];refine ih.congr λr=>⟨λh=>h.elim .inl λh=> .inr (hold r h),λh=> ?_⟩;rcases h with h|⟨i,h1,h2,h3,h4⟩
   ·exact .inl h
   ·by_cases e:i=n
    ·rw[e]at h2 h3;exact absurd ⟨h2,h3⟩ hc
    ·exact .inr ⟨i,oO,h2,h3,h4⟩
theorem Eo:∀n,Mn (Nq g Y F dl sl x d n) λr=>PY Y F x d g.n r\/Ro g dl sl d n r
 |0=>(Ed Y F x d g.n).congr λr=>⟨.inl,λh=>h.elim id λ⟨_,h,_⟩=>absurd h (Nat.not_lt_zero _)⟩
 |n+1=>by
  refine(Ey g dl sl d (e:=n) (Eo n) (dB g n)).congr λr=>⟨λh=> ?_,λh=> ?_⟩
  ·rcases h with(h|⟨e,h1,h2⟩)|h
   ·exact .inl h
   ·exact .inr ⟨e,oO,h2⟩
   ·exact .inr ⟨n,oO,h⟩
  ·rcases h with h|⟨e,h1,h2⟩
   ·exact .inl (.inl h)
   ·by_cases e1:e=n
    ·rw[e1]at h2;exact .inr h2
    ·exact .inl (.inr ⟨e,oO,h2⟩)
theorem BO:Mn (ES g Y F dl sl x d) (rB g Y F dl sl x d):=Eo g Y F dl sl x d g.ds.length
end
theorem xt (g:fp) (dl:Nat->Nat->Rat) (e:Nat):∀k,tW g dl e k=pQ (g.d e).W-ay (qD g dl e) k
 |0=>by show pQ _=pQ _-0;grind
 |k+1=>by
  show tW g dl e k-qD g dl e k=pQ _-(ay (qD g dl e) k+qD g dl e k);rw[xt g dl e k];grind
theorem xr (g:fp) (sl:Nat->Nat->Rat) (d:Nat->Rat) (e:Nat):∀k,uI g sl d e k=ay (x3 g sl d e) k
 |0=>rfl
 |k+1=>by
  show uI g sl d e k+_=ay (x3 g sl d e) k+_;rw[xr g sl d e k];rfl
def Eb (f:Nat->Nat):Nat->Nat
 |0=>0
 |n+1=>Eb f n+f n
theorem n5 {f g:Nat->Nat}:∀ {n:Nat},(∀i,i<n->f i<=g i)->Eb f n<=Eb g n
 |0,_=>Nat.le_refl _
 |n+1,h=>Nat.add_le_add (n5 λi hi=>h i oO) (h n oO)
theorem zR {f g:Nat->Nat}:∀ {n:Nat},(∀i,i<n->f i<=g i)->(∃i,i<n/\f i<g i)->Eb f n<Eb g n
 |0,_,⟨_,h,_⟩=>absurd h (Nat.not_lt_zero _)
 |n+1,h,⟨i,h1,h2⟩=>by
  have a:=n5 (n:=n) λi hi=>h i oO;have b:=h n oO;show Eb f n+f n<Eb g n+g n;by_cases e:i=n
  ·rw[e]at h2;omega
  ·have:=zR (n:=n) (λi hi=>h i oO) ⟨i,oO,h2⟩;omega
def Bo (g:fp) (Y:Nat->Ly) (x:Nat->Rat):Nat:=
 Eb (λi=>oC (Y i) (x i)) g.n+Eb (λe=>Eb (λk=>if 0<pQ (g.d e).W-ay (qD g (cJ Y x) e) (k+1)then 1 else 0) (dB g e)) g.ds.length
section
variable {g : fp} {Y : Nat → Ly} {B : Nat → Nat → Bool} {x z d : Nat → Rat} {Fu : Nat} {h : Rat}
theorem yI (G:fo g Y B) (hx:∀i,i<g.n->0<=x i):uz g (cJ Y x):=⟨λi hi _ _=>Qk (G.ly i hi) (hx i hi)⟩
theorem Bt (G:fo g Y B) (hx:∀i,i<g.n->0<=x i):uz g (gq Y x):=⟨λi hi _ _=>PF (G.ly i hi) (hx i hi)⟩
theorem O6 (G:fo g Y B) (hx:∀i,i<g.n->0<=x i) {i:Nat} (hi:i<g.n):ay (gq Y x i) (g.cn i)<=1:=by
 rw[<-G.yn i hi];exact N7 (G.ly i hi) (hx i hi)
theorem uK (G:fo g Y B) (hx:∀i,i<g.n->0<=x i) (hxz:∀i,i<g.n->x i<=z i):∀i,i<g.n->∀c,c<g.cn i->cJ Y x i c<=cJ Y z i c:=λi hi _ _=>ME (G.ly i hi) (hx i hi) (hxz i hi)
theorem Ee (G:fo g Y B) (hx:∀i,i<g.n->0<=x i) (hxz:∀i,i<g.n->x i<=z i) (j:Nat):F0 g B (cJ Y x) j<=F0 g B (cJ Y z) j:=MF G (yI G hx) (uK G hx hxz) j
theorem M2 (G:fo g Y B) (hx:∀i,i<g.n->0<=x i) (hxz:∀i,i<g.n->x i<=z i):ay (F0 g B (cJ Y z)) g.n-ay (F0 g B (cJ Y x)) g.n<=ay (λi=>z i-x i) g.n:=by
 refine Rat.le_trans (Kh G (yI G hx) (uK G hx hxz)) (fY λi hi=> ?_);have:=O9 (G.ly i hi) (hx i hi) (hxz i hi);rw[G.yn i hi]at this;exact this
theorem qu (G:fo g Y B) (hx:∀i,i<g.n->0<=x i):M7 (i9 g Y B x) g.n:=by
 have e:∀i,i<g.n->∀j,i9 g Y B x j i=Bh g B (cJ Y x) (gq Y x) j i:=λi hi j=>EP G.ho G.lg hi j;refine⟨λj _ i hi=>by rw[e i hi];exact NS G (yI G hx) (Bt G hx) hi j,λi hi=> ?_⟩;unfold jW;rw[aJ λj _=>e i hi j];exact Rat.le_trans (EQ G (Bt G hx) hi) (O6 G hx hi)
theorem O2 (G:fo g Y B) (j:Nat):dS (i9 g Y B x) d g.n j=dS (Bh g B (cJ Y x) (gq Y x)) d g.n j:=aJ λi hi=>by rw[show i9 g Y B x j i=Bh g B (cJ Y x) (gq Y x) j i from EP G.ho G.lg hi j]
structure Qe (g:fp) (Y:Nat->Ly) (B:Nat->Nat->Bool) (x d:Nat->Rat) (h:Rat):Prop where
 lin:∀j,F0 g B (cJ Y λi=>x i+h*d i) j=F0 g B (cJ Y x) j+h*dS (i9 g Y B x) d g.n j
 mu:Bo g Y (λi=>x i+h*d i)<=Bo g Y x
theorem AZ (G:fo g Y B) (hx:∀i,i<g.n->0<=x i) (hd:∀i,i<g.n->0<=d i) (hF:∀i,i<g.n->oC (Y i) (x i)<Fu) (h0:0<=h) (hc:∀r,rB g Y (λ_=>Fu) (cJ Y x) (gq Y x) x d r->h<=r):
  Qe g Y B x d h/\(rB g Y (λ_=>Fu) (cJ Y x) (gq Y x) x d h->Bo g Y (λi=>x i+h*d i)<Bo g Y x):=by
 have Bn:∀i,i<g.n->x i<=x i+h*d i:=λi hi=>by have:=fc h0 (hd i hi);grind
 have hl:∀i,i<g.n->∀c,c<g.cn i->cJ Y (λi=>x i+h*d i) i c=cJ Y x i c+(h*d i)*gq Y x i c:=λi hi c hc'=>by
  have hn:=z8 (G.ly i hi) (hx i hi) (hF i hi);rw[G.yn i hi]at hn;by_cases hd0:0<d i
  ·have hu:=Bn i hi;cases hz:A9 (Y i) (x i) Fu (x i)with
   |none=>
    rw[hz]at hn;have:=hn.2 (x i+h*d i) hu c hc';show dC (Y i) (x i+h*d i) c=_;rw[this];show _=dC (Y i) (x i) c+(h*d i)*sC (Y i) (x i) c;grind
   |some y=>
    rw[hz]at hn;have h1:=hc _ (.inl ⟨i,hi,hd0,y,hz,rfl⟩);have h2:=mE (a:=y-x i) hd0;have h3:=gu h1 (Rat.le_of_lt hd0);have:=hn.2.2 (x i+h*d i) hu (by grind) c hc';show dC (Y i) (x i+h*d i) c=_;rw[this];show _=dC (Y i) (x i) c+(h*d i)*sC (Y i) (x i) c;grind
  ·have e:d i=0:=by have:=hd i hi;grind
   show dC (Y i) (x i+h*d i) c=dC (Y i) (x i) c+(h*d i)*sC (Y i) (x i) c;rw[e,Rat.mul_zero,Rat.add_zero];grind
 have hw:∀e,e<g.ds.length->∀k,k<dB g e->0<pQ (g.d e).W-ay (qD g (cJ Y x) e) (k+1)->0<ay (x3 g (gq Y x) d e) (k+1)->h*ay (x3 g (gq Y x) d e) (k+1)<=pQ (g.d e).W-ay (qD g (cJ Y x) e) (k+1):=λe he k hk h1 h2=>by
  rw[<-xt]at h1⊢;rw[<-xr]at h2⊢;have h3:=hc _ (.inr ⟨e,he,k,hk,h1,h2,rfl⟩);have h4:=mE (a:=tW g (cJ Y x) e (k+1)) h2;have h5:=gu h3 (Rat.le_of_lt h2);grind
 have hqm:∀e,e<g.ds.length->∀k,k<=dB g e->ay (qD g (cJ Y x) e) k<=ay (qD g (cJ Y λi=>x i+h*d i) e) k:=λe he k hk=>fY λj hj=>
  uK G hx Bn _ (G.lg e he j (show j<dB g e by omega)).1 _ (G.lg e he j (show j<dB g e by omega)).2
 have hm1:∀i,i<g.n->oC (Y i) (x i+h*d i)<=oC (Y i) (x i):=λi hi=>BC (G.ly i hi) (hx i hi) (Bn i hi);have hm2:∀e,e<g.ds.length->∀k,k<dB g e->(if 0<pQ (g.d e).W-ay (qD g (cJ Y λi=>x i+h*d i) e) (k+1)then 1 else 0)<=if 0<pQ (g.d e).W-ay (qD g (cJ Y x) e) (k+1)then 1 else 0:=λe he k hk=>by
  have:=hqm e he (k+1) hk;split
  ·rw[if_pos (by grind)];exact Nat.le_refl _
  ·exact Nat.zero_le _
 refine⟨⟨λj=> ?_,Nat.add_le_add (n5 hm1) (n5 λe he=>n5 (hm2 e he))⟩,λhcd=> ?_⟩
 ·rw[O2 G];exact N5 G (yI G hx) (Bt G hx) hd h0 hl hw j
 ·have b1:=n5 hm1;have b2:=n5 λe he=>n5 (hm2 e he);show Eb (λi=>oC (Y i) (x i+h*d i)) g.n+_<Eb (λi=>oC (Y i) (x i)) g.n+_;rcases hcd with⟨i,hi,hd0,y,hz,e⟩|⟨e,he,k,hk,h1,h2,e1⟩
  ·have hn:=z8 (G.ly i hi) (hx i hi) (hF i hi);have hz':A9 (Y i) (x i) Fu (x i)=some y:=hz;rw[hz']at hn;have h2:=mE (a:=y-x i) hd0;rw[<-e]at h2;have h3:x i+h*d i=y:=by grind
   have:=zR hm1 ⟨i,hi,by rw[h3];exact hn.2.1⟩;omega
  ·have h4:=mE (a:=tW g (cJ Y x) e (k+1)) h2;rw[<-e1]at h4;have h3:ay (qD g (cJ Y λi=>x i+h*d i) e) (k+1)=ay (qD g (cJ Y x) e) (k+1)+h*ay (x3 g (gq Y x) d e) (k+1):=by
    rw[<-eu];refine aJ λj hj=> ?_;show cJ Y _ _ _=cJ Y x _ _+_;rw[hl _ (G.lg e he j (show j<dB g e by omega)).1 _ (G.lg e he j (show j<dB g e by omega)).2];unfold x3;grind
   rw[xt]at h1 h4;rw[xr]at h2 h4;have:=zR (λe he=>n5 (hm2 e he)) ⟨e,he,zR (hm2 e he) ⟨k,hk,by
    rw[if_pos h1,if_neg (by rw[h3];grind)];exact Nat.zero_lt_one⟩⟩
   omega
theorem wT (G:fo g Y B) (hx:∀i,i<g.n->0<=x i) (hF:∀i,i<g.n->oC (Y i) (x i)<Fu) {r:Rat} (hc:rB g Y (λ_=>Fu) (cJ Y x) (gq Y x) x d r):0<r:=by
 rcases hc with⟨i,hi,hd0,y,hz,e⟩|⟨e,he,k,hk,h1,h2,e1⟩
 ·have hn:=z8 (G.ly i hi) (hx i hi) (hF i hi);have hz':A9 (Y i) (x i) Fu (x i)=some y:=hz;rw[hz']at hn;rw[e,Rat.div_def];exact xl (by have:=hn.1;grind) (uf hd0).1
 ·rw[e1,Rat.div_def];exact xl h1 (uf h2).1
end
structure Inv (g:fp) (Y:Nat->Ly) (B:Nat->Nat->Bool) (x:Nat->Rat) (t:Rat):Prop where
 nn:∀i,i<g.n->0<=x i
 t0:0<=t
 t1:t<=1
 fx:∀j,j<g.n->x j=t*uy g j+F0 g B (cJ Y x) j
structure ND (g:fp) (Y:Nat->Ly) (B:Nat->Nat->Bool) (x:Nat->Rat):Prop where
 nn:∀i,i<g.n->0<=x i
 fx:∀j,j<g.n->x j=uy g j+F0 g B (cJ Y x) j
 top:∀y:Nat->Rat,(∀j,j<g.n->0<=y j)->(∀j,j<g.n->y j<=uy g j+F0 g B (cJ Y y) j)->∀j,j<g.n->y j<=x j
section
variable {g : fp} {Y : Nat → Ly} {B : Nat → Nat → Bool} {x : Nat → Rat} {t : Rat} {Fu : Nat}
theorem y8 (G:fo g Y B) (hF:∀i,i<g.n->∀m,oC (Y i) m<Fu) (h16:g.n<=16) (I:Inv g Y B x t) (hC:kE g Y B x≠ []):
  ∃H,KR g Y Fu x (uw g Y B x)=some H/\0<H/\rB g Y (λ_=>Fu) (cJ Y x) (gq Y x) x (uw g Y B x) H/\Inv g Y B (GN g Y B Fu x) t/\Bo g Y (GN g Y B Fu x)<Bo g Y x:=by
 obtain⟨_,l2,l3,l4,l5,_⟩:=sO (qu G I.nn) rfl hC h16;have hd:∀i,i<g.n->0<=uw g Y B x i:=λi _=>by
  by_cases e:i∈kE g Y B x
  ·exact Rat.le_of_lt (l2 i e)
  ·have:uw g Y B x i=0:=l3 i e;rw[this];exact Rat.le_refl
 have hCn:∀c,c∈kE g Y B x->c<g.n:=λc hc=>(qG (i9 g Y B x) g.n (List.replicate g.n true) g.n).2 c hc;have hMn:=BO g Y (λ_=>Fu) (cJ Y x) (gq Y x) x (uw g Y B x);obtain⟨c,hc⟩:=List.exists_mem_of_ne_nil _ hC;have hcn:=hCn c hc;have hF':∀i,i<g.n->oC (Y i) (x i)<Fu:=λi hi=>hF i hi _;have hcd:∃r,rB g Y (λ_=>Fu) (cJ Y x) (gq Y x) x (uw g Y B x) r:=by
  have hn:=z8 (G.ly c hcn) (I.nn c hcn) (hF' c hcn);cases hz:A9 (Y c) (x c) Fu (x c)with
  |some y=>exact⟨_,.inl ⟨c,hcn,l2 c hc,y,hz,rfl⟩⟩
  |none=>
   rw[hz,G.yn c hcn]at hn;have h1:=l5 c hc;have h2:jW (i9 g Y B x) c g.n<=ay (gq Y x c) (g.cn c):=by
    unfold jW;rw[aJ λj _=>show i9 g Y B x j c=Bh g B (cJ Y x) (gq Y x) j c from EP G.ho G.lg hcn j];exact EQ G (Bt G I.nn) hcn
   have h3:ay (gq Y x c) (g.cn c)=0:=cj λk hk=>hn.1 k hk;rw[h1,h3]at h2;exact absurd h2 dD
 obtain⟨r,hr⟩:=hcd;obtain⟨H,eH,_⟩:=hMn.1 r hr;have hcH:=hMn.2 H eH;have hH:=wT G I.nn hF' hcH;obtain⟨s1,s2⟩:=AZ G I.nn hd hF' (Rat.le_of_lt hH) λr hr=>by
  obtain⟨a,ea,ha⟩:=hMn.1 r hr;rw[eH]at ea;rw[Option.some.inj ea];exact ha
 have eS:KR g Y Fu x (uw g Y B x)=some H:=eH;have eX:GN g Y B Fu x=λi=>x i+H*uw g Y B x i:=by
  funext i;unfold GN;rw[eS];rfl
 refine⟨H,eS,hH,hcH,?_,by rw[eX];exact s2 hcH⟩;rw[eX];refine⟨λi hi=> ?_,I.t0,I.t1,λj hj=> ?_⟩
 ·have:=fc (Rat.le_of_lt hH) (hd i hi);have:=I.nn i hi;grind
 ·have h1:=s1.lin j;have h2:=I.fx j hj;have h3:dS (i9 g Y B x) (uw g Y B x) g.n j=uw g Y B x j:=l4 j hj;rw[h1,h3];grind
theorem tA (G:fo g Y B) (hF:∀i,i<g.n->∀m,oC (Y i) m<Fu) (h16:g.n<=16) (hn0:0<g.n) (I:Inv g Y B x t) (hC:kE g Y B x=[]) (ht:t≠1):
  (∀i,i<g.n->0<=tE g Y B x i)/\0<qW g Y B Fu x t/\t+qW g Y B Fu x t<=1/\Inv g Y B (Be g Y B Fu x t) (t+qW g Y B Fu x t)/\Bo g Y (Be g Y B Fu x t)+(if t+qW g Y B Fu x t=1 then 0 else 1)<Bo g Y x+1/\
  (qW g Y B Fu x t=1-t\/rB g Y (λ_=>Fu) (cJ Y x) (gq Y x) x (tE g Y B x) (qW g Y B Fu x t)):=by
 obtain⟨_,_,f3,f4,_⟩:=sZ (g:=g) (qu G I.nn) hC hn0 h16 G.cash;have hMn:=BO g Y (λ_=>Fu) (cJ Y x) (gq Y x) x (tE g Y B x);have hF':∀i,i<g.n->oC (Y i) (x i)<Fu:=λi hi=>hF i hi _;have htl:t<1:=by have:=I.t1;grind
 have hh:0<qW g Y B Fu x t/\t+qW g Y B Fu x t<=1/\(∀r,rB g Y (λ_=>Fu) (cJ Y x) (gq Y x) x (tE g Y B x) r->qW g Y B Fu x t<=r)/\(qW g Y B Fu x t=1-t\/rB g Y (λ_=>Fu) (cJ Y x) (gq Y x) x (tE g Y B x) (qW g Y B Fu x t)):=by
  unfold qW KR;cases hz:ES g Y (λ_=>Fu) (cJ Y x) (gq Y x) x (tE g Y B x)with
  |none=>
   refine⟨by show 0<1-t;grind,by show t+(1-t)<=1;grind,λr hr=> ?_,.inl rfl⟩;obtain⟨a,ea,_⟩:=hMn.1 r hr;rw[hz]at ea;cases ea
  |some H=>
   have hcH:=hMn.2 H hz;have hH:=wT G I.nn hF' hcH;have hle:∀r,rB g Y (λ_=>Fu) (cJ Y x) (gq Y x) x (tE g Y B x) r->H<=r:=λr hr=>by
    obtain⟨a,ea,ha⟩:=hMn.1 r hr;rw[hz]at ea;rw[Option.some.inj ea];exact ha
   unfold Q3;dsimp only;split
   ·exact⟨by grind,by grind,λr hr=>by have:=hle r hr;grind,.inl rfl⟩
   ·exact⟨hH,by grind,hle,.inr hcH⟩
 obtain⟨h1,h2,h3,h4⟩:=hh;obtain⟨s1,s2⟩:=AZ (B:=B) G I.nn f3 hF' (Rat.le_of_lt h1) h3;have eX:Be g Y B Fu x t=λi=>x i+qW g Y B Fu x t*tE g Y B x i:=rfl;refine⟨f3,h1,h2,?_,?_,h4⟩
 ·rw[eX];refine⟨λi hi=> ?_,by have:=I.t0;grind,h2,λj hj=> ?_⟩
  ·have:=fc (Rat.le_of_lt h1) (f3 i hi);have:=I.nn i hi;show 0<=x i+qW g Y B Fu x t*jG g (i9 g Y B x) (List.range g.n) i;grind
  ·have e1:=s1.lin j;have e2:=I.fx j hj;have e3:tE g Y B x j=dS (i9 g Y B x) (tE g Y B x) g.n j+uy g j:=f4 j hj;have e4:dS (i9 g Y B x) (jG g (i9 g Y B x) (List.range g.n)) g.n j=dS (i9 g Y B x) (tE g Y B x) g.n j:=rfl;rw[e4]at e1;have e5:F0 g B (cJ Y λi=>x i+qW g Y B Fu x t*tE g Y B x i) j=F0 g B (cJ Y x) j+qW g Y B Fu x t*dS (i9 g Y B x) (tE g Y B x) g.n j:=e1;show x j+qW g Y B Fu x t*tE g Y B x j=_;rw[e5,e3];grind
 ·have hmu:Bo g Y (Be g Y B Fu x t)<=Bo g Y x:=s1.mu;rcases h4 with h4|h4
  ·rw[if_pos (by rw[h4];grind)];omega
  ·have:Bo g Y (Be g Y B Fu x t)<Bo g Y x:=s2 h4;split<;>omega
theorem K1 (G:fo g Y B) (hF:∀i,i<g.n->∀m,oC (Y i) m<Fu) (I:Inv g Y B x 1) (hC:kE g Y B x=[]):ND g Y B x:=by
 have hfx:∀j,j<g.n->x j=uy g j+F0 g B (cJ Y x) j:=λj hj=>by rw[I.fx j hj,Rat.one_mul]
 refine⟨I.nn,hfx,λy hy0 hy=> ?_⟩;obtain⟨z,hz⟩:∃z:Nat->Rat,z=λi=>if x i<=y i then y i else x i:=⟨_,rfl⟩
 have hxz:∀i,x i<=z i/\y i<=z i/\(z i=x i\/z i=y i):=λi=>by rw[hz];dsimp only;split<;>grind
 obtain⟨w,hw⟩:∃w:Nat->Rat,w=λi=>z i-x i:=⟨_,rfl⟩;have hw0:∀i,0<=w i:=λi=>by rw[hw];have:=(hxz i).1;grind
 have hFz:∀j,j<g.n->w j<=F0 g B (cJ Y z) j-F0 g B (cJ Y x) j:=λj hj=>by
  have a:=Ee G I.nn (λi _=>(hxz i).1) j;have b:=Ee G hy0 (λi _=>(hxz i).2.1) j;have c:=hfx j hj;have d:=hy j hj;rw[hw];rcases(hxz j).2.2 with e|e<;>dsimp only<;>rw[e]<;>grind
 have hlip:=M2 G I.nn λi _=>(hxz i).1;have hws:ay (λi=>z i-x i) g.n=ay w g.n:=by rw[hw]
 have heq:∀j,j<g.n->F0 g B (cJ Y z) j-F0 g B (cJ Y x) j=w j:=λj hj=>by
  have:=te (f:=λj=>F0 g B (cJ Y z) j-F0 g B (cJ Y x) j-w j) (n:=g.n) (λj hj=>by have:=hFz j hj;grind) (by
   rw[gj,gj];grind) j hj
  grind
 have hF':∀i,i<g.n->oC (Y i) (x i)<Fu:=λi hi=>hF i hi _;have hMn:=BO g Y (λ_=>Fu) (cJ Y x) (gq Y x) x w;obtain⟨h,hh0,hh1,hhc⟩:∃h,0<h/\h<=1/\∀r,rB g Y (λ_=>Fu) (cJ Y x) (gq Y x) x w r->h<=r:=by
  cases hz:ES g Y (λ_=>Fu) (cJ Y x) (gq Y x) x w with
  |none=>exact⟨1,dD,Rat.le_refl,λr hr=>by
    obtain⟨a,ea,_⟩:=hMn.1 r hr;rw[hz]at ea;cases ea⟩
  |some H=>
   have hH:=wT G I.nn hF' (hMn.2 H hz);have hle:∀r,rB g Y (λ_=>Fu) (cJ Y x) (gq Y x) x w r->H<=r:=λr hr=>by
    obtain⟨a,ea,ha⟩:=hMn.1 r hr;rw[hz]at ea;rw[Option.some.inj ea];exact ha
   by_cases g1:H<=1
   ·exact⟨H,hH,g1,hle⟩
   ·exact⟨1,dD,Rat.le_refl,λr hr=>by have:=hle r hr;grind⟩
 obtain⟨s1,_⟩:=AZ (B:=B) G I.nn (λi _=>hw0 i) hF' (Rat.le_of_lt hh0) hhc;have Bn:∀i,x i<=x i+h*w i/\x i+h*w i<=z i:=λi=>by
  have a:=fc (Rat.le_of_lt hh0) (hw0 i);have b:=fc (hw0 i) (show 0<=1-h by grind);have c:w i=z i-x i:=by rw[hw]
  grind
 have hup0:∀i,i<g.n->0<=x i+h*w i:=λi hi=>Rat.le_trans (I.nn i hi) (Bn i).1;have hM:=qu (B:=B) G I.nn;have hdnn:∀j,j<g.n->0<=dS (i9 g Y B x) w g.n j:=λj hj=>fg λi hi=>fc (hM.nn j hj i hi) (hw0 i);have hcl:∀a,a<g.n->w a=0->∀c,c<g.n->0<w c->i9 g Y B x a c=0:=λa ha hwa c hc hwc=>by
  have e1:=s1.lin a;have e2:=Ee G hup0 (λi _=>(Bn i).2) a;have e3:=heq a ha;have e4:h*dS (i9 g Y B x) w g.n a<=0:=by grind
  have e5:=hdnn a ha;have e6:dS (i9 g Y B x) w g.n a=0:=by
   have:=fc (Rat.le_of_lt hh0) e5;exact yv (b:=h) (by grind) hh0
  have e7:=te (f:=λi=>i9 g Y B x a i*w i) (n:=g.n) (λi hi=>fc (hM.nn a ha i hi) (hw0 i)) (by
   show dS (i9 g Y B x) w g.n a<=0;rw[e6];exact Rat.le_refl) c hc
  exact yv e7 hwc
 have hlk:∀c,c<g.n->0<w c->jW (i9 g Y B x) c g.n=1:=λc hc hwc=>by
  have e1:=M2 G hup0 λi _=>(Bn i).2;have e2:ay (F0 g B (cJ Y λi=>x i+h*w i)) g.n=ay (F0 g B (cJ Y x)) g.n+h*ay (λj=>dS (i9 g Y B x) w g.n j) g.n:=by
   rw[<-eu];exact aJ λj _=>s1.lin j
  have e3:ay (λj=>F0 g B (cJ Y z) j-F0 g B (cJ Y x) j) g.n=ay w g.n:=aJ heq;rw[gj]at e3;have e4:ay (λi=>z i-(x i+h*w i)) g.n=(1-h)*ay w g.n:=by
   rw[<-jg];exact aJ λi _=>by
    have c:w i=z i-x i:=by rw[hw]
    grind
  rw[e2,e4,FJ]at e1;have e5:0<=h*(ay (λj=>jW (i9 g Y B x) j g.n*w j) g.n-ay w g.n):=by grind
  have e6:∀j,j<g.n->0<=w j-jW (i9 g Y B x) j g.n*w j:=λj hj=>by
   have:=fc (hw0 j) (show 0<=1-jW (i9 g Y B x) j g.n by have:=hM.cs j hj;grind);grind
  have e7:=fg e6;rw[gj]at e7;have e8:(ay w g.n-ay (λj=>jW (i9 g Y B x) j g.n*w j) g.n)=0:=by
   have:=fc (Rat.le_of_lt hh0) e7;exact yv (b:=h) (by grind) hh0
  have e9:=te e6 (by rw[gj,e8];exact Rat.le_refl) c hc;have:=yv (a:=1-jW (i9 g Y B x) c g.n) (b:=w c) (by grind) hwc;grind
 intro j hj;by_cases e:w j=0
 ·have c:w j=z j-x j:=by rw[hw]
  have:=(hxz j).2.1;grind
 ·have hwj:0<w j:=by have:=hw0 j;grind
  have hc2:∀k∈lU (i9 g Y B x) g.n j,k<g.n/\0<w k:=λk hk=>Kf hj (λk=>k<g.n/\0<w k) ⟨hj,hwj⟩ (λa c ha hc hS hm=>⟨ha,by
   by_cases e:w a=0
   ·rw[hcl a ha e c hc hS.2]at hm;exact absurd hm Rat.lt_irrefl
   ·have:=hw0 a;grind⟩) hk
  have h1:=vH (M:=i9 g Y B x) (Nat.le_refl g.n) hC j hj (AC hj);rw[List.any_eq_true]at h1;obtain⟨k,hk,h2⟩:=h1;obtain⟨a,b⟩:=hc2 k hk;unfold Bd at h2;rw[hlk k a b]at h2;exact absurd h2 dD
theorem AR (G:fo g Y B) (hF:∀i,i<g.n->∀m,oC (Y i) m<Fu) (h16:g.n<=16) (hn0:0<g.n):∀(f:Nat) (x:Nat->Rat) (t:Rat),Inv g Y B x t->Bo g Y x+(if t=1 then 0 else 1)<f->ND g Y B (GA g Y B Fu f x t)
 |0,_,_,_,h=>absurd h (Nat.not_lt_zero _)
 |f+1,x,t,I,h=>by
  unfold GA;by_cases hC:kE g Y B x=[]
  ·rw[if_neg (λh=>h hC)];by_cases ht:t=1
   ·rw[if_pos ht];subst ht;exact K1 G hF I hC
   ·rw[if_neg ht];obtain⟨_,_,_,I2,hm,_⟩:=tA G hF h16 hn0 I hC ht;rw[if_neg ht]at h;exact AR G hF h16 hn0 f _ _ I2 oO
  ·rw[if_pos hC];obtain⟨_,_,_,_,I2,hm⟩:=y8 G hF h16 I hC;exact AR G hF h16 hn0 f _ _ I2 oO
theorem OP (G:fo g Y B):Inv g Y B (λ_=>0) 0:=by
 have hd:∀i,i<g.n->∀c,cJ Y (λ_=>0) i c=0:=λi hi c=>EZ (G.ly i hi);refine⟨λ_ _=>Rat.le_refl,Rat.le_refl,dD,λj _=> ?_⟩;have h1:ay (iM g B (cJ Y λ_=>0) j) g.n=0:=cj λi hi=>cj λc _=>by
  rw[hd i hi];split<;>rfl
 have h2:ay (λd=>gT g d j (mK (g.d d).W (qD g (cJ Y λ_=>0) d)) (qA (g.d d).W (qD g (cJ Y λ_=>0) d) (dB g d))) g.ds.length=0:=cj λd hd'=>by
  have hq:∀k,k<dB g d->qD g (cJ Y λ_=>0) d k=0:=λk hk=>hd _ (G.lg d hd' k hk).1 _;have hov:∀k,k<=dB g d->oP (g.d d).W (qD g (cJ Y λ_=>0) d) k=0:=λk hk=>by
   rw[iP,ik λj hj=>by rw[hq j oO];exact Rat.le_refl,cj λj hj=>hq j oO];rcases dW (g.d d).W with g1|g1<;>rcases dW (0-pQ (g.d d).W)with g2|g2<;>grind
  have hr:∀k,k<dB g d->mK (g.d d).W (qD g (cJ Y λ_=>0) d) k=0:=λk hk=>by
   unfold mK;rw[hov _ oO,hov _ oO];grind
  have hk:qA (g.d d).W (qD g (cJ Y λ_=>0) d) (dB g d)=0:=by
   unfold qA;rw[cj hq,cj hr];grind
  rw[qR (r':=λ_=>0) hr,hk];unfold gT;rw[cj λk _=>by split<;>rfl];split<;>grind
 unfold F0;rw[h1,h2];grind
end
def sz (n:Nat):Nat:=(bB n).size
theorem jH (m n:Nat):sz (m*n)<=sz m+sz n:=cS m n
theorem vq {m n:Nat} (h:m<=n):sz m<=sz n:=db h
theorem AY:sz 1=1:=iD
def Mu (D:Nat) (q:Rat):Prop:=∃z:Int,q*(D:Rat)=(z:Rat)
section
variable {D E : Nat} {p q : Rat}
theorem Mu.zero:Mu D 0:=⟨0,by rw[Rat.zero_mul];rfl⟩
theorem Mu.one:Mu D 1:=⟨D,by rw[Rat.one_mul,Rat.intCast_natCast]⟩
theorem Mu.add (h:Mu D p) (g:Mu D q):Mu D (p+q):=by
 obtain⟨a,ha⟩:=h;obtain⟨b,hb⟩:=g;exact⟨a+b,by rw[Rat.add_mul,ha,hb,Rat.intCast_add]⟩
theorem Mu.sub (h:Mu D p) (g:Mu D q):Mu D (p-q):=by
 obtain⟨a,ha⟩:=h;obtain⟨b,hb⟩:=g;exact⟨a-b,by rw[Rat.intCast_sub,<-ha,<-hb];grind⟩
theorem Mu.mul (h:Mu D p) (g:Mu E q):Mu (D*E) (p*q):=by
 obtain⟨a,ha⟩:=h;obtain⟨b,hb⟩:=g;exact⟨a*b,by rw[Rat.intCast_mul,<-ha,<-hb,Rat.natCast_mul];grind⟩
theorem Mu.pE (h:Mu D q) (k:Nat):Mu (D*k) q:=by
 have:=h.mul (E:=k) Mu.one;rwa[Rat.mul_one]at this
theorem Mu.dvd (h:Mu D q) (hd:D∣E):Mu E q:=by
 obtain⟨k,rfl⟩:=hd;exact h.pE k
theorem Mu.self (q:Rat):Mu q.den q:=⟨q.num,by
 have h:(q.den:Rat)≠0:=by
  have:=Rat.natCast_pos.2 q.den_pos;grind
 have:=Rat.div_mul_cancel (a:=(q.num:Rat)) h;rwa[<-Rat.mkRat_eq_div,Rat.mkRat_self]at this⟩
theorem Mu.sum {n:Nat} {f:Nat->Rat} (h:∀i,i<n->Mu D (f i)):Mu D (ay f n):=by
 induction n with
 |zero=>exact Mu.zero
 |succ n ih=>exact(ih λi hi=>h i oO).add (h n oO)
theorem Mu.fa {α:Type} {f:α->Rat}:∀ {l:List α},(∀a∈l,Mu D (f a))->Mu D (fa f l)
 | [],_=>Mu.zero
 |_::_,h=>(h _ (List.mem_cons_self ..)).add (Mu.fa λa ha=>h a (List.mem_cons_of_mem _ ha))
theorem Mu.int (hD:0<D) (h:Mu D q) (h0:0<=q) {B:Nat} (hB:q<=(B:Rat)):∃a:Nat,q*(D:Rat)=(a:Rat)/\a<=B*D/\(0<q->0<a):=by
 obtain⟨z,hz⟩:=h;have hD0:(0:Rat)<D:=Rat.natCast_pos.2 hD;have hz0:0<=z:=by
  rw[<-Rat.intCast_nonneg,<-hz];exact Rat.mul_nonneg h0 (Rat.le_of_lt hD0)
 obtain⟨a,rfl⟩:=Int.eq_ofNat_of_zero_le hz0;refine⟨a,by rw[hz,Rat.intCast_natCast],?_,λhq=> ?_⟩
 ·have h1:q*(D:Rat)<=(B:Rat)*(D:Rat):=Rat.mul_le_mul_of_nonneg_right hB (Rat.le_of_lt hD0);rw[hz,<-Rat.natCast_mul,<-Rat.intCast_natCast (B*D),Rat.intCast_le_intCast]at h1;omega
 ·have h1:0<q*(D:Rat):=Rat.mul_pos hq hD0;rw[hz,Rat.intCast_pos]at h1;omega
theorem Mu.size (hD:0<D) (h:Mu D q) (h0:0<=q) {B:Nat} (hB:q<=(B:Rat)):L q<=sz B+sz D:=by
 obtain⟨a,ha,hb,_⟩:=h.int hD h0 hB;have hD0:(0:Rat)<D:=Rat.natCast_pos.2 hD;have e:q=mkRat (a:Int) D:=by
  rw[Rat.mkRat_eq_div,Rat.intCast_natCast,<-ha,Rat.div_def,Rat.mul_assoc,Rat.mul_inv_cancel _ (by grind),Rat.mul_one]
 rw[e];refine AT _ oO ?_ ?_
 ·rw[Int.natAbs_natCast];exact Nat.le_trans (vq hb) (jH _ _)
 ·exact Nat.le_add_left _ _
theorem Mu.quo {a:Nat} (h:Mu (D*E) p) (hq:q≠0) (ha:q*(E:Rat)=(a:Rat)):Mu (D*a) (p/q):=by
 obtain⟨z,hz⟩:=h;refine⟨z,?_⟩;rw[Rat.natCast_mul]at hz;rw[Rat.natCast_mul,<-ha,<-hz,Rat.div_def];have:=Rat.mul_inv_cancel q hq;grind
theorem Mu.dv (h:Mu E p) {s:Rat} {a:Nat} (hs:s≠0) (ha:s*(E:Rat)=(a:Rat)):Mu a (p/s):=by
 have:=Mu.quo (D:=1) (by rwa[Nat.one_mul]) hs ha;rwa[Nat.one_mul]at this
end
abbrev AA:Nat:=65536
abbrev QX:Nat:=67108864
theorem GC:sz AA<=3/\sz (8*AA)<=3/\sz 1<=1/\sz 7<=1/\sz QX<=4/\sz 469762048<=4/\sz 2147483648<=4:=
 ⟨cK dD,cK dD,cK dD,cK dD,cK dD,cK dD,cK dD⟩
structure C8 (D0:Nat) (t:Tr):Prop where
 n:t.ps.length<=8
 q:∀p∈t.ps,Mu D0 p.q/\p.q<=(AA:Rat)
theorem MW {D0:Nat}:∀ {l:List Pa},(∀p∈l,Mu D0 p.q/\p.q<=(AA:Rat))->Mu D0 (qs l)/\qs l<=((l.length*AA:Nat):Rat)/\∀c,Mu D0 (ko c l)
 | [],_=>⟨Mu.zero,by show(0:Rat)<=_;rw[List.length_nil,Nat.zero_mul];exact Rat.le_refl,λ_=>Mu.zero⟩
 |p::l,h=>by
  obtain⟨h1,h2⟩:=h p (List.mem_cons_self ..);obtain⟨a,b,c⟩:=MW λp hp=>h p (List.mem_cons_of_mem _ hp);refine⟨h1.add a,?_,λk=> ?_⟩
  ·show p.q+qs l<=_;rw[List.length_cons,Nat.add_mul,Nat.one_mul,Rat.natCast_add];grind
  ·show Mu D0 ((if p.c=k then p.q else 0)+ko k l);refine Mu.add ?_ (c k);split
   ·exact h1
   ·exact Mu.zero
section
variable {D0 : Nat} {t : Tr} {T : List Tr} {m : Rat} {D : Nat}
theorem C8.s (h:C8 D0 t) (ht:yq t):Mu D0 t.sm/\t.sm<=((8*AA:Nat):Rat):=by
 obtain⟨a,b,_⟩:=MW h.q;rw[ht.s];refine⟨a,Rat.le_trans b ?_⟩;rw[<-Rat.intCast_natCast,<-Rat.intCast_natCast,Rat.intCast_le_intCast];have:=Nat.mul_le_mul_right AA h.n;omega
theorem C8.Ls (h:C8 D0 t) (ht:yq t) (h0:0<D0) (hs:sz D0<=2):L t.sm<=5:=by
 obtain⟨a,b⟩:=h.s ht;have:=a.size h0 ht.s0 b;have:=GC.2.1;omega
theorem C8.Lq (h:C8 D0 t) (ht:yq t) (h0:0<D0) (hs:sz D0<=2) {p:Pa} (hp:p∈t.ps):L p.q<=5:=by
 obtain⟨a,b⟩:=h.q p hp;have:=a.size h0 (ht.q p hp) b;have:=GC.1;omega
theorem tp (hT:qc T) (hb:∀t∈T,C8 D0 t) (h0:0<D0) (hs:sz D0<=2):qf T<=6*T.length:=by
 induction T with
 |nil=>exact Nat.le_refl _
 |cons t T ih=>
  have a:=(hb t (List.mem_cons_self ..)).Ls hT.hd h0 hs;have b:=ih hT.tl λt ht=>hb t (List.mem_cons_of_mem _ ht);rw[sk,List.length_cons];omega
theorem Dk (h0:0<D0) (hs:sz D0<=2):∀ {T:List Tr} {m:Rat},qc T->(∀t∈T,C8 D0 t)->0<=m->Mu D m->D0∣D->∃Z,0<Z/\sz Z<=5/\(∀c,Mu Z (qt T m c))/\∀c,Mu (D*Z) (mC T m c)
 | [],_,_,_,_,_,_=>⟨1,dD,by rw[AY];decide,λ_=>Mu.zero,λ_=>Mu.zero⟩
 |t::T,m,hT,hb,hm,hD,hd=>by
  have bt:=hb t (List.mem_cons_self ..);obtain⟨a,b⟩:=bt.s hT.hd;have ha:=(MW bt.q).2.2;by_cases g:m<t.sm
  ·have hsm:0<t.sm:=by grind
   obtain⟨Z,e1,e2,e3⟩:=a.int h0 hT.hd.s0 b;have hm1:∀c,Mu Z (ko c t.ps/t.sm):=λc=>(ha c).dv (ow hsm) e1;refine⟨Z,e3 hsm,?_,λc=> ?_,λc=> ?_⟩
   ·have:=vq e2;have:=jH (8*AA) D0;have:=GC.2.1;omega
   ·rw[nO,if_pos g];have e:ko c t.ps*(1/t.sm)=ko c t.ps/t.sm:=by rw[Rat.div_def,Rat.div_def];grind
    rw[e];exact hm1 c
   ·rw[gI,if_pos g];have e:ko c t.ps*(m/t.sm)=m*(ko c t.ps/t.sm):=by rw[Rat.div_def,Rat.div_def];grind
    rw[e];exact hD.mul (hm1 c)
  ·obtain⟨Z,e1,e2,e3,e4⟩:=Dk h0 hs (T:=T) (m:=m-t.sm) hT.tl (λt ht=>hb t (List.mem_cons_of_mem _ ht)) (by grind) (hD.sub (a.dvd hd)) hd;refine⟨Z,e1,e2,λc=> ?_,λc=> ?_⟩
   ·rw[nO,if_neg g];exact e3 c
   ·rw[gI,if_neg g];exact(((ha c).dvd hd).pE Z).add (e4 c)
theorem Kd:∀ {T:List Tr} {m:Rat} {c:Int},qc T->0<=m->mC T m c<=m
 | [],_,_,_,h=>h
 |t::T,m,c,hT,hm=>by
  have a:=hT.hd.a c;rw[gI];split
  ·next g=>
   have h1:=gu a.2 (A2 hm (show 0<t.sm by grind));have h2:=mE (a:=m) (show 0<t.sm by grind);grind
  ·have:=Kd (T:=T) (m:=m-t.sm) (c:=c) hT.tl (by grind);grind
theorem El:∀ {T:List Tr} {m:Rat} {c:Int},qc T->0<=m->qt T m c<=1
 | [],_,_,_,_=>by show(0:Rat)<=1;decide
 |t::T,m,c,hT,hm=>by
  have a:=hT.hd.a c;rw[nO];split
  ·next g=>
   have h1:=gu a.2 (A2 (show(0:Rat)<=1 by decide) (show 0<t.sm by grind));have h2:=mE (a:=1) (show 0<t.sm by grind);grind
  ·exact El (T:=T) (m:=m-t.sm) (c:=c) hT.tl (by grind)
theorem Dx (r:Rat) (k:Nat):∀ {l:List Pa},(∀p∈l,L p.q<=5)->L r<=k->tZ (l.map λp=>⟨p.c,p.q*r⟩)<=l.length*(6+k)
 | [],_,_=>Nat.zero_le _
 |p::l,h,hr=>by
  have a:=h p (List.mem_cons_self ..);have b:=Dx r k (λp hp=>h p (List.mem_cons_of_mem _ hp)) hr;have c:=su p.q r;rw[List.map_cons,oS,List.length_cons,Nat.add_mul];show L (p.q*r)+1+_<=_;omega
theorem M3:∀ {l:List Pa},(∀p∈l,L p.q<=5)->tZ l<=l.length*6
 | [],_=>Nat.zero_le _
 |p::l,h=>by
  have a:=h p (List.mem_cons_self ..);have b:=M3 λp hp=>h p (List.mem_cons_of_mem _ hp);rw[oS,List.length_cons,Nat.add_mul];omega
theorem Es (h0:0<D0) (hs:sz D0<=2) {Q l:Nat} (hl:sz Q+sz D<=l) (hD0:0<D):∀ {T:List Tr} {m:Rat},qc T->(∀t∈T,C8 D0 t)->0<=m->m<=(Q:Rat)->Mu D m->D0∣D->tZ (jD T m)<=T.length*(8*(l+11))
 | [],_,_,_,_,_,_,_=>Nat.zero_le _
 |t::T,m,hT,hb,hm,hQ,hD,hd=>by
  have bt:=hb t (List.mem_cons_self ..);have hq:∀p∈t.ps,L p.q<=5:=λp hp=>bt.Lq hT.hd h0 hs hp;have hn:=bt.n;rw[pH,List.length_cons,Nat.add_mul];split
  ·have h1:=hD.size hD0 hm hQ;have h2:=bt.Ls hT.hd h0 hs;have h3:=ri m t.sm;have h4:=Dx (m/t.sm) (l+5) hq oO;have h5:=Nat.mul_le_mul_right (6+(l+5)) hn;show tZ (t.ps.map λp=>⟨p.c,p.q*(m/t.sm)⟩)<=_;omega
  ·have h1:=M3 hq;have h2:=hT.hd.s0;have h3:=Es h0 hs hl hD0 (T:=T) (m:=m-t.sm) hT.tl (λt ht=>hb t (List.mem_cons_of_mem _ ht)) (by grind) (by grind) (hD.sub (((bt.s hT.hd).1).dvd hd)) hd;rw[wR];omega
theorem Ea (h0:0<D0) (hs:sz D0<=2) {r:Rat} {k:Nat} (hr:L r<=k):∀ {T:List Tr} {m:Rat},qc T->(∀t∈T,C8 D0 t)->tZ (jy T m r)<=8*(k+11)
 | [],_,_,_=>Nat.zero_le _
 |t::T,m,hT,hb=>by
  have bt:=hb t (List.mem_cons_self ..);rw[pS];split
  ·have h2:=bt.Ls hT.hd h0 hs;have h3:=ri r t.sm;have h4:=Dx (r/t.sm) (k+5) (λp hp=>bt.Lq hT.hd h0 hs hp) oO;have h5:=Nat.mul_le_mul_right (6+(k+5)) bt.n;show tZ (t.ps.map λp=>⟨p.c,p.q*(r/t.sm)⟩)<=_;omega
  ·exact Ea h0 hs hr hT.tl λt ht=>hb t (List.mem_cons_of_mem _ ht)
def KF:List Tr->Rat
 | []=>0
 |t::T=>t.sm+KF T
theorem Ej:∀ {T:List Tr},qc T->0<=KF T
 | [],_=>Rat.le_refl
 |t::T,hT=>by
  have a:=hT.hd.s0;have b:=Ej hT.tl;show 0<=t.sm+KF T;grind
theorem Fg:∀ {T:List Tr} {m:Rat},qc T->dq T m<T.length->m+j8 T m<=KF T
 | [],_,_,h=>absurd h (Nat.not_lt_zero _)
 |t::T,m,hT,h=>by
  rw[fm]at h;rw[n4];have b:=Ej hT.tl;show _<=t.sm+KF T;split
  ·grind
  ·next g=>
   rw[if_neg g,List.length_cons]at h;have:=Fg (T:=T) (m:=m-t.sm) hT.tl oO;grind
theorem Kg:∀ {T:List Tr} {m:Rat},qc T->0<=m->K7 T m<=KF T
 | [],_,_,_=>Rat.le_refl
 |t::T,m,hT,hm=>by
  have hs:=hT.hd.s;have b:=Ej hT.tl;rw[sN];show _<=t.sm+KF T;split
  ·rw[<-hs,mE (by grind)];grind
  ·have:=Kg (T:=T) (m:=m-t.sm) hT.tl (by grind);grind
theorem IL:∀ {T:List Tr},qc T->(∀t∈T,C8 D0 t)->KF T<=((T.length*(8*AA):Nat):Rat)
 | [],_,_=>by show(0:Rat)<=_;rw[List.length_nil,Nat.zero_mul];exact Rat.le_refl
 |t::T,hT,hb=>by
  have a:=((hb t (List.mem_cons_self ..)).s hT.hd).2;have b:=IL hT.tl λt ht=>hb t (List.mem_cons_of_mem _ ht);show t.sm+KF T<=_;rw[List.length_cons,Nat.add_mul,Nat.one_mul,Rat.natCast_add];grind
theorem Ds:∀ {T:List Tr} {m:Rat},qc T->(∀t∈T,C8 D0 t)->Mu D m->D0∣D->Mu D (j8 T m)
 | [],m,_,_,hD,_=>by
  show Mu D (0-(m-0));exact Mu.zero.sub (hD.sub Mu.zero)
 |t::T,m,hT,hb,hD,hd=>by
  have a:=(((hb t (List.mem_cons_self ..)).s hT.hd).1).dvd hd;rw[n4];split
  ·exact a.sub hD
  ·exact Ds hT.tl (λt ht=>hb t (List.mem_cons_of_mem _ ht)) (hD.sub a) hd
end
structure DR (D0:Nat) (y:Ly):Prop where
 n:y.n<=7
 rl:y.rk.length<=8
 pn:y.pl.length<=2
 ml:∀p∈y.pl,p.mem.length<=7
 ll:∀p∈y.pl,p.ld.length<=4
 rm:∀t∈y.rk,C8 D0 t
 lm:∀p∈y.pl,∀t∈p.ld,C8 D0 t
structure Hn (D0 D:Nat) (m:Rat):Prop where
 d0:0<D0
 s0:sz D0<=2
 Dp:0<D
 dv:D0∣D
 nn:0<=m
 le:m<=(QX:Rat)
 mu:Mu D m
 zz:200*(sz D+100)<=MX
theorem E3 {f:Nat->Rat} {b:Rat}:∀ {l:List Nat},(∀a∈l,f a<=b)->fa f l<=(l.length:Rat)*b
 | [],_=>by show(0:Rat)<=((0:Nat):Rat)*b;rw[show((0:Nat):Rat)=0 from rfl];grind
 |a::l,h=>by
  have h1:=h a (List.mem_cons_self ..);have h2:=E3 λa ha=>h a (List.mem_cons_of_mem _ ha);show f a+fa f l<=_;rw[List.length_cons,Rat.natCast_add,show((1:Nat):Rat)=1 from rfl];grind
theorem qU {a b:Nat} (h:a<=b):(a:Rat)<=(b:Rat):=by
 rw[<-Rat.intCast_natCast,<-Rat.intCast_natCast,Rat.intCast_le_intCast];omega
theorem P9 {f:Nat->Rat} {b:Rat} (hb:0<=b) {l:List Nat} (hl:l.length<=7) (h:∀a∈l,f a<=b):fa f l<=7*b:=by
 have h1:=E3 h;have h2:=qU hl;rw[show((7:Nat):Rat)=7 from rfl]at h2;have:=gu h2 hb;grind
theorem DX {f:Nat->Rat} {k:Nat}:∀ {l:List Nat},(∀a∈l,L (f a)<=k)->Bb l f<=l.length*(k+1)
 | [],_=>Nat.zero_le _
 |a::l,h=>by
  have h1:=h a (List.mem_cons_self ..);have h2:=DX λa ha=>h a (List.mem_cons_of_mem _ ha);show L (f a)+1+Bb l f<=_;rw[List.length_cons,Nat.add_mul];omega
section
variable {D0 D : Nat} {y : Ly} {m : Rat}
theorem GF (y:Ly) (m:Rat) (i k:Nat):(kp y m i).c k=iT y (cy y m) k+fa (λp=>mC p.ld (PS y m p) k) (y.pl.take i):=wG (L:=λp=>jD p.ld (PS y m p)) k _ _
theorem DV (y:Ly) (m:Rat) (i:Nat):(kp y m i).r=0+fa (λp=>mC p.ld (PS y m p) (-1)) (y.pl.take i):=Ab (L:=λp=>jD p.ld (PS y m p)) _ _
theorem Gk (y:Ly) (m:Rat) (i k:Nat):(kB y m i).c k=iT y (dy y m) k+fa (λp=>RS y m p*qt p.ld (PS y m p) k) (y.pl.take i):=by
 have h:=wG (L:=λp=>jy p.ld (PS y m p) (RS y m p)) k (y.pl.take i) ⟨iT y (dy y m),0⟩;have e:fa (λp=>ko k (jy p.ld (PS y m p) (RS y m p))) (y.pl.take i)=fa (λp=>RS y m p*qt p.ld (PS y m p) k) (y.pl.take i):=d9 λp _=>xK _ _ _ _;rw[e]at h;exact h
theorem DB (y:Ly) (m:Rat) (i:Nat):(kB y m i).r=0+fa (λp=>RS y m p*qt p.ld (PS y m p) (-1)) (y.pl.take i):=by
 have h:=Ab (L:=λp=>jy p.ld (PS y m p) (RS y m p)) (y.pl.take i) ⟨iT y (dy y m),0⟩;have e:fa (λp=>ko (-1) (jy p.ld (PS y m p) (RS y m p))) (y.pl.take i)=fa (λp=>RS y m p*qt p.ld (PS y m p) (-1)) (y.pl.take i):=d9 λp _=>xK _ _ _ _;rw[e]at h;exact h
structure Ri (y:Ly) (m:Rat) (D E:Nat):Prop where
 pos:0<E
 ez:sz E<=16
 rt:∀k,Mu E (dy y m k)
 gr:∀k,Mu (D*E) (cy y m k)
 ps:∀p∈y.pl,Mu (D*E) (PS y m p)/\Mu E (RS y m p)
 pl:∀p∈y.pl,∀c,Mu E (RS y m p*qt p.ld (PS y m p) c)/\Mu (D*E) (mC p.ld (PS y m p) c)
theorem A7 (hy:iy y) (hb:DR D0 y) (hm:Hn D0 D m):∃E,Ri y m D E:=by
 obtain⟨Z0,z1,z2,z3,z4⟩:=Dk hm.d0 hm.s0 hy.rk hb.rm hm.nn hm.mu hm.dv;have hg:∀k,Mu (D*Z0) (cy y m k):=λk=>by rw[im];exact z4 _
 have hr:∀k,Mu Z0 (dy y m k):=λk=>by rw[mF];exact z3 _
 have hP:∀p,Mu (D*Z0) (PS y m p):=λp=>by unfold PS;rw[fS];exact Mu.fa λa _=>hg a
 have hR:∀p,Mu Z0 (RS y m p):=λp=>by unfold RS;rw[fS];exact Mu.fa λa _=>hr a
 have key:∀l:List Pl,(∀p∈l,p∈y.pl)->∃Z,0<Z/\sz Z<=1+5*l.length/\∀p∈l,∀c,Mu Z (qt p.ld (PS y m p) c)/\Mu (D*Z0*Z) (mC p.ld (PS y m p) c):=by
  intro l;induction l with
  |nil=>exact λ_=>⟨1,dD,by rw[AY];exact Nat.le_refl _,λ_ h=>by cases h⟩
  |cons p l ih=>
   intro h;obtain⟨Z,a1,a2,a3⟩:=ih λq hq=>h q (List.mem_cons_of_mem _ hq);have hp:=h p (List.mem_cons_self ..);obtain⟨Z2,b1,b2,b3,b4⟩:=Dk hm.d0 hm.s0 (D:=D*Z0) (hy.ld p hp) (hb.lm p hp) (kX hy hm.nn p) (hP p) (Nat.dvd_trans hm.dv ⟨Z0,rfl⟩);refine⟨Z2*Z,Nat.mul_pos b1 a1,?_,λq hq c=> ?_⟩
   ·have:=jH Z2 Z;rw[List.length_cons];omega
   ·rcases List.mem_cons.1 hq with rfl|hq
    ·exact⟨(b3 c).pE Z,by rw[<-Nat.mul_assoc];exact(b4 c).pE Z⟩
    ·obtain⟨c1,c2⟩:=a3 q hq c;exact⟨c1.dvd ⟨Z2,Nat.mul_comm _ _⟩,c2.dvd ⟨Z2,by rw[Nat.mul_comm Z2 Z,<-Nat.mul_assoc]⟩⟩
 obtain⟨Z,a1,a2,a3⟩:=key y.pl λ_ h=>h;have hpn:=hb.pn;refine⟨Z0*Z,Nat.mul_pos z1 a1,?_,λk=>(hr k).pE Z,λk=> ?_,λp _=>⟨?_,(hR p).pE Z⟩,λp hp c=> ?_⟩
 ·have:=jH Z0 Z;omega
 ·rw[<-Nat.mul_assoc];exact(hg k).pE Z
 ·rw[<-Nat.mul_assoc];exact(hP p).pE Z
 ·obtain⟨c1,c2⟩:=a3 p hp c;exact⟨(hR p).mul c1,by rw[<-Nat.mul_assoc];exact c2⟩
theorem xz (hy:iy y) (hm:0<=m) (k:Nat):cy y m k<=m:=by rw[im];exact Kd hy.rk hm
theorem wh (hy:iy y) (hm:0<=m) (k:Nat):dy y m k<=1:=by rw[mF];exact El hy.rk hm
theorem H4 (hy:iy y) (hb:DR D0 y) (hm:0<=m) {p:Pl} (hp:p∈y.pl):PS y m p<=7*m:=by
 unfold PS;rw[fS];exact P9 hm (hb.ml p hp) λa _=>xz hy hm a
theorem Jd (hy:iy y) (hb:DR D0 y) (hm:0<=m) {p:Pl} (hp:p∈y.pl):RS y m p<=7:=by
 have:=P9 (f:=dy y m) (b:=1) dD (hb.ml p hp) λa _=>wh hy hm a;unfold RS;rw[fS];grind
theorem PD {f:Pl->Rat} {b:Rat} (h0:0<=b):∀ {l:List Pl},l.length<=2->(∀a∈l,f a<=b)->fa f l<=2*b
 | [],_,_=>by show(0:Rat)<=_;grind
 | [p],_,h=>by
  have h1:=h p (List.mem_cons_self ..);show f p+0<=_;grind
 | [p,q],_,h=>by
  have h1:=h p (List.mem_cons_self ..);have h2:=h q (List.mem_cons_of_mem _ (List.mem_cons_self ..));show f p+(f q+0)<=_;grind
 |_::_::_::_,hl,_=>by simp only[List.length_cons]at hl;omega
theorem EI {f:Nat->Rat} {b:Rat} (k:Nat) (h0:0<=b) (h:∀k,0<=f k/\f k<=b):0<=iT y f k/\iT y f k<=b:=by
 rw[gC];split
 ·exact⟨Rat.le_refl,h0⟩
 ·exact h k
theorem sR {f:Nat->Rat} (k:Nat) (h:∀k,Mu D (f k)):Mu D (iT y f k):=by
 rw[gC];split
 ·exact Mu.zero
 ·exact h k
structure RH (y:Ly) (m:Rat) (l:Nat):Prop where
 lm:L m<=l
 gr:∀k,L (cy y m k)<=l
 rt:∀k,L (dy y m k)<=20
 ps:∀p∈y.pl,L (PS y m p)<=l
 rs:∀p∈y.pl,L (RS y m p)<=20
 dl:∀i k,L ((kp y m i).c k)<=l
 dr:∀i,L (kp y m i).r<=l
 sl:∀i k,L ((kB y m i).c k)<=20
 sr:∀i,L (kB y m i).r<=20
theorem CM:((QX:Nat):Rat)=67108864:=rfl
theorem GT (hy:iy y) (hb:DR D0 y) (hm:Hn D0 D m):RH y m (sz D+20):=by
 obtain⟨E,e⟩:=A7 hy hb hm;have hDE:=jH D E;have hE:=e.ez;have hle:=hm.le;have hDE0:0<D*E:=Nat.mul_pos hm.Dp e.pos;obtain⟨_,_,s1,s7,sQ,s7Q,sB⟩:=GC;have h0:=hm.nn;rw[CM]at hle;have hk:∀ {a b:Rat},0<=a->a<=7*m->a<=((469762048:Nat):Rat):=λ_ h=>by
  rw[show((469762048:Nat):Rat)=469762048 from rfl];grind
 have hsub:∀i,∀p∈y.pl.take i,p∈y.pl:=λi p hp=>List.mem_of_mem_take hp;have hlen:∀i,(y.pl.take i).length<=2:=λi=>by have:=hb.pn;rw[List.length_take];omega
 have hpy:∀p∈y.pl,∀c,0<=mC p.ld (PS y m p) c/\mC p.ld (PS y m p) c<=7*m:=λp hp c=>⟨zh (hy.ld p hp) (kX hy h0 p),Rat.le_trans (Kd (hy.ld p hp) (kX hy h0 p)) (H4 hy hb h0 hp)⟩;have hsp:∀p∈y.pl,∀c,0<=RS y m p*qt p.ld (PS y m p) c/\RS y m p*qt p.ld (PS y m p) c<=7:=λp hp c=>by
  have a1:=Bi (c:=c) (hy.ld p hp) (kX hy h0 p);have a2:=El (c:=c) (hy.ld p hp) (kX hy h0 p);have a3:=zu hy h0 p;have a4:=Jd hy hb h0 hp;have a5:=gu a2 a3;exact⟨fc a3 a1,by grind⟩
 have bpy:∀i (c:Int),0<=fa (λp=>mC p.ld (PS y m p) c) (y.pl.take i)/\fa (λp=>mC p.ld (PS y m p) c) (y.pl.take i)<=2*(7*m):=λi c=>⟨tL λp hp=>(hpy p (hsub i p hp) c).1,PD (by grind) (hlen i) λp hp=>(hpy p (hsub i p hp) c).2⟩;have bsp:∀i (c:Int),0<=fa (λp=>RS y m p*qt p.ld (PS y m p) c) (y.pl.take i)/\fa (λp=>RS y m p*qt p.ld (PS y m p) c) (y.pl.take i)<=2*7:=λi c=>⟨tL λp hp=>(hsp p (hsub i p hp) c).1,PD dD (hlen i) λp hp=>(hsp p (hsub i p hp) c).2⟩;have b31:∀ {a:Rat},a<=15*m->a<=((2147483648:Nat):Rat):=λh=>by
  rw[show((2147483648:Nat):Rat)=2147483648 from rfl];grind
 refine⟨?_,λk=> ?_,λk=> ?_,λp hp=> ?_,λp hp=> ?_,λi k=> ?_,λi=> ?_,λi k=> ?_,λi=> ?_⟩
 ·have:=hm.mu.size hm.Dp h0 hm.le;omega
 ·have:=(e.gr k).size hDE0 (rJ hy h0) (Rat.le_trans (xz hy h0 k) hm.le);omega
 ·have:=(e.rt k).size e.pos (sT hy h0) (B:=1) (wh hy h0 k);omega
 ·have:=(e.ps p hp).1.size hDE0 (kX hy h0 p) (B:=469762048) (hk (b:=0) (kX hy h0 p) (H4 hy hb h0 hp));omega
 ·have:=(e.ps p hp).2.size e.pos (zu hy h0 p) (B:=7) (Jd hy hb h0 hp);omega
 ·have a:=EI (y:=y) (f:=cy y m) k h0 λk=>⟨rJ hy h0,xz hy h0 k⟩;have b:=bpy i k;rw[GF];have:=((sR (y:=y) k e.gr).add (Mu.fa λp hp=>(e.pl p (hsub i p hp) k).2)).size hDE0 (by grind) (B:=2147483648) (b31 (by grind));omega
 ·have b:=bpy i (-1);rw[DV];have:=(Mu.zero.add (Mu.fa λp hp=>(e.pl p (hsub i p hp) (-1)).2)).size hDE0 (by grind) (B:=2147483648) (b31 (by grind));omega
 ·have a:=EI (y:=y) (f:=dy y m) (b:=1) k dD λk=>⟨sT hy h0,wh hy h0 k⟩;have b:=bsp i k;rw[Gk];have:=((sR (y:=y) k e.rt).add (Mu.fa λp hp=>(e.pl p (hsub i p hp) k).1)).size e.pos (by grind) (B:=QX) (by rw[CM];grind);omega
 ·have b:=bsp i (-1);rw[DB];have:=(Mu.zero.add (Mu.fa λp hp=>(e.pl p (hsub i p hp) (-1)).1)).size e.pos (by grind) (B:=QX) (by rw[CM];grind);omega
theorem NG {n:Nat} {T:List Tr} (hT:qc T) (hp:∀t∈T,∀p∈t.ps,r7 n p):Dy n T:=⟨hp,λt ht=>(hT t ht).s0⟩
theorem Qh (hy:iy y) (hb:DR D0 y) (hm:Hn D0 D m) {E:Nat} (e:Ri y m D E) {p:Pl} (hp:p∈y.pl):tZ (jD p.ld (PS y m p))<=32*(sz D+31):=by
 obtain⟨_,_,s1,s7,sQ,s7Q,sB⟩:=GC;have hDE:=jH D E;have hE:=e.ez;have hle:=hm.le;rw[CM]at hle;have h1:=Es hm.d0 hm.s0 (Q:=469762048) (D:=D*E) (l:=sz D+20) oO (Nat.mul_pos hm.Dp e.pos) (hy.ld p hp) (hb.lm p hp) (kX hy hm.nn p) (by
  have:=H4 hy hb hm.nn hp;rw[show((469762048:Nat):Rat)=469762048 from rfl];grind) (e.ps p hp).1 (Nat.dvd_trans hm.dv ⟨E,rfl⟩)
 have h2:=Nat.mul_le_mul_right (8*(sz D+20+11)) (hb.ll p hp);omega
theorem NB (hy:iy y) (hb:DR D0 y) (hm:Hn D0 D m):Ih y m:=by
 obtain⟨E,e⟩:=A7 hy hb hm;have l:=GT hy hb hm;have hsz:=hm.zz;have hL0:=fM;have hsT:=tp hy.rk hb.rm hm.d0 hm.s0;have hrl:=hb.rl;have hlm:=l.lm;have hwr:tZ (jD y.rk m)<=64*(sz D+31):=by
  have h1:=Es hm.d0 hm.s0 (Q:=QX) (D:=D) (l:=sz D+20) (by have:=GC.2.2.2.2.1;omega) hm.Dp hy.rk hb.rm hm.nn hm.le hm.mu hm.dv;have h2:=Nat.mul_le_mul_right (8*(sz D+20+11)) hb.rl;omega
 have hsl:∀p∈y.pl,qf p.ld<=24:=λp hp=>by
  have h1:=tp (hy.ld p hp) (hb.lm p hp) hm.d0 hm.s0;have:=hb.ll p hp;omega
 refine⟨by have:=hb.n;omega,NG hy.rk hy.rp,hm.nn,oO,⟨λk _=> ?_,?_⟩,λt ht p hp=> ?_,hy.mn,λp hp=>NG (hy.ld p hp) (hy.lp p hp),λp hp=> ?_,λp hp=>kX hy hm.nn p,λp hp=> ?_,λi hi=> ?_,λp hp t ht q hq=> ?_⟩
 ·show L (0:Rat)+_<=MX;omega
 ·show L (0:Rat)+_<=MX;omega
 ·have:=(hb.rm t ht).Lq (hy.rk t ht) hm.d0 hm.s0 hp;omega
 ·have h1:=DX (l:=p.mem) (f:=cy y m) λa _=>l.gr a;have h2:=Nat.mul_le_mul_right (sz D+20+1) (hb.ml p hp);omega
 ·have h1:=l.ps p hp;have:=hsl p hp;show 2*(L (PS y m p)+qf p.ld+2)<=MX;omega
 ·have hp:y.pl.getD i oQ∈y.pl:=bC _ _ _ hi;have h1:=Qh hy hb hm e hp;have h3:=l.dr i;refine⟨λk _=> ?_,?_⟩
  ·have h2:=l.dl i k;show _+tZ (jD (y.pl.getD i oQ).ld (PS y m (y.pl.getD i oQ)))<=MX;omega
  ·show _+tZ (jD (y.pl.getD i oQ).ld (PS y m (y.pl.getD i oQ)))<=MX;omega
 ·have h1:=l.ps p hp;have:=hsl p hp;have:=(hb.lm p hp t ht).Lq (hy.ld p hp t ht) hm.d0 hm.s0 hq;show _+L (PS y m p)+_+2<=MX;omega
theorem Fw (hy:iy y) (hb:DR D0 y) (hm:Hn D0 D m):Ch y m:=by
 have l:=GT hy hb hm;have hsz:=hm.zz;have hL0:=fM;have hL1:=CR;have hsT:=tp hy.rk hb.rm hm.d0 hm.s0;have hrl:=hb.rl;have hwr:=Ea hm.d0 hm.s0 (r:=1) (k:=1) (m:=m) oO hy.rk hb.rm;have hsl:∀p∈y.pl,qf p.ld<=24:=λp hp=>by
  have h1:=tp (hy.ld p hp) (hb.lm p hp) hm.d0 hm.s0;have:=hb.ll p hp;omega
 refine⟨NB hy hb hm,⟨λk _=> ?_,?_⟩,λt ht p hp=> ?_,λp hp=> ?_,λi hi=> ?_,λp hp=> ?_,λp hp t ht q hq=> ?_⟩
 ·show L (0:Rat)+_<=MX;omega
 ·show L (0:Rat)+_<=MX;omega
 ·have:=(hb.rm t ht).Lq (hy.rk t ht) hm.d0 hm.s0 hp;omega
 ·have h1:=DX (l:=p.mem) (f:=dy y m) λa _=>l.rt a;have h2:=Nat.mul_le_mul_right (20+1) (hb.ml p hp);omega
 ·have hp:y.pl.getD i oQ∈y.pl:=bC _ _ _ hi;have h1:=Ea hm.d0 hm.s0 (r:=RS y m (y.pl.getD i oQ)) (k:=20) (m:=PS y m (y.pl.getD i oQ)) (l.rs _ hp) (hy.ld _ hp) (hb.lm _ hp);have h3:=l.sr i;refine⟨λk _=> ?_,?_⟩
  ·have h2:=l.sl i k;show _+tZ (jy (y.pl.getD i oQ).ld (PS y m (y.pl.getD i oQ)) (RS y m (y.pl.getD i oQ)))<=MX;omega
  ·show _+tZ (jy (y.pl.getD i oQ).ld (PS y m (y.pl.getD i oQ)) (RS y m (y.pl.getD i oQ)))<=MX;omega
 ·have h1:=l.rs p hp;have:=hsl p hp;show L (RS y m p)+_<=MX;omega
 ·have h1:=l.rs p hp;have:=hsl p hp;have:=(hb.lm p hp t ht).Lq (hy.ld p hp t ht) hm.d0 hm.s0 hq;show _+L (RS y m p)+_+2<=MX;omega
end
section
variable {D0 D : Nat} {y : Ly} {m : Rat}
theorem M8 {T:List Tr} (hT:qc T) (hb:∀t∈T,C8 D0 t) (h0:0<D0) (hs:sz D0<=2) (m:Rat):L (j8 T m)<=L m+qf T+8:=by
 have h1:=Ae T m (lT T m);have h2:=mw (T.getD (dq T m) jZ).sm (j9 T m);have h3:L (T.getD (dq T m) jZ).sm<=5:=by
  by_cases g:dq T m<T.length
  ·have hm:=bC T _ jZ g;exact(hb _ hm).Ls (hT _ hm) h0 hs
  ·rw[List.getD_eq_getElem?_getD,List.getElem?_eq_none oO];have:=fM;show L (0:Rat)<=5;omega
 show L ((T.getD (dq T m) jZ).sm-j9 T m)<=_;have h4:L (j9 T m)<=L m+qf T+2:=h1;omega
theorem Nr (hy:iy y) (hb:DR D0 y) (hm:Hn D0 D m):(∀p∈y.pl,L (j8 p.ld (PS y m p))<=sz D+60/\L (qk y m p)<=sz D+90)/\∀i,L (pj y m i)<=sz D+90:=by
 have l:=GT hy hb hm;have hlm:=l.lm;have h1:∀p∈y.pl,L (j8 p.ld (PS y m p))<=sz D+60/\L (qk y m p)<=sz D+90:=λp hp=>by
  have a:=M8 (hy.ld p hp) (hb.lm p hp) hm.d0 hm.s0 (PS y m p);have b:=tp (hy.ld p hp) (hb.lm p hp) hm.d0 hm.s0;have c:=hb.ll p hp;have d:=l.ps p hp;have e:=l.rs p hp;have f:L (qk y m p)<=_:=ri (j8 p.ld (PS y m p)) (RS y m p);exact⟨oO,oO⟩
 refine⟨h1,λi=> ?_⟩;rcases(wc y m (y.pl.take i) (j8 y.rk m)).2.2 with e|⟨p,hp,_,e⟩
 ·have a:=M8 hy.rk hb.rm hm.d0 hm.s0 m;have b:=tp hy.rk hb.rm hm.d0 hm.s0;have c:=hb.rl;show L ((y.pl.take i).foldl (lS y m) (j8 y.rk m))<=_;rw[e];omega
 ·show L ((y.pl.take i).foldl (lS y m) (j8 y.rk m))<=_;rw[e];exact(h1 p (List.mem_of_mem_take hp)).2
theorem PC (hy:iy y) (hb:DR D0 y) (hm:Hn D0 D m):Om y m:=by
 obtain⟨h1,h2⟩:=Nr hy hb hm;have l:=GT hy hb hm;have:=hm.zz;refine⟨Fw hy hb hm,λp hp=> ?_,λi hi=> ?_⟩
 ·have a:=(h1 p hp).1;have b:=l.rs p hp;show L (j8 p.ld (PS y m p))+L (RS y m p)<=MX;omega
 ·have a:=h2 i;have b:=(h1 _ (bC y.pl i oQ hi)).2;omega
theorem Nf (hy:iy y) (hb:DR D0 y) (hm:Hn D0 D m) (hf:dq y.rk m<y.rk.length):∃D',0<D'/\D∣D'/\sz D'<=sz D+30/\Mu D' (sw y m)/\0<=sw y m/\sw y m<=(QX:Rat):=by
 obtain⟨E,e⟩:=A7 hy hb hm;have hp:=Av hf;have h0:=hm.nn;have hle:sw y m<=(QX:Rat):=by
  have a:=(nG y m).1;have b:=Fg hy.rk hf;have c:=IL hy.rk hb.rm;have d:=qU (show y.rk.length*(8*AA)<=QX by have:=hb.rl;show y.rk.length*524288<=67108864;omega);show m+xf y m<=_;grind
 have hnn:0<=sw y m:=by show 0<=m+xf y m;grind
 rcases(nG y m).2.2 with g|⟨p,hp',hc,g⟩
 ·refine⟨D,hm.Dp,⟨1,(Nat.mul_one _).symm⟩,oO,?_,hnn,hle⟩;show Mu D (m+xf y m);rw[g];exact hm.mu.add (Ds hy.rk hb.rm hm.mu hm.dv)
 ·obtain⟨r,r1,r2,r3⟩:=(e.ps p hp').2.int e.pos (zu hy h0 p) (B:=7) (Jd hy hb h0 hp');have hR:0<RS y m p:=hc.2;refine⟨D*r,Nat.mul_pos hm.Dp (r3 hR),⟨r,rfl⟩,?_,?_,hnn,hle⟩
  ·have:=jH D r;have:=vq r2;have:=jH 7 E;have:=GC.2.2.2.1;have:=e.ez;omega
  ·show Mu (D*r) (m+xf y m);rw[g];exact(hm.mu.pE r).add (Mu.quo (Ds (hy.ld p hp') (hb.lm p hp') (e.ps p hp').1 (Nat.dvd_trans hm.dv ⟨E,rfl⟩)) (ow hR) r1)
theorem Qy (hy:iy y) (hb:DR D0 y) (m0:Rat):∀(f:Nat) (m:Rat) (D:Nat),Hn D0 D m->oC y m<f->200*(sz D+30*f+100)<=MX->PR y m0 f m
 |0,_,_,_,h,_=>absurd h (Nat.not_lt_zero _)
 |f+1,m,D,hm,hmu,hs=>by
  obtain⟨h1,h2⟩:=Nr hy hb hm;have l:=GT hy hb hm;refine⟨PC hy hb hm,λhf=> ?_⟩;obtain⟨D',d1,d2,d3,d4,d5,d6⟩:=Nf hy hb hm hf;have hm':Hn D0 D' (sw y m):=⟨hm.d0,hm.s0,d1,Nat.dvd_trans hm.dv d2,d5,d6,d4,oO⟩;have hst:oC y (sw y m)<oC y m:=Bk hy hm.nn hf;refine⟨?_,Fw hy hb hm',λ_=>Qy hy hb m0 f _ D' hm' oO oO⟩;have:=h2 y.pl.length;have:=l.lm;omega
theorem IW (hy:iy y) (hb:DR D0 y) (m0:Rat):∀(f:Nat) (m:Rat) (D:Nat),Hn D0 D m->200*(sz D+30*f+100)<=MX->∀z,A9 y m0 f m=some z->∃D',0<D'/\D∣D'/\sz D'<=sz D+30*f/\Mu D' z/\0<=z/\z<=(QX:Rat)
 |0,_,_,_,_,_,h=>by cases h
 |f+1,m,D,hm,hs,z,h=>by
  unfold A9 at h;by_cases hf:dq y.rk m<y.rk.length
  ·obtain⟨D',d1,d2,d3,d4,d5,d6⟩:=Nf hy hb hm hf;rw[if_pos hf]at h;split at h
   ·obtain⟨D2,e1,e2,e3,e4⟩:=IW hy hb m0 f _ D' ⟨hm.d0,hm.s0,d1,Nat.dvd_trans hm.dv d2,d5,d6,d4,oO⟩ oO z h;exact⟨D2,e1,Nat.dvd_trans d2 e2,oO,e4⟩
   ·obtain rfl:=Option.some.inj h;exact⟨D',d1,d2,oO,d4,d5,d6⟩
  ·rw[if_neg hf]at h;cases h
theorem HN (hb:DR D0 y) (m:Rat):oC y m<=16:=by
 have h1:=hb.rl;have h2:∀l:List Pl,(∀p∈l,p.ld.length<=4)->(l.map λp=>p.ld.length-dq p.ld (PS y m p)).sum<=4*l.length:=λl=>by
  induction l with
  |nil=>exact λ_=>Nat.le_refl _
  |cons p l ih=>
   intro h;have a:=h p (List.mem_cons_self ..);have b:=ih λp hp=>h p (List.mem_cons_of_mem _ hp);rw[List.map_cons,List.sum_cons,List.length_cons];omega
 have h3:=h2 y.pl hb.ll;have h4:=hb.pn;unfold oC;omega
end
theorem tG {f:Nat->Rat} {k:Nat}:∀ {n:Nat},(∀i,i<n->L (f i)<=k)->L (ay f n)<=n*(k+1)+1
 |0,_=>by rw[show ay f 0=0 from rfl,fM];omega
 |n+1,h=>by
  have a:=tG (n:=n) λi hi=>h i oO;have b:=h n oO;have c:=t6 (ay f n) (f n);show L (ay f n+f n)<=_;rw[Nat.add_mul];omega
theorem FM {f:Nat->Rat} {K:Nat}:∀ {n:Nat},(∀i,i<n->L (f i)<=K)->∃D:Nat,0<D/\sz D<=n*K+1/\∀i,i<n->Mu D (f i)
 |0,_=>⟨1,dD,by rw[AY];omega,λ_ h=>absurd h (Nat.not_lt_zero _)⟩
 |n+1,h=>by
  obtain⟨D,h1,h2,h3⟩:=FM (n:=n) λi hi=>h i oO;have hn:=h n oO;have hd:sz (f n).den<=K:=Nat.le_trans (lN _) hn;refine⟨D*(f n).den,Nat.mul_pos h1 (f n).den_pos,?_,λi hi=> ?_⟩
  ·have:=jH D (f n).den;rw[Nat.add_mul];omega
  ·by_cases e:i=n
   ·rw[e];exact(Mu.self _).dvd ⟨D,Nat.mul_comm _ _⟩
   ·exact(h3 i oO).pE _
theorem N9 {q:Rat} (h:0<=q):q<=((q.num.natAbs:Nat):Rat):=by
 obtain⟨a,ha⟩:∃a:Rat,a=(q.den:Rat):=⟨_,rfl⟩;have h1:(1:Rat)<=a:=by rw[ha];exact qU q.den_pos
 have h2:q*a=(q.num:Rat):=by
  obtain⟨z,hz⟩:=Mu.self q;have h3:=Rat.div_mul_cancel (a:=(q.num:Rat)) (b:=(q.den:Rat)) (by rw[<-ha];grind);rw[<-Rat.mkRat_eq_div,Rat.mkRat_self]at h3;rw[ha];exact h3
 have h4:=gu h1 h;have h5:0<=q.num:=Rat.num_nonneg.2 h;rw[<-Rat.intCast_natCast,Int.natAbs_of_nonneg h5,<-h2];grind
theorem whole {q:Rat} {E K:Nat} (hq:0<q) (hE:0<E) (h:Mu E q) (hL:L q<=K):∃r:Nat,q*(E:Rat)=(r:Rat)/\0<r/\sz r<=K+sz E:=by
 obtain⟨r,r1,r2,r3⟩:=h.int hE (Rat.le_of_lt hq) (N9 (Rat.le_of_lt hq));refine⟨r,r1,r3 hq,?_⟩;have h1:=vq r2;have h2:=jH q.num.natAbs E;have h3:sz q.num.natAbs<=L q:=mz q;omega
structure px (D0:Nat) (g:fp) (Y:Nat->Ly):Prop where
 d0:0<D0
 s0:sz D0<=2
 n0:0<g.n
 n:g.n<=8
 dn:g.ds.length<=6
 ln:∀d,d<g.ds.length->dB g d<=4
 ly:∀i,i<g.n->DR D0 (Y i)
 cash:∀i,i<g.n->Mu D0 (uy g i)/\uy g i<=(AA:Rat)
 W:∀d,d<g.ds.length->0<=(g.d d).W/\Mu D0 (g.d d).W/\(g.d d).W<=(AA:Rat)
 tot:∀i,i<g.n->L (Y i).tot<=20
structure s9 (D0 D:Nat) (g:fp) (x:Nat->Rat):Prop where
 Dp:0<D
 dv:D0∣D
 mu:∀i,i<g.n->Mu D (x i)
 nn:∀i,i<g.n->0<=x i
 le:∀i,i<g.n->x i<=(QX:Rat)
 zz:200*(sz D+700)<=MX
section
variable {D0 D : Nat} {g : fp} {Y : Nat → Ly} {B : Nat → Nat → Bool} {x d : Nat → Rat}
theorem s9.mo (X:s9 D0 D g x) (b:px D0 g Y) {i:Nat} (hi:i<g.n):Hn D0 D (x i):=⟨b.d0,b.s0,X.Dp,X.dv,X.nn i hi,X.le i hi,X.mu i hi,by have:=X.zz;omega⟩
theorem RQ (G:fo g Y B) (b:px D0 g Y) {i:Nat} (hi:i<g.n):g.cn i<=7:=by have:=(b.ly i hi).n;rw[G.yn i hi]at this;exact this
theorem B8 (G:fo g Y B) (b:px D0 g Y) (X:s9 D0 D g x):(∀i,i<g.n->∀c,L (cJ Y x i c)<=sz D+20/\L (gq Y x i c)<=20):=λi hi c=>by
 have l:=GT (G.ly i hi) (b.ly i hi) (X.mo b hi);exact⟨l.dl _ c,l.sl _ c⟩
theorem WL (b:px D0 g Y) {d:Nat} (hd:d<g.ds.length):L (g.d d).W<=5:=by
 obtain⟨h1,h2,h3⟩:=b.W d hd;have:=h2.size b.d0 h1 h3;have:=GC.1;have:=b.s0;omega
theorem Lc (q:Rat):L (pQ q)<=L q+1:=B4 q
theorem Na (G:fo g Y B) (b:px D0 g Y) (X:s9 D0 D g x) {i:Nat} (hi:i<g.n):∃E,0<E/\sz E<=16/\(∀c,Mu E (gq Y x i c))/\∀c,Mu (D*E) (cJ Y x i c):=by
 obtain⟨E,e⟩:=A7 (G.ly i hi) (b.ly i hi) (X.mo b hi);refine⟨E,e.pos,e.ez,λc=> ?_,λc=> ?_⟩
 ·show Mu E (sC (Y i) (x i) c);rw[Cw];exact(sR c e.rt).add (Mu.fa λp hp=>(e.pl p hp c).1)
 ·show Mu (D*E) (dC (Y i) (x i) c);rw[o8];exact(sR c e.gr).add (Mu.fa λp hp=>(e.pl p hp c).2)
theorem Oe (G:fo g Y B) (b:px D0 g Y) (X:s9 D0 D g x):∃E,0<E/\sz E<=129/\∀i,i<g.n->(∀c,Mu E (gq Y x i c))/\∀c,Mu (D*E) (cJ Y x i c):=by
 have key:∀n,n<=g.n->∃E,0<E/\sz E<=16*n+1/\∀i,i<n->(∀c,Mu E (gq Y x i c))/\∀c,Mu (D*E) (cJ Y x i c):=by
  intro n;induction n with
  |zero=>exact λ_=>⟨1,dD,by rw[AY];omega,λ_ h=>absurd h (Nat.not_lt_zero _)⟩
  |succ n ih=>
   intro hn;obtain⟨E,h1,h2,h3⟩:=ih oO;obtain⟨F,f1,f2,f3,f4⟩:=Na G b X (i:=n) oO;refine⟨E*F,Nat.mul_pos h1 f1,by have:=jH E F;omega,λi hi=> ?_⟩;by_cases e:i=n
   ·rw[e];exact⟨λc=>(f3 c).dvd ⟨E,Nat.mul_comm _ _⟩,λc=>(f4 c).dvd ⟨E,by rw[Nat.mul_comm E F,Nat.mul_assoc]⟩⟩
   ·obtain⟨a,c⟩:=h3 i oO;exact⟨λk=>(a k).pE F,λk=>by rw[<-Nat.mul_assoc];exact(c k).pE F⟩
 obtain⟨E,h1,h2,h3⟩:=key g.n (Nat.le_refl _);have:=b.n;exact⟨E,h1,oO,h3⟩
theorem AK {q:Nat->Rat} {k n:Nat} (hn:n<=4) (h:∀j,j<n->L (q j)<=k):L (fP q n)<=4*(k+2)+1:=by
 have h1:=tG (f:=λj=>pQ (q j)) (k:=k+1) (n:=n) λj hj=>by have:=h j hj;have:=Lc (q j);omega
 have h2:=Nat.mul_le_mul_right (k+1+1) hn;show L (ay (λj=>pQ (q j)) n)<=_;omega
theorem F3 (G:fo g Y B) (b:px D0 g Y) (X:s9 D0 D g x) {i j:Nat} (hi:i<g.n) (hj:j<g.n):L (i9 g Y B x j i)<=17:=by
 obtain⟨E,h1,h2,h3,_⟩:=Na G b X hi;have hM:=qu (B:=B) G X.nn;have e:i9 g Y B x j i=Bh g B (cJ Y x) (gq Y x) j i:=EP G.ho G.lg hi j;have how:∀d,d<g.ds.length->∀k,Mu E (j0 g (gq Y x) d i k):=λd hd k=>by
  unfold j0;split
  ·next g1=>rw[g1];exact h3 _
  ·exact Mu.zero
 have hov:∀d,d<g.ds.length->∀k,k<=dB g d->Mu E (qi (g.d d).W (qD g (cJ Y x) d) (j0 g (gq Y x) d i) k):=λd hd k hk=>by
  rw[mI _ _ λj hj=>xp G (Bt G X.nn) hd i oO];have hs:Mu E (ay (j0 g (gq Y x) d i) k):=Mu.sum λj _=>how d hd j;split
  ·rw[Rat.one_mul];exact hs
  ·rw[Rat.zero_mul];exact Mu.zero
 have hmu:Mu E (i9 g Y B x j i):=by
  rw[e];unfold Bh iM;refine Mu.add (Mu.sum λc _=> ?_) (Mu.sum λd hd=> ?_)
  ·split
   ·exact h3 c
   ·exact Mu.zero
  ·unfold gT;refine Mu.add (Mu.sum λk hk=> ?_) ?_
   ·split
    ·show Mu E (qi _ _ _ (k+1)-qi _ _ _ k);exact(hov d hd (k+1) hk).sub (hov d hd k oO)
    ·exact Mu.zero
   ·split
    ·unfold yl;rw[mS];exact(Mu.sum λk _=>how d hd k).sub (hov d hd _ (Nat.le_refl _))
    ·exact Mu.zero
 have hle:i9 g Y B x j i<=((1:Nat):Rat):=Rat.le_trans (r9 (f:=λj=>i9 g Y B x j i) (λj hj=>hM.nn j hj i hi) j hj) (hM.cs i hi);have:=hmu.size h1 (hM.nn j hj i hi) hle;have:=GC.2.2.1;omega
theorem rK {α:Type} {f:Nat->List α} {k:Nat} {o:α}:o∈dV f k↔∃i,i<k/\o∈f i:=by
 unfold dV;rw[List.mem_flatMap];constructor
 ·rintro⟨i,h1,h2⟩;exact⟨i,List.mem_range.1 h1,h2⟩
 ·rintro⟨i,h1,h2⟩;exact⟨i,List.mem_range.2 h1,h2⟩
theorem pN {α:Type} {f:Nat->List α} {b:Nat}:∀ {k:Nat},(∀i,i<k->(f i).length<=b)->(dV f k).length<=k*b
 |0,_=>by show 0<=_;omega
 |k+1,h=>by
  have a:=pN (k:=k) λi hi=>h i oO;have c:=h k oO;rw[gA,List.length_append,Nat.add_mul];omega
theorem Iq (G:fo g Y B) (b:px D0 g Y) (X:s9 D0 D g x) {d:Nat} (hd:d<g.ds.length) (i:Nat) {k:Nat} (hk:k<dB g d):L (j0 g (gq Y x) d i k)<=20:=by
 unfold j0;split
 ·exact(B8 G b X _ (G.lg d hd k hk).1 _).2
 ·have:=fM;omega
theorem N0 (G:fo g Y B) (b:px D0 g Y) (X:s9 D0 D g x) {d:Nat} (hd:d<g.ds.length) (i:Nat) {k:Nat} (hk:k<dB g d):L (pD g (cJ Y x) (gq Y x) d i k)<=200:=by
 have hl:=b.ln d hd;have h:∀k,k<=dB g d->L (qi (g.d d).W (qD g (cJ Y x) d) (j0 g (gq Y x) d i) k)<=89:=λk hk=>by
  cases k with
  |zero=>have:=fM;show L (0:Rat)<=_;omega
  |succ k=>
   show L (if _ then _ else _)<=_;split
   ·exact AK (k:=20) oO λj hj=>Iq G b X hd i oO
   ·have:=fM;omega
 have h1:=h (k+1) hk;have h2:=h k oO;have h3:=mw (qi (g.d d).W (qD g (cJ Y x) d) (j0 g (gq Y x) d i) (k+1)) (qi (g.d d).W (qD g (cJ Y x) d) (j0 g (gq Y x) d i) k);show L (qi _ _ _ (k+1)-qi _ _ _ k)<=200;omega
theorem PE (G:fo g Y B) (b:px D0 g Y) (X:s9 D0 D g x) {d:Nat} (hd:d<g.ds.length) (i:Nat):L (ay (j0 g (gq Y x) d i) (dB g d))<=85/\L (ay (pD g (cJ Y x) (gq Y x) d i) (dB g d))<=805:=by
 have hl:=b.ln d hd;have h1:=tG (f:=j0 g (gq Y x) d i) (k:=20) (n:=dB g d) λk hk=>Iq G b X hd i hk;have h2:=tG (f:=pD g (cJ Y x) (gq Y x) d i) (k:=200) (n:=dB g d) λk hk=>N0 G b X hd i hk;have h3:=Nat.mul_le_mul_right (20+1) hl;have h4:=Nat.mul_le_mul_right (200+1) hl;exact⟨oO,oO⟩
theorem O7 (G:fo g Y B) (b:px D0 g Y) (X:s9 D0 D g x):(DS g B (cJ Y x) (gq Y x)).length<=300/\∀o∈DS g B (cJ Y x) (gq Y x),o.1<g.n/\o.2.1<g.n/\L o.2.2<=1000:=by
 refine⟨?_,λo ho=> ?_⟩
 ·have h1:=pN (f:=ux g B (gq Y x)) (b:=7) (k:=g.n) λi hi=>by
   have h:=pN (f:=lI g B (gq Y x) i) (b:=1) (k:=g.cn i) λc _=>by unfold lI;split<;>simp
   have:=RQ G b hi;unfold ux;omega
  have h2:=pN (f:=yt g (cJ Y x) (gq Y x)) (b:=40) (k:=g.ds.length) λd hd=>by
   have h:=pN (f:=pb g (cJ Y x) (gq Y x) d) (b:=5) (k:=g.n) λi _=>by
    have h:=pN (f:=qg g (cJ Y x) (gq Y x) d i) (b:=1) (k:=dB g d) λj _=>Nat.le_refl _;have h4:=b.ln d hd;have h5:(tF g (cJ Y x) (gq Y x) d i).length<=1:=by unfold tF;split<;>simp
    unfold pb;rw[List.length_append];omega
   have:=b.n;unfold yt;omega
  have:=b.n;have:=b.dn;unfold DS;rw[List.length_append];omega
 ·unfold DS at ho;rcases List.mem_append.1 ho with ho|ho
  ·obtain⟨i,hi,ho⟩:=rK.1 ho;obtain⟨c,hc,ho⟩:=rK.1 ho;unfold lI at ho;split at ho
   ·next g1=>
    obtain rfl:=List.mem_singleton.1 ho;obtain⟨a,ha,ea⟩:=G.ho i hi c hc g1.1;refine⟨?_,hi,?_⟩
    ·show(g.c i c).h.toNat<g.n;rw[ea];omega
    ·have:=(B8 G b X i hi c).2;show L (gq Y x i c)<=1000;omega
   ·cases ho
  ·obtain⟨d,hd,ho⟩:=rK.1 ho;obtain⟨i,hi,ho⟩:=rK.1 ho;rcases List.mem_append.1 ho with ho|ho
   ·obtain⟨k,hk,ho⟩:=rK.1 ho;obtain rfl:=List.mem_singleton.1 ho;refine⟨(G.lg d hd k hk).1,hi,?_⟩;have:=N0 G b X hd i hk;show L (pD g (cJ Y x) (gq Y x) d i k)<=1000;omega
   ·unfold tF at ho;split at ho
    ·next g1=>
     obtain rfl:=List.mem_singleton.1 ho;obtain⟨a,ha,ea⟩:=G.ho (g.lg d 0).1 (G.lg d hd 0 g1.1).1 (g.lg d 0).2 (G.lg d hd 0 g1.1).2 g1.2;have ea':CV g d=a:=ea;refine⟨?_,hi,?_⟩
     ·show(CV g d).toNat<g.n;rw[ea'];omega
     ·obtain⟨h1,h2⟩:=PE G b X hd i;have:=mw (ay (j0 g (gq Y x) d i) (dB g d)) (ay (pD g (cJ Y x) (gq Y x) d i) (dB g d));show L (ay (j0 g (gq Y x) d i) (dB g d)-ay (pD g (cJ Y x) (gq Y x) d i) (dB g d))<=1000;omega
    ·cases ho
theorem Qa {k:Nat} (a c:Nat):∀(T:List Do) (M:Mx),L (M a c)<=k->(∀o∈T,L o.2.2<=1000)->L (T.foldl (λM o=>j7 M o.1 o.2.1 o.2.2) M a c)<=k+1001*T.length
 | [],_,h,_=>h
 |o::T,M,h,hT=>by
  have h1:=hT o (List.mem_cons_self ..);have h2:L (j7 M o.1 o.2.1 o.2.2 a c)<=k+1001:=by
   unfold j7;split
   ·next e=>
    have:=t6 (M o.1 o.2.1) o.2.2;rw[e.1,e.2]at h;omega
   ·omega
  have:=Qa a c T (j7 M o.1 o.2.1 o.2.2) h2 λo ho=>hT o (List.mem_cons_of_mem _ ho);show L (T.foldl _ (j7 M o.1 o.2.1 o.2.2) a c)<=_;rw[List.length_cons];omega
abbrev Ny:Nat:=30000000000
theorem PJ (G:fo g Y B) (b:px D0 g Y) (X:s9 D0 D g x):QO g B (cJ Y x) (gq Y x) Ny:=by
 have hz:=X.zz;have hMX:MX=1099511627776:=rfl;have hK2:Ny=30000000000:=rfl;obtain⟨g1,g2⟩:=O7 G b X;have hq:∀d,d<g.ds.length->∀j,j<dB g d->L (qD g (cJ Y x) d j)<=sz D+20:=λd hd j hj=>(B8 G b X _ (G.lg d hd j hj).1 _).1;refine⟨λP o hP=> ?_,λd hd=> ?_,λd hd j hj=>⟨?_,λi _=> ?_⟩,λd hd j hj=>⟨?_,λi _=> ?_⟩,dD,λd hd i _=> ?_,λd hd=>by have:=b.ln d hd;omega⟩
 ·have hmem:∀o'∈P++[o],o'∈DS g B (cJ Y x) (gq Y x):=λo' ho'=>hP.subset ho';obtain⟨o1,o2,o3⟩:=g2 o (hmem o (List.mem_append_right _ (List.mem_singleton.2 rfl)));refine⟨o1,o2,?_⟩;have hl:=hP.length_le;rw[List.length_append]at hl;have h0:=fM;have:=Qa (k:=1) o.1 o.2.1 P (λ_ _=>0) (by show L (0:Rat)<=1;omega) λo' ho'=>(g2 o' (hmem o' (List.mem_append_left _ ho'))).2.2;show L (P.foldl (λM o=>j7 M o.1 o.2.1 o.2.2) (λ_ _=>0) o.1 o.2.1)+_<=MX;omega
 ·have:=WL b hd;omega
 ·have:=hq d hd j hj;omega
 ·have:=Iq G b X hd i hj;omega
 ·have:=AK (q:=qD g (cJ Y x) d) (k:=sz D+20) (n:=j) (by have:=b.ln d hd;omega) λk hk=>hq d hd k oO;omega
 ·have:=AK (q:=j0 g (gq Y x) d i) (k:=20) (n:=j) (by have:=b.ln d hd;omega) λk hk=>Iq G b X hd i oO;omega
 ·have hl:=b.ln d hd;obtain⟨h1,h2⟩:=PE G b X hd i;have hs:∀(f:Nat->Rat) (k n:Nat),(∀j,j<n->L (f j)<=k)->qm (aS n λj=>aj (f j))<=n*(k+1):=λf k n h=>by
   induction n with
   |zero=>exact Nat.zero_le _
   |succ n ih=>
    have a:=ih λj hj=>h j oO;have c:=h n oO;rw[gU,Nat.add_mul,mV];show qm (aS n λj=>aj (f j))+(Lr (aj (f n))+1+0)<=_;rw[Lr_ofQ];omega
  have e1:=hs (j0 g (gq Y x) d i) 20 (dB g d) λj hj=>Iq G b X hd i hj;have e2:=hs (pD g (cJ Y x) (gq Y x) d i) 200 (dB g d) λj hj=>N0 G b X hd i hj;have h3:=Nat.mul_le_mul_right (20+1) hl;have h4:=Nat.mul_le_mul_right (200+1) hl;exact⟨oO,oO,oO⟩
theorem QS (G:fo g Y B) (b:px D0 g Y) (X:s9 D0 D g x) {c:Nat} (hc:c<g.n):Hb (i9 g Y B x) g.n c:=by
 have hMX:MX=1099511627776:=rfl;have h:∀i,i<=g.n->L (jW (i9 g Y B x) c i)<=8*18+1:=λi hi=>by
  have h1:=tG (f:=λi=>i9 g Y B x i c) (k:=17) (n:=i) λj hj=>F3 G b X hc oO;have h2:=Nat.mul_le_mul_right (17+1) (show i<=8 by have:=b.n;omega);show L (ay (λi=>i9 g Y B x i c) i)<=_;omega
 refine⟨λi hi=> ?_,?_⟩
 ·have:=h i oO;have:=F3 G b X hc hi;omega
 ·have:=h g.n (Nat.le_refl _);omega
end
def LB:Nat:=1376256
theorem Qf:BB 20 8=LB:=dD
theorem Jm {f:Nat->Rat} {k n:Nat} (hn:n<=4) (h:∀i,i<n->L (f i)<=k):L (ay f n)<=4*(k+1)+1:=by
 have h1:=tG h;have h2:=Nat.mul_le_mul_right (k+1) hn;omega
theorem QY {r:Nat} (h:r<=8):BB 20 r<=LB:=by rw[<-Qf];exact u3 20 h
section
variable {D0 D : Nat} {g : fp} {Y : Nat → Ly} {B : Nat → Nat → Bool} {x d : Nat → Rat} {t : Rat}
theorem u0 (G:fo g Y B) (b:px D0 g Y) (X:s9 D0 D g x) {C:List Nat} (hC:∀c∈C,c<g.n):Hf 20 (ij (i9 g Y B x) C):=λa ha r hr=>by
 obtain⟨i,hi,rfl⟩:=lR ha;obtain⟨j,hj,rfl⟩:=lR hr;show Lr (aj (lu (i9 g Y B x) C i j))<=20;rw[Lr_ofQ];have h1:=F3 G b X (hC _ (gW hj)) (hC _ (gW hi));have h2:=mw (i9 g Y B x (C.getD i 0) (C.getD j 0)) (if i=j then 1 else 0);have h3:L (if i=j then 1 else 0:Rat)<=1:=by
  have:=CR;have:=fM;split<;>omega
 show L (i9 g Y B x (C.getD i 0) (C.getD j 0)-if i=j then 1 else 0)<=20;omega
theorem Oh (G:fo g Y B) (b:px D0 g Y) (X:s9 D0 D g x) (hC:kE g Y B x≠ []):∀i,L (uw g Y B x i)<=LB:=by
 have hn8:=b.n;obtain⟨_,_,l3,_,_,f,hf,hfP,hk⟩:=sO (C:=kE g Y B x) (qu G X.nn) rfl hC oO;have hCn:∀c∈kE g Y B x,c<g.n:=λc hc=>(qG (i9 g Y B x) g.n (List.replicate g.n true) g.n).2 c hc;have hCl:(kE g Y B x).length<=g.n:=tw _ _ _ _;have hr:=u0 G b X hCn;intro i;have h0:=fM;have h1:=CR;show L (nQ (kE g Y B x) (GJ (i9 g Y B x) (kE g Y B x)) (kE g Y B x).length i)<=LB;unfold nQ;rw[List.take_length];split
 ·next hi=>
  have hj:=List.idxOf_lt_length_of_mem hi;generalize (kE g Y B x).idxOf i=j at hj;have hk':GJ (i9 g Y B x) (kE g Y B x) j=_:=hk j hj;rw[hk'];have hL:=(Bs (n:=(kE g Y B x).length) (m:=(kE g Y B x).length) (M:=RM (ij (i9 g Y B x) (kE g Y B x))) (K:=20) (λa ha c hc=>Hl hr (by rw[show(ij (i9 g Y B x) (kE g Y B x)).length=(kE g Y B x).length from eg _ _ _];exact ha) (by unfold ij;rw[iw _ ha,ao];exact hc)) (kE g Y B x).length (Nat.le_refl _)).1;have I:=rinv (kE g Y B x).length (RM (ij (i9 g Y B x) (kE g Y B x))) (kE g Y B x).length;have hP:=sU (kE g Y B x).length (RM (ij (i9 g Y B x) (kE g Y B x))) (kE g Y B x).length;have hB:=QY (r:=(cI (kE g Y B x).length (RM (ij (i9 g Y B x) (kE g Y B x))) (kE g Y B x).length).P.length) oO;have hLB:LB=1376256:=rfl;have hf':f<(kE g Y B x).length:=hf;unfold kv;split
  ·omega
  ·split
   ·next hm=>
    have h2:=List.idxOf_lt_length_of_mem hm;rw[vK];have:=hL ((cI (kE g Y B x).length (RM (ij (i9 g Y B x) (kE g Y B x))) (kE g Y B x).length).P.idxOf j) oO f hf';omega
   ·omega
 ·show L (0:Rat)<=LB;have hLB:LB=1376256:=rfl;omega
theorem NF (b:px D0 g Y) (G:fo g Y B) {i:Nat} (hi:i<g.n):L (uy g i)<=5:=by
 obtain⟨h1,h2⟩:=b.cash i hi;have:=h1.size b.d0 (G.cash i hi) h2;have:=GC.1;have:=b.s0;omega
theorem P7 (b:px D0 g Y) (G:fo g Y B):RB 20 (tc g (List.range g.n)):=λr hr=>by
 obtain⟨k,hk,rfl⟩:=lR hr;rw[List.length_range]at hk;rw[Lr_ofQ,vK,ki hk];have:=NF b G hk;omega
theorem Po (G:fo g Y B) (b:px D0 g Y) (X:s9 D0 D g x) (hC:kE g Y B x=[]) {i:Nat} (hi:i<g.n):L (tE g Y B x i)<=LB:=by
 have hn8:=b.n;obtain⟨_,_,_,_,hP,hf⟩:=sZ (g:=g) (qu G X.nn) hC b.n0 oO G.cash;have hr:=u0 (C:=List.range g.n) G b X λc hc=>List.mem_range.1 hc;have hl:(ij (i9 g Y B x) (List.range g.n)).length=g.n:=by rw[show(ij (i9 g Y B x) (List.range g.n)).length=(List.range g.n).length from eg _ _ _,List.length_range]
 have e:tE g Y B x i=_:=hf i hi;rw[e];have hL:=(Bs (n:=g.n) (m:=g.n+1) (M:=ys (ij (i9 g Y B x) (List.range g.n)) (tc g (List.range g.n))) (K:=20) (λa ha c hc=>by
  unfold ys;rw[hl];split
  ·next h=>exact Hl hr (by rw[hl];exact ha) (by unfold ij;rw[iw _ (by rw[List.length_range];exact ha),ao,List.length_range];exact h)
  ·rw[if_pos oO];unfold VX tc;rw[aV _ _ (by rw[List.length_range];exact ha),toQ_ofQ,vK,ki ha];have:=NF b G ha;omega) g.n oO).1 i hi g.n oO
 unfold Hm at hP⊢;rw[hl]at hP⊢;rw[hP]at hL;have:=QY hn8;omega
structure Ck (g:fp) (d:Nat->Rat):Prop where
 nn:∀i,i<g.n->0<=d i
 L:∀i,i<g.n->L (d i)<=LB
def FU:Nat:=17
theorem OB (b:px D0 g Y) {i:Nat} (hi:i<g.n) (m:Rat):oC (Y i) m<FU:=Nat.lt_succ_of_le (HN (b.ly i hi) m)
theorem ON (G:fo g Y B) (b:px D0 g Y) (X:s9 D0 D g x) {e k:Nat} (he:e<g.ds.length) (hk:k<=dB g e):L (tW g (cJ Y x) e k)<=4*sz D+200:=by
 have hl:=b.ln e he;have h1:=Jm (f:=qD g (cJ Y x) e) (k:=sz D+20) (n:=k) oO λj hj=>(B8 G b X _ (G.lg e he j (show j<dB g e by omega)).1 _).1;have h3:=mw (pQ (g.d e).W) (ay (qD g (cJ Y x) e) k);have h4:=Lc (g.d e).W;have h5:=WL b he;rw[xt];omega
theorem EH (G:fo g Y B) (b:px D0 g Y) (X:s9 D0 D g x) (hd:Ck g d) {e k:Nat} (he:e<g.ds.length) (hk:k<=dB g e):L (uI g (gq Y x) d e k)<=4*LB+200:=by
 have hl:=b.ln e he;have h1:=Jm (f:=x3 g (gq Y x) d e) (k:=20+LB) (n:=k) oO λj hj=>by
  have a:=(B8 G b X _ (G.lg e he j (show j<dB g e by omega)).1 (g.lg e j).2).2;have c:=hd.L _ (G.lg e he j (show j<dB g e by omega)).1;have:=su (gq Y x (g.lg e j).1 (g.lg e j).2) (d (g.lg e j).1);show L (gq Y x (g.lg e j).1 (g.lg e j).2*d (g.lg e j).1)<=_;omega
 rw[xr];omega
theorem IC (G:fo g Y B) (b:px D0 g Y) (X:s9 D0 D g x) {i:Nat} (hi:i<g.n) {y:Rat} (h:A9 (Y i) (x i) FU (x i)=some y):∃D',0<D'/\D∣D'/\sz D'<=sz D+510/\Mu D' y/\L y<=sz D+520:=by
 have hFU:FU=17:=rfl;obtain⟨D',h1,h2,h3,h4,h5,h6⟩:=IW (G.ly i hi) (b.ly i hi) (x i) FU (x i) D (X.mo b hi) (by have:=X.zz;omega) y h;refine⟨D',h1,h2,oO,h4,?_⟩;have:=h4.size h1 h5 h6;have:=GC.2.2.2.2.1;omega
theorem QC (X:s9 D0 D g x) {i:Nat} (hi:i<g.n):L (x i)<=sz D+4:=by
 have:=(X.mu i hi).size X.Dp (X.nn i hi) (X.le i hi);have:=GC.2.2.2.2.1;omega
theorem D4 (G:fo g Y B) (b:px D0 g Y) (X:s9 D0 D g x) (hd:Ck g d) {r:Rat} (hc:rB g Y (λ_=>FU) (cJ Y x) (gq Y x) x d r):L r<=4*sz D+4*LB+1600:=by
 rcases hc with⟨i,hi,hd0,y,hz,e⟩|⟨e,he,k,hk,h1,h2,e1⟩
 ·obtain⟨_,_,_,_,_,hy⟩:=IC G b X hi hz;have h1:=QC X hi;have h2:=hd.L i hi;have h3:=mw y (x i);have h4:=ri (y-x i) (d i);rw[e];omega
 ·have h3:=ON G b X he (k:=k+1) oO;have h4:=EH G b X hd he (k:=k+1) oO;have h5:=ri (tW g (cJ Y x) e (k+1)) (uI g (gq Y x) d e (k+1));rw[e1];omega
theorem Fp {o:Option Rat} {S:Rat->Prop} {k:Nat} (h:Mn o S) (hS:∀r,S r->L r<=k) (hk:1<=k):L (o.getD 0)<=k:=by
 cases o with
 |none=>have:=fM;show L (0:Rat)<=k;omega
 |some r=>exact hS r (h.2 r rfl)
theorem Qi (G:fo g Y B) (b:px D0 g Y) (X:s9 D0 D g x) (hd:Ck g d):PA g Y (λ_=>FU) (cJ Y x) (gq Y x) x d:=by
 have hz:=X.zz;have hMX:MX=1099511627776:=rfl;have hLB:LB=1376256:=rfl;have hFU:FU=17:=rfl;have hcL:=λr=>D4 (r:=r) G b X hd;refine⟨λi hi=>by have:=hd.L i hi;omega,λi hi hd0=>⟨Fw (G.ly i hi) (b.ly i hi) (X.mo b hi),Qy (G.ly i hi) (b.ly i hi) (x i) FU (x i) D (X.mo b hi) (OB b hi _) oO,λy hy=> ?_⟩,λe he=>by have:=WL b he;omega,λe he k hk=> ?_⟩
 ·obtain⟨_,_,_,_,_,hyL⟩:=IC G b X hi hy;have h1:=QC X hi;have h2:=hd.L i hi;have h3:=mw y (x i);have h4:=hcL _ (.inl ⟨i,hi,hd0,y,hy,rfl⟩);have h5:=Fp (Ed Y (λ_=>FU) x d i) (k:=4*sz D+4*LB+1600) (λr ⟨a,ha,hr⟩=>hcL r (.inl ⟨a,oO,hr⟩)) oO;exact⟨oO,oO,oO⟩
 ·have a1:=ON G b X he (k:=k) oO;have a2:=ON G b X he (k:=k+1) hk;have a3:=EH G b X hd he (k:=k) oO;have a4:=EH G b X hd he (k:=k+1) hk;obtain⟨g1,g2⟩:=G.lg e he k hk;have b1:=B8 G b X _ g1 (g.lg e k).2;have b2:=hd.L _ g1;have b3:=su (gq Y x (g.lg e k).1 (g.lg e k).2) (d (g.lg e k).1);have b4:L (qD g (cJ Y x) e k)<=sz D+20:=b1.1;refine⟨oO,oO,oO,oO,oO,λc1 c2=>⟨oO,?_⟩⟩;have h4:=hcL _ (.inr ⟨e,he,k,hk,c1,c2,rfl⟩);have h5:=Fp (Ey g (cJ Y x) (gq Y x) d (e:=e) (Eo g Y (λ_=>FU) (cJ Y x) (gq Y x) x d e) k) (k:=4*sz D+4*LB+1600) (λr hr=>by
   rcases hr with(hr|⟨e',he',hr⟩)|⟨j,hj,hr⟩
   ·exact hcL r (.inl hr)
   ·exact hcL r (.inr ⟨e',oO,hr⟩)
   ·exact hcL r (.inr ⟨e,he,j,oO,hr⟩)) oO
  omega
def Kz:Nat:=28905000
theorem EB (G:fo g Y B) (b:px D0 g Y) (X:s9 D0 D g x) (hd:Ck g d) (ht:Mu D t) {h:Rat} (hc:h=1-t\/rB g Y (λ_=>FU) (cJ Y x) (gq Y x) x d h):
  ∃D',0<D'/\D0∣D'/\sz D'<=sz D+Kz/\(∀i,i<g.n->Mu D' (x i+h*d i))/\Mu D' (t+h)/\Mu D' t:=by
 have hLB:LB=1376256:=rfl;have hGS:Kz=28905000:=rfl;have hn8:=b.n;obtain⟨Dd,d1,d2,d3⟩:=FM (f:=d) (K:=LB) (n:=g.n) λi hi=>hd.L i hi;have d4:sz Dd<=8*LB+1:=by have:=Nat.mul_le_mul_right LB hn8;omega
 have fin:∀E:Nat,0<E->D∣E->sz E<=sz D+12*LB+1000->Mu E h->∃D',0<D'/\D0∣D'/\sz D'<=sz D+Kz/\(∀i,i<g.n->Mu D' (x i+h*d i))/\Mu D' (t+h)/\Mu D' t:=λE e1 e2 e3 e4=>by
  refine⟨E*Dd,Nat.mul_pos e1 d1,Nat.dvd_trans X.dv (Nat.dvd_trans e2 ⟨Dd,rfl⟩),?_,λi hi=> ?_,(((ht.dvd e2).add e4).pE Dd),(ht.dvd e2).pE Dd⟩
  ·have:=jH E Dd;omega
  ·exact(((X.mu i hi).dvd e2).pE Dd).add (e4.mul (d3 i hi))
 rcases hc with hc|⟨i,hi,hd0,y,hz,e⟩|⟨e,he,k,hk,h1,h2,e1⟩
 ·exact fin D X.Dp ⟨1,(Nat.mul_one _).symm⟩ oO (by rw[hc];exact Mu.one.sub ht)
 ·obtain⟨D',p1,p2,p3,p4,_⟩:=IC G b X hi hz;obtain⟨r,r1,r2,r3⟩:=whole hd0 d1 (d3 i hi) (hd.L i hi);refine fin (D'*r) (Nat.mul_pos p1 r2) (Nat.dvd_trans p2 ⟨r,rfl⟩) ?_ ?_
  ·have:=jH D' r;omega
  ·rw[e];exact Mu.quo ((p4.sub ((X.mu i hi).dvd p2)).pE Dd) (ow hd0) r1
 ·obtain⟨E,q1,q2,q3⟩:=Oe (B:=B) G b X;have hrt:Mu (E*Dd) (uI g (gq Y x) d e (k+1)):=by
   rw[xr];exact Mu.sum λj hj=>((q3 _ (G.lg e he j (show j<dB g e by omega)).1).1 _).mul (d3 _ (G.lg e he j (show j<dB g e by omega)).1)
  have hlf:Mu (D*(E*Dd)) (tW g (cJ Y x) e (k+1)):=by
   rw[xt,<-Nat.mul_assoc];refine Mu.pE (Mu.sub ?_ (Mu.sum λj hj=>(q3 _ (G.lg e he j (show j<dB g e by omega)).1).2 _)) Dd;have hW:Mu D0 (pQ (g.d e).W):=by
    rcases dW (g.d e).W with c|c
    ·rw[c.1];exact(b.W e he).2.1
    ·rw[c.1];exact Mu.zero
   exact hW.dvd (Nat.dvd_trans X.dv ⟨E,rfl⟩)
  obtain⟨r,r1,r2,r3⟩:=whole h2 (Nat.mul_pos q1 d1) hrt (EH G b X hd he (k:=k+1) hk);refine fin (D*r) (Nat.mul_pos X.Dp r2) ⟨r,rfl⟩ ?_ ?_
  ·have:=jH D r;have:=jH E Dd;omega
  ·rw[e1];exact Mu.quo hlf (ow h2) r1
end
theorem NW {y:Ly} {m:Rat} (hy:iy y) (hm:0<=m):ay (dC y m) y.n<=KF y.rk:=by
 have e:ay (dC y m) y.n=ay (iT y (cy y m)) y.n+fa (λp=>ay (λk=>mC p.ld (PS y m p) k) y.n) y.pl:=by
  rw[<-sv (λp k=>mC p.ld (PS y m p) k),<-fQ];exact aJ λk _=>o8 y m k
 have hq:∀ {T:List Tr} {m:Rat},qc T->(∀t∈T,∀p∈t.ps,r7 y.n p)->0<=m->ay (λk=>mC T m k) y.n<=K7 T m:=fun {T m} hT hp hm=>by
  have h1:=rX (n:=y.n) (l:=jD T m) (uE hp);have h2:=zh (c:= -1) hT hm;unfold mC at h2;show ay (λk:Nat=>ko k (jD T m)) y.n<=qs (jD T m);grind
 have h1:fa (λp=>ay (λk=>mC p.ld (PS y m p) k) y.n) y.pl<=fa (λp=>PS y m p) y.pl:=qS λp hp=>Rat.le_trans (hq (hy.ld p hp) (hy.lp p hp) (kX hy hm p)) (JZ (hy.ld p hp) (kX hy hm p));have h2:=sV hy (cy y m);have h4:=hq hy.rk hy.rp hm;have h5:ay (cy y m) y.n=ay (λk=>mC y.rk m k) y.n:=aJ λk _=>im y m k;have h6:fa (λp=>fN p.mem (cy y m)) y.pl=fa (λp=>PS y m p) y.pl:=rfl;have h7:=Kg hy.rk hm;rw[h5,h6]at h2;rw[e];grind
section
variable {D0 D : Nat} {g : fp} {Y : Nat → Ly} {B : Nat → Nat → Bool} {x : Nat → Rat} {t : Rat}
theorem QA (G:fo g Y B) (b:px D0 g Y) (hx:∀i,i<g.n->0<=x i) {j:Nat} (hj:j<g.n):F0 g B (cJ Y x) j<=33554432:=by
 have hz:∀i,i<g.n->(λ_:Nat=>(0:Rat)) i<=x i:=hx;have h0:∀i,i<g.n->0<=(λ_:Nat=>(0:Rat)) i:=λ_ _=>Rat.le_refl;have h1:=Kh (B:=B) G (yI G h0) (uK G h0 hz);have h2:ay (F0 g B (cJ Y λ_=>0)) g.n=0:=cj λj hj=>by
  have:=(OP (B:=B) G).fx j hj;grind
 have h3:ay (λi=>ay (cJ Y x i) (g.cn i)-ay (cJ Y (λ_=>0) i) (g.cn i)) g.n<=ay (λ_=>4194304) g.n:=fY λi hi=>by
  have a:=NW (G.ly i hi) (hx i hi);rw[G.yn i hi]at a;have c:=IL (G.ly i hi).rk (b.ly i hi).rm;have d:=qU (show(Y i).rk.length*(8*AA)<=4194304 by have:=(b.ly i hi).rl;show(Y i).rk.length*524288<=4194304;omega);rw[show((4194304:Nat):Rat)=4194304 from rfl]at d;have e:ay (cJ Y (λ_=>0) i) (g.cn i)=0:=cj λc _=>EZ (G.ly i hi);have f:ay (cJ Y x i) (g.cn i)=ay (dC (Y i) (x i)) (g.cn i):=rfl;rw[e,f];grind
 have h4:∀n:Nat,n<=8->ay (λ_=>(4194304:Rat)) n<=33554432:=λn hn=>by
  have:∀n:Nat,ay (λ_=>(4194304:Rat)) n=(n:Rat)*4194304:=λn=>by
   induction n with
   |zero=>show(0:Rat)=((0:Nat):Rat)*_;rw[show((0:Nat):Rat)=0 from rfl];grind
   |succ n ih=>show ay _ n+_=_;rw[ih,Rat.natCast_add,show((1:Nat):Rat)=1 from rfl];grind
  rw[this];have:=qU hn;rw[show((8:Nat):Rat)=8 from rfl]at this;grind
 have h5:=r9 (f:=F0 g B (cJ Y x)) (λj _=>P6 G (yI G hx) j) j hj;have h6:=h4 g.n b.n;grind
theorem QW (G:fo g Y B) (b:px D0 g Y) (I:Inv g Y B x t) {j:Nat} (hj:j<g.n):x j<=(QX:Rat):=by
 have h1:=QA G b I.nn hj;have h2:=I.fx j hj;have h3:=(b.cash j hj).2;rw[show((AA:Nat):Rat)=65536 from rfl]at h3;have h4:=gu I.t1 (G.cash j hj);rw[CM,h2];grind
theorem OM (b:px D0 g Y) (x:Nat->Rat):Bo g Y x<=152:=by
 have hs:∀(f:Nat->Nat) (k n:Nat),(∀i,i<n->f i<=k)->Eb f n<=n*k:=λf k n h=>by
  induction n with
  |zero=>exact Nat.zero_le _
  |succ n ih=>
   have a:=ih λi hi=>h i oO;have c:=h n oO;show Eb f n+f n<=_;rw[Nat.add_mul];omega
 have h1:=hs (λi=>oC (Y i) (x i)) 16 g.n λi hi=>HN (b.ly i hi) _;have h2:=hs (λe=>Eb (λk=>if 0<pQ (g.d e).W-ay (qD g (cJ Y x) e) (k+1)then 1 else 0) (dB g e)) 4 g.ds.length λe he=>by
  have:=hs (λk=>if 0<pQ (g.d e).W-ay (qD g (cJ Y x) e) (k+1)then 1 else 0) 1 (dB g e) λk _=>by split<;>omega
  have:=b.ln e he;omega
 have:=b.n;have:=b.dn;unfold Bo;omega
def RE (D0:Nat) (g:fp) (k:Nat) (x:Nat->Rat) (t:Rat):Prop:=∃D,0<D/\D0∣D/\sz D<=k/\(∀i,i<g.n->Mu D (x i))/\Mu D t
def NQ (k f:Nat):Prop:=200*(k+Kz*f+700)<=MX
theorem NQ.step {k f:Nat} (h:NQ k (f+1)):NQ (k+Kz) f/\200*(k+700)<=MX:=by
 unfold NQ at h⊢;have e:Kz*(f+1)=Kz*f+Kz:=rfl;rw[e]at h;omega
theorem Q9 (G:fo g Y B) (b:px D0 g Y):∀(f:Nat) (x:Nat->Rat) (t:Rat) (k:Nat),Inv g Y B x t->RE D0 g k x t->Bo g Y x+(if t=1 then 0 else 1)<f->NQ k f->
  OS g Y B FU 20 Ny f x t/\∃D,s9 D0 D g (GA g Y B FU f x t):=by
 intro f;induction f with
 |zero=>exact λ_ _ _ _ _ h _=>absurd h (Nat.not_lt_zero _)
 |succ f ih=>
  rintro x t k I ⟨D,s1,s2,s3,s4,s5⟩ hm hk;have hMX:MX=1099511627776:=rfl;have hLB:LB=1376256:=rfl;have hn8:=b.n;obtain⟨hk2,hk⟩:=hk.step;have X:s9 D0 D g x:=⟨s1,s2,s4,I.nn,λi hi=>QW G b I hi,Nat.le_trans (Nat.mul_le_mul_left 200 (Nat.add_le_add_right s3 700)) hk⟩;have hF:∀i,i<g.n->∀m,oC (Y i) m<FU:=λi hi m=>OB b hi m;have hz:=X.zz;have hLt:L t<=sz D+1:=by
   have:=s5.size s1 I.t0 (B:=1) I.t1;have:=GC.2.2.1;omega
  have hL1:=CR;have hxL:=λi hi=>QC (i:=i) X hi;have hSt:∀(h1:kE g Y B x≠ []->Ck g (uw g Y B x)) (h2:kE g Y B x=[]->Ck g (tE g Y B x)),Re g Y B FU 20 Ny x t:=λh1 h2=>by
   refine⟨λi hi=>Fw (G.ly i hi) (b.ly i hi) (X.mo b hi),PJ G b X,λc hc=>QS G b X hc,λi hi j hj=>by have:=F3 G b X hj hi;omega,λhC=> ?_,λhC ht=> ?_⟩
   ·have hd:=h1 hC;have hcL:=λr=>D4 (r:=r) G b X hd;have hH:=Fp (BO g Y (λ_=>FU) (cJ Y x) (gq Y x) x (uw g Y B x)) (k:=4*sz D+4*LB+1600) hcL oO;have hCl:(kE g Y B x).length<=g.n:=tw _ _ _ _;refine⟨u0 G b X λc hc=>(qG (i9 g Y B x) g.n (List.replicate g.n true) g.n).2 c hc,by have:=QY (r:=(kE g Y B x).length) oO;omega,(sO (C:=kE g Y B x) (qu G I.nn) rfl hC oO).1,Qi G b X hd,λi hi=> ?_⟩;have a1:=hxL i hi;have a2:=hd.L i hi;show L (x i)+L ((ES g Y (λ_=>FU) (cJ Y x) (gq Y x) x (uw g Y B x)).getD 0)+_+2<=MX;omega
   ·have hd:=h2 hC;have hcL:=λr=>D4 (r:=r) G b X hd;have hH:=Fp (BO g Y (λ_=>FU) (cJ Y x) (gq Y x) x (tE g Y B x)) (k:=4*sz D+4*LB+1600) hcL oO;obtain⟨_,_,_,_,_,f6⟩:=tA G hF oO b.n0 I hC ht;have hLs:=mw 1 t;have hfh:L (qW g Y B FU x t)<=4*sz D+4*LB+1600:=by
     rcases f6 with f6|f6
     ·rw[f6];omega
     ·exact hcL _ f6
    refine⟨u0 G b X λc hc=>List.mem_range.1 hc,P7 b G,dD,λ_=>(sZ (g:=g) (qu G I.nn) hC b.n0 oO G.cash).2.1,Qi G b X hd,oO,?_,oO,λi hi=> ?_⟩
    ·show L ((ES g Y (λ_=>FU) (cJ Y x) (gq Y x) x (tE g Y B x)).getD 0)+_<=MX;omega
    ·have a1:=hxL i hi;have a2:=hd.L i hi;omega
  have hd1:kE g Y B x≠ []->Ck g (uw g Y B x):=λhC=>by
   obtain⟨_,l2,l3,_⟩:=sO (C:=kE g Y B x) (qu G I.nn) rfl hC oO;refine⟨λi _=> ?_,λi _=>Oh G b X hC i⟩;by_cases e:i∈kE g Y B x
   ·exact Rat.le_of_lt (l2 i e)
   ·have:uw g Y B x i=0:=l3 i e;rw[this];exact Rat.le_refl
  have hd2:kE g Y B x=[]->Ck g (tE g Y B x):=λhC=>⟨(sZ (g:=g) (qu G I.nn) hC b.n0 oO G.cash).2.2.1,λi hi=>Po G b X hC hi⟩;unfold OS GA;by_cases hC:kE g Y B x=[]
  ·rw[if_neg (λh=>h hC),if_neg (λh=>h hC)];by_cases ht:t=1
   ·rw[if_pos ht];exact⟨⟨hSt hd1 hd2,.inl ht⟩,D,X⟩
   ·rw[if_neg ht];obtain⟨_,f2,f3,I2,hm2,f6⟩:=tA G hF oO b.n0 I hC ht;rw[if_neg ht]at hm;obtain⟨D',p1,p2,p3,p4,p5,_⟩:=EB G b X (hd2 hC) s5 f6;obtain⟨r1,r2⟩:=ih (Be g Y B FU x t) (t+qW g Y B FU x t) (k+Kz) I2 ⟨D',p1,p2,oO,p4,p5⟩ oO hk2;exact⟨⟨hSt hd1 hd2,.inr r1⟩,r2⟩
  ·rw[if_pos hC,if_pos hC];obtain⟨H,eS,h1,h2,I2,hm2⟩:=y8 G hF oO I hC;obtain⟨D',p1,p2,p3,p4,_,p6⟩:=EB G b X (hd1 hC) s5 (.inr h2);have eX:GN g Y B FU x=λi=>x i+H*uw g Y B x i:=by
    funext i;unfold GN;rw[eS];rfl
   obtain⟨r1,r2⟩:=ih (GN g Y B FU x) t (k+Kz) I2 ⟨D',p1,p2,oO,by rw[eX];exact p4,p6⟩ oO hk2;exact⟨⟨hSt hd1 hd2,r1⟩,r2⟩
noncomputable def Mg (g:fp) (Y:Nat->Ly) (B:Nat->Nat->Bool):Nat->Rat:=GA g Y B FU 154 (λ_=>0) 0
theorem NI (G:fo g Y B) (b:px D0 g Y):OS g Y B FU 20 Ny 154 (λ_=>0) 0/\ND g Y B (Mg g Y B)/\∃D,s9 D0 D g (Mg g Y B):=by
 have hm:=OM b λ_=>0;have hm2:Bo g Y (λ_=>0)+(if(0:Rat)=1 then 0 else 1)<154:=by split<;>omega
 have hn8:=b.n;obtain⟨h1,h2⟩:=Q9 G b 154 (λ_=>0) 0 2 (OP G) ⟨D0,b.d0,⟨1,(Nat.mul_one _).symm⟩,b.s0,λ_ _=>Mu.zero,Mu.zero⟩ hm2 (show NQ 2 154 from by unfold NQ;decide);exact⟨h1,AR G (λi hi m=>OB b hi m) oO b.n0 154 _ _ (OP G) hm2,h2⟩
theorem Q7 (G:fo g Y B) (b:px D0 g Y) (X:s9 D0 D g x) {d:Nat} (hd:d<g.ds.length) {k:Nat} (hk:k<dB g d):L (mK (g.d d).W (qD g (cJ Y x) d) k)<=8*sz D+500:=by
 have hl:=b.ln d hd;have h:∀k,k<=dB g d->L (oP (g.d d).W (qD g (cJ Y x) d) k)<=4*sz D+200:=λk hk=>by
  have h1:=AK (q:=qD g (cJ Y x) d) (k:=sz D+20) (n:=k) oO λj hj=>(B8 G b X _ (G.lg d hd j (show j<dB g d by omega)).1 _).1;have h2:=Lc (g.d d).W;have h3:=WL b hd;have h4:=mw (fP (qD g (cJ Y x) d) k) (pQ (g.d d).W);have h5:=Lc (fP (qD g (cJ Y x) d) k-pQ (g.d d).W);rw[iP];omega
 have h1:=h (k+1) hk;have h2:=h k oO;have h3:=mw (oP (g.d d).W (qD g (cJ Y x) d) (k+1)) (oP (g.d d).W (qD g (cJ Y x) d) k);show L (oP _ _ (k+1)-oP _ _ k)<=_;omega
theorem NH (G:fo g Y B) (b:px D0 g Y) (X:s9 D0 D g x):∀d,d<=g.ds.length->∀i c,L (x7 g (cJ Y x) d i c)<=8*sz D+500
 |0,_,i,c=>by have:=fM;show L (0:Rat)<=_;omega
 |d+1,hd,i,c=>by
  have ih:=NH G b X d oO;have key:∀k,k<=dB g d->∀i c,L (Fj g (cJ Y x) d (x7 g (cJ Y x) d) k i c)<=8*sz D+500:=by
   intro k;induction k with
   |zero=>exact λ_=>ih
   |succ k ih2=>
    intro hk i c;show L (yp _ _ _ _ i c)<=_;unfold yp;split
    ·exact Q7 G b X oO hk
    ·exact ih2 oO i c
  exact key (dB g d) (Nat.le_refl _) i c
theorem IJ (G:fo g Y B) (b:px D0 g Y) (X:s9 D0 D g x):(∀i,i<g.n->Ih (Y i) (x i))/\(∀i,i<g.n->L (x i)+L (Y i).tot+3<=MX)/\Rc g (cJ Y x) Ny/\∀i,i<g.n->∀c,c<g.cn i->L (cJ Y x i c)+L (x7 g (cJ Y x) g.ds.length i c)<=MX:=by
 have hMX:MX=1099511627776:=rfl;have hz:=X.zz;have m:=PJ G b X;refine⟨λi hi=>NB (G.ly i hi) (b.ly i hi) (X.mo b hi),λi hi=> ?_,⟨m.W,λd hd j hj=>(m.q d hd j hj).1,λd hd j hj=>(m.s d hd j hj).1,m.k,m.ln⟩,λi hi c _=> ?_⟩
 ·have:=QC X hi;have:=b.tot i hi;omega
 ·have:=(B8 G b X i hi c).1;have:=NH G b X g.ds.length (Nat.le_refl _) i c;omega
end
def xZ (x y:Int):Bool:=decide (x<y)
theorem ET {α:Type} (A B:List α) (x d:α):(A++x::B).getD A.length d=x:=by
 rw[List.getD_eq_getElem?_getD,List.getElem?_append_right (Nat.le_refl _),Nat.sub_self];rfl
theorem I4 {α:Type} (A B:List α) (x y:α):(A++x::B).set A.length y=A++y::B:=by
 rw[List.set_append_right _ _ (Nat.le_refl _),Nat.sub_self];rfl
theorem IP (x:Int) (w:World):dj Tryz.prog 207 #[.int .i64 x] w λv w'=>v= .bool false/\w'=w:=by
 refine enter Tryz.func207 rfl Tryz.ntmps207 rfl ?_;refine J5 ?_;refine jt ?_;refine bj rfl rfl ?_;exact⟨congrArg Value.bool (decide_eq_false (λh=>h rfl)),rfl⟩
theorem Dz (x y:Int) (w:World):dj Tryz.prog 191 #[.int .i64 x,.int .i64 y] w λv w'=>v= .bool (decide (x<y))/\w'=w:=by
 refine enter Tryz.func191 rfl Tryz.ntmps191 rfl ?_;refine J2 ?_;refine jh (ah Tryz.call207 rfl (IP x _) ?_);rintro _ wq1 ⟨rfl,hq1⟩;replace hq1:=hq1.symm;subst hq1;refine J1 ?_;refine bI (ak 7 kR rfl rfl) (bI (ak 7 kR rfl rfl) (bI (ak 7 kR rfl rfl) (jp (aZ (vb rfl rfl) rfl ?_))));refine J1 ?_;refine ax (ai 12 kR rfl rfl) (aI rfl (ax (ai 12 kR rfl rfl) (aI rfl (ax (ai 12 kR rfl rfl) (oE rfl rfl (jp (aZ (vb rfl rfl) rfl ?_)))))));refine J1 ?_;refine jt ?_;refine bj rfl rfl ?_;exact⟨rfl,rfl⟩
theorem ya (v:Value) (w:World):dj Tryz.prog 185 #[v,.int .i64 0,.int .i64 0] w λr w'=>r= .tuple #[]/\w'=w:=by
 refine enter Tryz.func185 rfl Tryz.ntmps185 rfl ?_;refine V3 ?_;refine aQ (σ:=Unit) (λ_ ρ w'=>ρ 2=iB 0/\ρ 6=iB 1/\w'=w) (λ_=>0) () ⟨rfl,vi rfl oO,rfl⟩ ?_;rintro _ ρ w2 ⟨h2,h6,rfl⟩;refine J4 ?_;refine jt ?_;exact iS rfl ⟨rfl,rfl⟩
theorem BK {w0:World} {b:Nat} {t:TypeId} {H:List bQ} (Pre M Suf:List Int) (sp:List Value) (n cp a e:Nat)
  (hn:Pre.length+M.length+Suf.length=n) (ha:a=Pre.length) (he:e=Pre.length+M.length) (hmax:n<=1000000) (w:World) (hS:St w0 w ((b,t,(Pre++M++Suf).flatMap lD++sp)::H)):
  dj Tryz.prog 185 #[.slice (some ⟨b,0,none⟩) n cp,.int .i64 a,.int .i64 e] w λv w'=>v= .tuple #[]/\St w0 w' ((b,t,(Pre++kU xZ M++Suf).flatMap lD++sp)::H):=by
 refine enter Tryz.func185 rfl Tryz.ntmps185 rfl ?_;refine V3 ?_;refine aQ (σ:=Nat) (λk ρ w'=>1<=k/\(k<=M.length\/M.length=0)/\ρ 0= .slice (some ⟨b,0,none⟩) n cp/\ρ 1=iB a/\ρ 2=iB e/\ρ 6=iB ((a:Int)+k)/\
   St w0 w' ((b,t,(Pre++kU xZ (M.take k)++(M.drop k++Suf)).flatMap lD++sp)::H)) (λk=>M.length+1-k) 1
  ⟨Nat.le_refl _,oO,rfl,rfl,rfl,rfl,?_⟩ ?_
 ·have e1:Pre++kU xZ (M.take 1)++(M.drop 1++Suf)=Pre++M++Suf:=by
   cases M with
   |nil=>rfl
   |cons x M=>show Pre++[x]++(M++Suf)=_;simp
  rw[e1];exact hS
 clear hS;rintro k ρ w2 ⟨hk1,hkM,h0,h1,h2,h6,hS⟩;refine V3 ?_;by_cases hlt:k<M.length
 ·refine V1 ?_;obtain⟨x,hx⟩:=jz (M.getD k 0);obtain⟨S,hSe⟩:=jz (kU xZ (M.take k));obtain⟨R,hR⟩:=jz (M.drop (k+1)++Suf);have hSl:S.length=k:=by rw[hSe,tM,List.length_take];omega
  have hRl:R.length=M.length-(k+1)+Suf.length:=by rw[hR,List.length_append,List.length_drop]
  have hdr:M.drop k++Suf=x::R:=by
   rw[List.drop_eq_getElem_cons hlt,hR,hx,List.getD_eq_getElem?_getD,List.getElem?_eq_getElem hlt];rfl
  have hnx:kU xZ (M.take (k+1))=sH xZ S x:=by
   rw[cH M k 0 hlt,DO,<-hx,<-hSe]
  rw[<-hSe,hdr]at hS;refine J2 ?_;refine jb ?_;refine aW (λρ w'=>ρ 0= .slice (some ⟨b,0,none⟩) n cp/\ρ 1=iB a/\ρ 2=iB e/\ρ 6=iB ((a:Int)+k)/\St w0 w' ((b,t,(Pre++sH xZ S x++R).flatMap lD++sp)::H)) ?_ ?_
  ·refine ja ?_;refine aQ (σ:=List Int×List Int) (λs ρ w'=>S=s.1++s.2/\(∀y∈s.2,xZ x y=true)/\ρ 0= .slice (some ⟨b,0,none⟩) n cp/\ρ 1=iB a/\ρ 2=iB e/\ρ 6=iB ((a:Int)+k)/\ρ 7=iB ((a:Int)+s.1.length)/\
     St w0 w' ((b,t,(Pre++s.1++x::(s.2++R)).flatMap lD++sp)::H)) (λs=>s.1.length) (S,[])
    ⟨(List.append_nil _).symm,(λy hy=>(by cases hy)),jY,jY,jY,jY,vi rfl (by rw[hSl]),hS⟩ ?_
   clear hS;rintro⟨A,B⟩ ρ w3 ⟨hAB,hB,h0,h1,h2,h6,h7,hS⟩;simp only at hAB hB h7 hS;have hABl:A.length+B.length=k:=by rw[<-List.length_append,<-hAB,hSl]
   have hLl:(Pre++A++x::(B++R)).length=n:=by simp only[List.length_append,List.length_cons];omega
   refine ja ?_;rcases List.eq_nil_or_concat A with hA|⟨A',y,hA⟩
   ·subst hA;refine ja ?_;refine bk [jo 0,jo 1,jo 2,jo 3,jo 4,jo 5,jo 6,ju 7,jo 8,jo 9,jo 10,jo 11,ju 12,jv 13,jo 14] kR kR hS ?_;intro wz1 hS hBz1;refine J4 ?_;refine fD rfl (ak 19 kR rfl (decide_eq_false (by simp))) (fD rfl (ak 19 kR rfl (decide_eq_false (by simp))) (fD rfl (ak 19 kR rfl (decide_eq_false (by simp))) (fD rfl (ak 19 kR rfl (decide_eq_false (by simp))) (fD rfl (ak 19 kR rfl (decide_eq_false (by simp))) (fD rfl (ak 19 kR rfl (decide_eq_false (by simp))) (fD rfl (ak 19 kR rfl (decide_eq_false (by simp))) (fD rfl (ak 19 kR rfl (decide_eq_false (by simp))) (fD rfl (ak 19 kR rfl (decide_eq_false (by simp))) (fD rfl (ak 19 kR rfl (decide_eq_false (by simp))) (jl rfl (aZ (vb rfl (decide_eq_false (by simp))) rfl ?_)))))))))));refine ja ?_;refine ct rfl (rfl) ?_;refine jt ?_;refine⟨_,rfl,jY,jY,jY,jY,?_⟩;rw[hAB,CZ hB (λy hy=>by cases hy)];simpa using hS
   ·rw[List.concat_eq_append]at hA;subst hA;have hA'l:(A'++[y]).length=A'.length+1:=by simp
    have hg1:(Pre++(A'++[y])++x::(B++R)).getD (a+A'.length+1) 0=x:=by
     rw[show a+A'.length+1=(Pre++(A'++[y])).length by simp[ha];omega];exact ET _ _ _ _
    have hg2:(Pre++(A'++[y])++x::(B++R)).getD (a+A'.length) 0=y:=by
     rw[show Pre++(A'++[y])++x::(B++R)=(Pre++A')++y::(x::(B++R)) by simp,show a+A'.length=(Pre++A').length by simp[ha]];exact ET _ _ _ _
    refine ja ?_;refine bk [jo 0,jo 1,jo 2,jo 3,jo 4,jo 5,jo 6,ju 7,jo 8,jo 9,jo 10,jo 11,ju 12,jv 13,jo 14] kR kR hS ?_;intro wz2 hS hBz2;refine J4 ?_;refine bP rfl (ai 19 kR rfl dT) (aI h0 (bP rfl (ai 19 kR rfl dT) (aI h7 (bP rfl (ai 19 kR rfl dT) (bn (i:=a+A'.length+1) rfl rfl oO dO ga ?_)))));refine eY rfl (ai 19 kR rfl dT) (wH (k:=0) (i:=a+A'.length+1) (enc:=lD) 0 (λ_=>rfl) rfl eI hS rfl (by first|omega|simp) dO rfl (.inr rfl) ?_);refine bP rfl (ai 19 kR rfl dT) (aI h0 (bP rfl (ai 19 kR rfl dT) (aI h7 (bP rfl (ai 19 kR rfl dT) (k9 rfl rfl (IntWalk.i64_in _ oO) (bP rfl (ai 19 kR rfl dT) (bn (i:=a+A'.length) rfl rfl oO dO ga ?_)))))));refine eY rfl (ai 19 kR rfl dT) (wH (k:=0) (i:=a+A'.length) (enc:=lD) 0 (λ_=>rfl) rfl eI hS rfl (by first|omega|simp) dO rfl (.inr rfl) ?_);rw[hg1,hg2];refine tK rfl (ai 19 kR rfl dT) (ah Tryz.call191 rfl (Dz x y _) ?_);rintro _ wq3 ⟨rfl,hq3⟩;replace hq3:=hq3.symm;subst hq3;refine⟨Below.refl _ _,?_⟩;refine jl rfl (aZ (vb rfl dT) rfl ?_);refine ja ?_;by_cases hcy:x<y
    ·refine bZ rfl (decide_eq_true hcy) ?_;refine ja ?_;refine fi (λρ'=>ρ' 0= .slice (some ⟨b,0,none⟩) n cp/\ρ' 1= .int .i64 a/\ρ' 2= .int .i64 e/\ρ' 6= .int .i64 ((a:Int)+k)/\ρ' 7= .int .i64 ((a:Int)+(A'++[y]).length)/\True) ⟨h0,h1,h2,h6,h7,trivial⟩ ?_;rintro ρk4 ⟨hk4_0,hk4_1,hk4_2,hk4_6,hk4_7,-⟩;have hset:((Pre++(A'++[y])++x::(B++R)).set (a+A'.length+1) y).set (a+A'.length) x=Pre++A'++x::(y::B++R):=by
      rw[show a+A'.length+1=(Pre++(A'++[y])).length by simp[ha];omega,I4,show Pre++(A'++[y])++y::(B++R)=(Pre++A')++y::(y::(B++R)) by simp,show a+A'.length=(Pre++A').length by simp[ha],I4];simp
     refine ja ?_;refine bk [jo 0,jo 1,jo 2,jo 3,jo 4,jo 5,jo 6,jo 7,jo 8,ju 9,jo 10,jo 11,jo 12,ju 13,jo 14,jw 15,jo 16,jw 17] kR kR hS ?_;intro wz5 hS hBz5;refine J8 ?_;refine jl rfl (bn (i:=a+A'.length) rfl rfl oO dO ga ?_);refine jm rfl (wH (k:=0) (i:=a+A'.length) (enc:=lD) (v:= .int .i64 y) 0 (λ_=>rfl) rfl eI hS rfl (by simp) oO (by rw[hg2];rfl) (.inr rfl) ?_);refine J2 ?_;refine jl rfl (bn (i:=a+A'.length+1) rfl rfl oO dO ga ?_);refine jm rfl (wH (k:=0) (i:=a+A'.length+1) (enc:=lD) (v:= .int .i64 x) 0 (λ_=>rfl) rfl eI hS rfl (by simp) oO (by rw[hg1];rfl) (.inr rfl) ?_);refine jl rfl (bn (i:=a+A'.length+1) rfl rfl oO dO ga ?_);refine jx rfl (wB (k:=0) (i:=a+A'.length+1) (enc:=lD) y (λ_=>rfl) rfl rfl eI hS rfl (by first|omega|simp) dO rfl rfl ?_);intro wz6 hS;refine jl rfl (bn (i:=a+A'.length) rfl rfl oO dO ga ?_);refine jx rfl (wB (k:=0) (i:=a+A'.length) (enc:=lD) x (λ_=>rfl) rfl rfl eI hS rfl (by first|omega|simp) dO rfl rfl ?_);intro wz7 hS;refine V3 ?_;replace hS:St w0 _ ((b,t,(((Pre++(A'++[y])++x::(B++R)).set (a+A'.length+1) y).set (a+A'.length) x).flatMap lD++sp)::H):=hS;rw[hset]at hS;exact⟨(A',y::B),_,rfl,⟨by rw[hAB];simp,λz hz=>(List.mem_cons.1 hz).elim (λe=>by rw[e];exact decide_eq_true hcy) (hB z),jY,jY,jY,jY,vi rfl (show(a:Int)+((A'++[y]).length:Nat)-1=(a:Int)+(A'.length:Nat) by omega),hS⟩,(show A'.length<(A'++[y]).length by omega)⟩
    ·refine ct rfl (decide_eq_false hcy) ?_;refine jt ?_;refine⟨_,rfl,jY,jY,jY,jY,?_⟩;rw[hAB,CZ hB (λz hz=>by
      rw[List.getLast?_append,List.getLast?_singleton]at hz;obtain rfl:y=z:=by simpa using hz
      exact decide_eq_false hcy)]
     simpa using hS
  clear hS;rintro ρ w3 ⟨h0,h1,h2,h6,hS⟩;refine V3 ?_;exact⟨k+1,_,rfl,⟨oO,.inl hlt,jY,jY,jY,vi rfl oO,by rw[hnx,<-hR];exact hS⟩,oO⟩
 ·refine J1 ?_;refine jt ?_;have e1:M.take k=M:=List.take_of_length_le oO;have e2:M.drop k=[]:=List.drop_of_length_le oO;rw[e1,e2]at hS;refine iS rfl ⟨rfl,?_⟩;simpa using hS
end Go.Proofs.YtoeiejliehgopaaGreatDoor
