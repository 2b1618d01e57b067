/-
  Part 9 of the proof of TopSplit: framework, walks, plain laws.
-/
import Derived.Test.YtoeiejliehgopaaGreatDoorVd8
set_option maxRecDepth 20000
set_option maxHeartbeats 8000000
namespace Go.Proofs.YtoeiejliehgopaaGreatDoor
open Go Go.RowKit Go.Sx
theorem oI {f g:Nat->Rat}:∀ {n:Nat},(∀i,i<n->f i<=g i)->ku f n<=ku g n
 |0,_=>bP
 |n+1,h=>by
  have a:=oI (n:=n) λi hi=>h i oO;have b:=h n oO;show ku f n+f n<=ku g n+g n;grind
theorem nU {f:Nat->Rat} {n:Nat} (h:∀i,i<n->0<=f i):0<=ku f n:=by
 have:=oI (f:=λ_=>0) h;rwa[lJ λ_ _=>rfl]at this
theorem n4 (f g:Nat->Rat) (n:Nat):ku (λi=>f i+g i) n=ku f n+ku g n:=by
 have:=nx f g 1 n;rw[dZ]at this;rw[<-this];exact kz λi _=>by rw[dZ]
theorem oQ (f g:Nat->Rat) (n:Nat):ku (λi=>f i-g i) n=ku f n-ku g n:=by
 have:=nx f g (-1) n;have e:ku (λi=>f i-g i) n=ku (λi=>f i+ -1*g i) n:=kz λi _=>by grind
 rw[e,this];grind
theorem qc (a:Nat->Nat->Rat) (m:Nat):∀n,ku (λi=>ku (λj=>a i j) m) n=ku (λj=>ku (λi=>a i j) n) m
 |0=>(lJ λ_ _=>rfl).symm
 |n+1=>by
  show ku _ n+_=_;rw[qc a m n,<-n4];rfl
theorem zq {f:Nat->Rat}:∀ {n:Nat},(∀i,i<n->0<=f i)->∀i,i<n->f i<=ku f n
 |n+1,h,i,hi=>by
  have a:=nU (n:=n) λi hi=>h i oO;have b:=h n oO;show f i<=ku f n+f n;by_cases e:i=n
  ·rw[e];grind
  ·have:=zq (n:=n) (λi hi=>h i oO) i oO;grind
theorem AR {f:Nat->Rat} {n:Nat} (h:∀i,i<n->0<=f i) (h0:ku f n<=0):∀i,i<n->f i=0:=λi hi=>by
 have a:=zq h i hi;have b:=h i hi;grind
theorem nN {a b:Rat} (ha:0<=a) (hb:0<=b):0<=a*b:=i6 ha hb
theorem CI {a b:Rat} (ha:0<a) (hb:0<b):0<a*b:=Rat.mul_pos ha hb
theorem nT {a b c:Rat} (h:a<=b) (hc:0<=c):c*a<=c*b:=Rat.mul_le_mul_of_nonneg_left h hc
theorem Ey {a b:Rat} (h:a*b=0) (hb:0<b):a=0:=by
 rcases fO.1 h with h|h
 ·exact h
 ·exact absurd h (wv hb)
structure SY (M:Mx) (n:Nat):Prop where
 nn:∀i,i<n->∀j,j<n->0<=M i j
 cs:∀j,j<n->rL M j n<=1
section
variable {M : Mx} {n : Nat} {u : Nat → Rat} {F : List Bool}
theorem Mc (M:Mx) (n:Nat) (u:Nat->Rat):ku (λi=>m9 M u n i) n=ku (λj=>rL M j n*u j) n:=by
 show ku (λi=>ku (λj=>M i j*u j) n) n=_;rw[qc];refine kz λj _=> ?_;have e:ku (λi=>M i j*u j) n=ku (λi=>u j*M i j) n:=kz λi _=>gC _ _;rw[e,qR,gC];rfl
theorem Wv (h:SY M n) (hu:∀i,i<n->0<=u i) (hle:∀i,i<n->u i<=m9 M u n i):
  (∀i,i<n->m9 M u n i=u i)/\(∀c,c<n->0<u c->rL M c n=1)/\∀a,a<n->u a=0->∀c,c<n->0<u c->M a c=0:=by
 have e:=Mc M n u;have hp:∀i,i<n->0<=m9 M u n i-u i:=λi hi=>by have:=hle i hi;grind
 have hq:∀j,j<n->0<=u j-rL M j n*u j:=λj hj=>by
  have:=nN (hu j hj) (show 0<=1-rL M j n by have:=h.cs j hj;grind);grind
 have e1:=oQ (λi=>m9 M u n i) u n;have e2:=oQ u (λj=>rL M j n*u j) n;have z1:=AR hp (by have:=nU hq;grind);have z2:=AR hq (by have:=nU hp;grind);refine⟨λi hi=>by have:=z1 i hi;grind,λc hc hc0=> ?_,λa ha h0 c hc hc0=> ?_⟩
 ·have:=z2 c hc;have:=Ey (a:=1-rL M c n) (b:=u c) (by grind) hc0;grind
 ·have h1:=z1 a ha;have h2:=AR (f:=λj=>M a j*u j) (n:=n) (λj hj=>nN (h.nn a ha j hj) (hu j hj)) (by
   show m9 M u n a<=0;grind) c hc
  exact Ey h2 hc0
theorem N5 {i:Nat} (hi:i<n) (S:Nat->Prop) (h0:S i) (hc:∀a c,a<n->c<n->S c->0<M a c->S a) {k:Nat} (hk:k∈tM M n i):S k:=by
 have h:=(tE.1 hk).2;induction h with
 |base j h=>rw[(El hi j).1 h];exact h0
 |step a b h1 ha hb hm ih=>exact hc b a hb ha (ih (tE.2 ⟨ha,h1⟩)) hm
theorem B7:∀ {k:Nat},k<=n->qH M n F k=[]->∀i,i<k->F.getD i false=true->(tM M n i).any (GO M n)=true
 |k+1,hk,h,i,hi,hF=>by
  unfold qH at h;split at h
  ·exact absurd h (Oi oO)
  ·next g=>
   by_cases e:i=k
   ·subst e;cases ha:(tM M n i).any (GO M n)with
    |true=>rfl
    |false=>exact absurd ⟨hF,ha,.inl h⟩ g
   ·exact B7 oO h i oO hF
theorem BV:∀ {k:Nat},k<=n->qH M n F k≠ []->∃i,i<k/\qH M n F k=tM M n i/\(tM M n i).any (GO M n)=false/\∀j,j<k->F.getD j false=true->(tM M n j).any (GO M n)=false->(qH M n F k).length<=(tM M n j).length
 |0,_,h=>absurd rfl h
 |k+1,hk,h=>by
  unfold qH at h⊢;split at h
  ·next g=>
   rw[aj g];refine⟨k,oO,rfl,g.2.1,λj hj hF ha=> ?_⟩;by_cases e:j=k
   ·rw[e];exact aB _
   ·by_cases e2:qH M n F k=[]
    ·have:=B7 oO e2 j oO hF;rw[this]at ha;cases ha
    ·obtain⟨_,_,_,_,h4⟩:=BV oO e2;have h5:=h4 j oO hF ha;rcases g.2.2 with g1|g1
     ·exact absurd g1 e2
     ·omega
  ·next g=>
   rw[ah g];obtain⟨i,h1,h2,h3,h4⟩:=BV oO h;refine⟨i,oO,h2,h3,λj hj hF ha=> ?_⟩;by_cases e:j=k
   ·subst e;have:¬((tM M n j).length<(qH M n F j).length):=λhlt=>g ⟨hF,ha,.inr hlt⟩;omega
   ·exact h4 j oO hF ha
theorem FF {n i:Nat} (h:i<n):(List.replicate n true).getD i false=true:=by
 rw[ak,gy,aj h];rfl
theorem Ws (h:SY M n) (hu:∀i,i<n->0<=u i) (hle:∀i,i<n->u i<=m9 M u n i) {i:Nat} (hi:i<n) (h0:0<u i):(tM M n i).any (GO M n)=false/\∀k∈tM M n i,k<n/\0<u k:=by
 obtain⟨_,m2,m3⟩:=Wv h hu hle;have hc:∀k∈tM M n i,k<n/\0<u k:=λk hk=>N5 hi (λk=>k<n/\0<u k) ⟨hi,h0⟩ (λa c ha hc hS hm=>⟨ha,by
  have h1:=hu a ha;by_cases e:u a=0
  ·have:=m3 a ha e c hc hS.2;rw[this]at hm;exact absurd hm (dy)
  ·grind⟩) hk
 refine⟨?_,hc⟩;rw[gF];intro k hk;obtain⟨a,b⟩:=hc k hk;unfold GO;rw[m2 k a b];decide
theorem OG (h:SY M n) (hb:qH M n (List.replicate n true) n=[]) (hu:∀i,i<n->0<=u i) (hle:∀i,i<n->u i<=m9 M u n i):∀i,i<n->u i=0:=λi hi=>by
 have h1:=hu i hi;by_cases e:u i=0
 ·exact e
 ·have a:=(Ws h hu hle hi (by grind)).1;rw[B7 (aB _) hb i hi (FF hi)]at a;cases a
theorem JC {p q:Nat->Bool}:∀(l:List Nat),(∀k∈l,p k=true->q k=true)->(l.filter q).length<=(l.filter p).length->∀k∈l,q k=true->p k=true
 | [],_,_=>λ_ h=>by cases h
 |a::l,h,hl=>by
  have h1:∀k∈l,p k=true->q k=true:=λk hk=>h k (aJ _ hk);have mono:(l.filter p).length<=(l.filter q).length:=by
   clear hl h;induction l with
   |nil=>exact aB _
   |cons b l ih=>
    have ih:=ih λk hk=>h1 k (aJ _ hk);have hb:=h1 b (aH ..);rw[fK,fK];cases e1:p b<;>cases e2:q b<;>simp_all<;>omega
  have ha:=h a (aH ..);rw[fK,fK]at hl;intro k hk hq;cases e1:p a
  ·cases e2:q a
   ·rw[e1,e2]at hl;rcases bM.1 hk with rfl|hk
    ·rw[e2]at hq;cases hq
    ·exact JC l h1 hl k hk hq
   ·rw[e1,e2]at hl;simp only[g9,aZ]at hl;simp at hl;omega
  ·rw[e1,ha e1]at hl;rcases bM.1 hk with rfl|hk
   ·exact e1
   ·exact JC l h1 (by simpa using hl) k hk hq
theorem UU (h:SY M n) {C:List Nat} (hC:qH M n (List.replicate n true) n=C) (hu:∀i,i∈C->m9 M u n i=u i) (h0:∀i,i∉C->u i=0) {i0:Nat} (hi0:0<u i0):(∀i,i∈C->0<u i)/\∀i,i<n->m9 M u n i=u i:=by
 have hin:∀i,0<u i->i∈C:=λi hi=>by
  by_cases e:i∈C
  ·exact e
  ·rw[h0 i e]at hi;exact absurd hi dy
 have hCn:∀c,c∈C->c<n:=λc hc=>by rw[<-hC]at hc;exact(yD M n _ n).2 c hc
 obtain⟨p,hp⟩:∃p:Nat->Rat,p=λi=>if 0<u i then u i else 0:=⟨_,rfl⟩
 have hp1:∀i,0<=p i/\u i<=p i/\(0<u i->p i=u i)/\(0<p i->0<u i):=λi=>by
  rw[hp];dsimp only;split<;>grind
 have hle:∀i,i<n->p i<=m9 M p n i:=λi hi=>by
  have hnn:0<=m9 M p n i:=nU λj hj=>nN (h.nn i hi j hj) (hp1 j).1;by_cases g:0<u i
  ·rw[(hp1 i).2.2.1 g,<-hu i (hin i g)];exact oI λj hj=>nT (hp1 j).2.1 (h.nn i hi j hj)
  ·have:p i=0:=by rw[hp];exact ah g
   rw[this];exact hnn
 have hpn:∀i,i<n->0<=p i:=λi _=>(hp1 i).1;have hi0n:=hCn i0 (hin i0 hi0);obtain⟨k1,k2⟩:=Ws h hpn hle hi0n (by rw[(hp1 i0).2.2.1 hi0];exact hi0);have hne:qH M n (List.replicate n true) n≠ []:=λe=>by
  have:=hin i0 hi0;rw[<-hC,e]at this;cases this
 obtain⟨i1,_,e1,_,h4⟩:=BV (aB n) hne;have h5:=h4 i0 hi0n (FF hi0n) k1;rw[e1]at h5 hC;have hpos:∀i,i∈C->0<u i:=λi hi=>by
  have hm:i∈tM M n i0:=by
   have:=JC (p:=λk=>(SR M n (xf n i0)).getD k false) (q:=λk=>(SR M n (xf n i1)).getD k false) (List.range n) (λk hk hkp=> ?_) h5 i (cZ.2 (hCn i hi)) ?_
   ·exact u7.2 ⟨hCn i hi,this⟩
   ·have hk1:=k2 k (u7.2 ⟨cZ.1 hk,hkp⟩);have:=hin k ((hp1 k).2.2.2 hk1.2);rw[<-hC]at this;exact(u7.1 this).2
   ·rw[<-hC]at hi;exact(u7.1 hi).2
  exact(hp1 i).2.2.2 (k2 i hm).2
 refine⟨hpos,λi hi=> ?_⟩;have ep:p=u:=by
  funext k;by_cases g:0<u k
  ·exact(hp1 k).2.2.1 g
  ·have hz:u k=0:=h0 k λhk=>g (hpos k hk);rw[hp];show(if 0<u k then u k else 0)=u k;rw[hz];exact ah dy
 have:=(Wv h hpn hle).1 i hi;rwa[ep]at this
theorem Ua (h:SY M n) (hb:qH M n (List.replicate n true) n=[]) {v c:Nat->Rat} (hc:∀i,i<n->0<=c i) (hv:∀i,i<n->v i=m9 M v n i+c i):∀i,i<n->0<=v i:=by
 have hz:=OG (u:=λi=>if v i<0 then-v i else 0) h hb (λi _=>by split<;>grind) (λi hi=>by
  have hnn:0<=m9 M (λi=>if v i<0 then-v i else 0) n i:=nU λj hj=>nN (h.nn i hi j hj) (by dsimp only;split<;>grind);split
  ·have h1:ku (λj=> -(M i j*v j)) n<=m9 M (λi=>if v i<0 then-v i else 0) n i:=oI λj hj=>by
    dsimp only;have:=nT (a:= -v j) (b:=if v j<0 then-v j else 0) (by split<;>grind) (h.nn i hi j hj);grind
   have h2:=oQ (λ_=>0) (λj=>M i j*v j) n;rw[lJ (f:=λ_=>0) λ_ _=>rfl]at h2;have h3:ku (λi_1=>(0:Rat)-M i i_1*v i_1) n=ku (λj=> -(M i j*v j)) n:=kz λj _=>by grind
   have h4:=hv i hi;have h5:=hc i hi;have h6:m9 M v n i=ku (λj=>M i j*v j) n:=rfl;grind
  ·exact hnn)
 intro i hi;have:=hz i hi;split at this<;>grind
end
theorem Ga (n:Nat) (A:Mx):∀c,(lR n A c).d≠0
 |0=>by show(1:Rat)≠0;decide
 |c+1=>by
  by_cases h:pv (lR n A c).M c n (lR n A c).P.length<n
  ·have hp:=(pU (lR n A c).M c (rinv n A c).len).2.2.2 h;have ih:=Ga n A c;rw[Hw h];intro e;rcases fO.1 e with e|e
   ·split at e
    ·exact ih e
    ·exact ih (by grind)
   ·exact hp e
  ·rw[Mf h];exact Ga n A c
theorem Qk {m:Nat} {A:Mx} (hm:0<m) (h:∀j,j<m->ku (λi=>A i j) m=0):rK m A=0:=by
 have key:∀k,k<m->rK m (qX A 0 λj=>ku (λi=>A i j) (k+1))=rK m A:=by
  intro k;induction k with
  |zero=>
   intro _;refine ov λi _ j _=> ?_;unfold qX;split
   ·next e=>rw[e];show 0+A 0 j=A 0 j;grind
   ·rfl
  |succ k ih=>
   intro hk;rw[<-ih oO,<-KM (p:=0) (q:=k+1) hm hk oO (qX A 0 λj=>ku (λi=>A i j) (k+1)) 1];refine ov λi _ j _=> ?_;by_cases e:i=0
   ·rw[e,mz,mz,mz,nS _ _ oO,dZ];rfl
   ·rw[nS _ _ e,nS _ _ e,nS _ _ e]
 rw[<-key (m-1) oO];refine Cn (p:=0) hm λj hj=> ?_;rw[mz,eV hm,h j hj]
theorem WN {m:Nat} {A:Mx} (hm:0<m) (h:∀j,j<m->ku (λi=>A i j) m=0):(lR m A m).P.length<m:=by
 have e:=Ru m A;rw[Qk hm h]at e;have hl:=zD m A m;by_cases g:(lR m A m).P.length=m
 ·unfold U0 at e;rw[aj g]at e;exact absurd e (Ga m A m)
 ·omega
theorem FB {C:List Nat} {n:Nat} (hC:C.Nodup) (hn:∀c∈C,c<n) (f:Nat->Rat) (h0:∀i,i∉C->f i=0):ku f n=ku (λb=>f (C.getD b 0)) C.length:=by
 have key:∀k,k<=C.length->ku (λi=>if i∈C.take k then f i else 0) n=ku (λb=>f (C.getD b 0)) k:=by
  intro k;induction k with
  |zero=>exact λ_=>lJ λi _=>by simp
  |succ k ih=>
   intro hk;have hm:C.getD k 0∈C:=pI hk;have hnot:C.getD k 0∉C.take k:=λhx=>by
    obtain⟨l,hl,e⟩:=C1 hx;have hlk:l<k:=by rw[dm]at hl;omega
    have e2:(C.take k).getD l 0=C.getD l 0:=by
     rw[ak,ak,jI,aj hlk]
    rw[e2]at e;have a:=wu C hC (k:=l) oO;rw[e,wu C hC hk]at a;omega
   show _=ku _ k+f (C.getD k 0);have hone:ku (λi=>if i=C.getD k 0 then f i else 0) n=f (C.getD k 0):=by
    rw[nz (p:=C.getD k 0) (hn _ hm) λi _ hi=>ah hi];exact aj rfl
   rw[<-ih oO,<-hone,<-n4];refine kz λi _=> ?_;have et:C.take (k+1)=C.take k++[C.getD k 0]:=by
    rw[List.take_add_one,ak,aF hk];rfl
   rw[et];by_cases e:i=C.getD k 0
   ·rw[aj e,aj (by rw[e];simp),e,ah hnot];grind
   ·rw[ah e];by_cases e2:i∈C.take k
    ·rw[aj (gU _ e2),aj e2];grind
    ·rw[ah (λh=>(bN.1 h).elim e2 λh=>e (aO.1 h)),ah e2];grind
 rw[<-key C.length (aB _),bO];refine kz λi _=> ?_;split
 ·rfl
 ·next h=>exact h0 i h
theorem N2 {M:Mx} {C:List Nat} {i j:Nat} (hi:i<C.length) (hj:j<C.length):RM (pV M C) i j=th M C i j:=by
 unfold RM pV;rw[p9 _ hi,kB _ _ hj,toQ_ofQ]
theorem Gc {M:Mx} {C:List Nat} (hC:0<C.length):nu (pV M C)=C.length:=by
 show((pV M C).getD 0 []).length=_;unfold pV;rw[p9 _ hC,kj]
theorem PO {M:Mx} {C:List Nat} (hC:0<C.length) (h16:C.length<=16):ui (pV M C)=0:=by
 have h1:(pV M C).length=C.length:=nl _ _ _;have h2:=Gc (M:=M) hC;have h3:Bj (pV M C)=true:=by
  unfold Bj;rw[cO];intro r hr;obtain⟨i,_,rfl⟩:=tG hr;rw[kj,h2];exact ai rfl
 unfold ui;rw[h1,h2,h3,ah oO,ah dD,ah oO]
theorem KL {n m:Nat} {A B:Mx} {x:Nat->Rat} (h:∀i,i<n->∀j,j<m->A i j=B i j) (hk:G9 n m A x):G9 n m B x:=λi hi=>by
 rw[<-hk i hi];exact kz λj hj=>by rw[h i hi j hj]
theorem Sz {M:Mx} {C:List Nat} (hC:0<C.length) (h16:C.length<=16) (hc:∀j,j<C.length->ku (λi=>th M C i j) C.length=0):
  IL (pV M C)≠ []/\(∃f,f<C.length/\f∉(lR C.length (RM (pV M C)) C.length).P/\∀j,j<C.length->Nu M C j=kv (lR C.length (RM (pV M C)) C.length).P (lR C.length (RM (pV M C)) C.length).M f j)/\(∃f,f<C.length/\Nu M C f=1)/\G9 C.length C.length (th M C) (Nu M C):=by
 have h1:(pV M C).length=C.length:=nl _ _ _;have h2:=Gc (M:=M) hC;have hs:(lR C.length (RM (pV M C)) C.length).P.length<C.length:=by
  refine WN hC λj hj=> ?_;rw[<-hc j hj];exact kz λi hi=>N2 hi hj
 have I:=rinv C.length (RM (pV M C)) C.length;have ek:IL (pV M C)=(Mq (lR C.length (RM (pV M C)) C.length).P C.length).map (rF (lR C.length (RM (pV M C)) C.length).M (lR C.length (RM (pV M C)) C.length).P C.length):=by
  unfold IL Fs;rw[aj (PO hC h16),h1,h2]
 have hfc:=Cz I.inc I.lt;have hker:=λx=>BE C.length C.length (RM (pV M C)) x C.length;have h0:∀j,Nu M C j=toQ (((IL (pV M C)).getD 0 []).getD j kZ):=λj=>rfl;generalize lR C.length (RM (pV M C)) C.length=s at*;have hfl:Mq s.P C.length=(List.range C.length).filter λf=> !decide (f∈s.P):=rfl;cases hf:Mq s.P C.length with
 |nil=>rw[<-hfl,hf]at hfc;simp at hfc;omega
 |cons f l=>
  have hm:f∈Mq s.P C.length:=by rw[hf];exact aH ..
  rw[hfl,dS,cZ]at hm;have hfP:f∉s.P:=by simpa using hm.2
  have hk0:∀j,j<C.length->Nu M C j=kv s.P s.M f j:=λj hj=>by
   rw[h0,ek,hf];show toQ ((rF s.M s.P C.length f).getD j kZ)=_;unfold rF;rw[kB _ _ hj,toQ_ofQ]
  refine⟨by rw[ek,hf];simp,⟨f,hm.1,hfP,hk0⟩,⟨f,hm.1,by rw[hk0 f hm.1];exact aj rfl⟩,?_⟩;rw[MT hk0];exact KL (λi hi j hj=>N2 hi hj) ((hker _).1 (JN I hfP hm.1))
theorem GK {C:List Nat} (hC:C.Nodup) (l:Nat->Rat) {b:Nat} (hb:b<C.length):u9 C l C.length (C.getD b 0)=l b:=by
 unfold u9;rw[bO,aj (pI hb),wu C hC hb]
theorem Gb {C:List Nat} (l:Nat->Rat) {i:Nat} (h:i∉C):u9 C l C.length i=0:=by
 unfold u9;rw[bO,ah h]
theorem Sg {M:Mx} {C:List Nat} {n:Nat} (hC:C.Nodup) (hn:∀c∈C,c<n) (l:Nat->Rat) (i:Nat):m9 M (u9 C l C.length) n i=ku (λb=>M i (C.getD b 0)*l b) C.length:=by
 have h:=FB hC hn (λj=>M i j*u9 C l C.length j) λj hj=>by rw[Gb l hj,eg]
 unfold m9;rw[h];exact kz λb hb=>by rw[GK hC l hb]
theorem Lk (M:Mx) {C:List Nat} (l:Nat->Rat) {a:Nat} (ha:a<C.length):m9 (th M C) l C.length a=ku (λb=>M (C.getD a 0) (C.getD b 0)*l b) C.length-l a:=by
 have e:∀b,th M C a b*l b=M (C.getD a 0) (C.getD b 0)*l b-(if b=a then l a else 0):=λb=>by
  unfold th;by_cases h:a=b
  ·rw[aj h,aj h.symm,h];grind
  ·rw[ah h,ah λh2=>h h2.symm];grind
 unfold m9;rw[kz λb _=>e b,oQ,nz (f:=λb=>if b=a then l a else 0) ha λb _ hb=>ah hb,aj rfl]
theorem z5 {M:Mx} {n:Nat} {C:List Nat} (h:SY M n) (hb:qH M n (List.replicate n true) n=C) (hne:C≠ []) (h16:n<=16):
  IL (pV M C)≠ []/\(∀i,i∈C->0<uH M C i)/\(∀i,i∉C->uH M C i=0)/\(∀i,i<n->m9 M (uH M C) n i=uH M C i)/\(∀c,c∈C->rL M c n=1)/\∃f,f<C.length/\f∉(lR C.length (RM (pV M C)) C.length).P/\∀j,j<C.length->Nu M C j=kv (lR C.length (RM (pV M C)) C.length).P (lR C.length (RM (pV M C)) C.length).M f j:=by
 obtain⟨hC,hCn⟩:=yD M n (List.replicate n true) n;have hle:=AF M n (List.replicate n true) n;obtain⟨i0,hi0,e0,lk0,_⟩:=BV (aB n) (by rw[hb];exact hne);rw[hb]at hC hCn hle e0;have hC0:0<C.length:=fY.2 hne;have hcs:∀c,c∈C->rL M c n=1:=λc hc=>by
  rw[gF]at lk0;rw[e0]at hc;have h1:=lk0 c hc;have h2:=h.cs c (tE.1 hc).1;unfold GO at h1;have h3:¬rL M c n<1:=λg=>h1 (ai g);grind
 have hz:∀a,a<n->a∉C->∀c,c∈C->M a c=0:=λa ha hna c hc=>by
  have h1:=h.nn a ha c (hCn c hc);by_cases e:M a c=0
  ·exact e
  ·rw[e0]at hc hna;exact absurd (tE.2 ⟨ha,.step c a (tE.1 hc).2 (tE.1 hc).1 ha (by grind)⟩) hna
 have hsub:∀j,j<C.length->ku (λi=>th M C i j) C.length=0:=λj hj=>by
  have hm:=pI hj;have e:∀i,th M C i j=M (C.getD i 0) (C.getD j 0)-(if i=j then 1 else 0):=λi=>rfl;rw[kz λi _=>e i,oQ,nz (f:=λi=>if i=j then(1:Rat)else 0) hj λi _ hi=>ah hi,aj rfl];have hs:=FB hC hCn (λa=>if a∈C then M a (C.getD j 0)else 0) λa ha=>ah ha;have e2:ku (λa=>if a∈C then M a (C.getD j 0)else 0) n=rL M (C.getD j 0) n:=kz λa ha=>by
   split
   ·rfl
   ·next g=>exact(hz a ha g _ hm).symm
  have e3:ku (λb=>if C.getD b 0∈C then M (C.getD b 0) (C.getD j 0)else 0) C.length=ku (λb=>M (C.getD b 0) (C.getD j 0)) C.length:=kz λb hb=>aj (pI hb);rw[<-e3,<-hs,e2,hcs _ hm];grind
 obtain⟨k1,k2,⟨f,hf,hf1⟩,hker⟩:=Sz hC0 oO hsub;have hdot:∀i,i∈C->m9 M (uH M C) n i=uH M C i:=λi hi=>by
  obtain⟨a,ha,e⟩:=C1 hi;have h1:=hker a ha;rw[Lk M _ ha]at h1;unfold uH;rw[Sg hC hCn,<-e,GK hC _ ha];grind
 obtain⟨p1,p2⟩:=UU h hb hdot (λi hi=>Gb _ hi) (i0:=C.getD f 0) (by
  unfold uH;rw[GK hC _ hf,hf1];decide)
 exact⟨k1,p1,λi hi=>Gb _ hi,p2,hcs,k2⟩
theorem r7 {n j:Nat} (h:j<n):(List.range n).getD j 0=j:=by
 rw[ak,List.getElem?_range h];rfl
theorem MN {n:Nat} {A:Mx} (hA:∀x,G9 n n A x->∀i,i<n->x i=0):(lR n A n).P.length=n:=by
 have I:=rinv n A n;have hl:=zD n A n;by_cases e:(lR n A n).P.length=n
 ·exact e
 ·have hfc:=Cz I.inc I.lt;cases hf:(List.range n).filter λf=> !decide (f∈(lR n A n).P)with
  |nil=>rw[hf]at hfc;simp at hfc;omega
  |cons f l=>
   have hm:f∈(List.range n).filter λf=> !decide (f∈(lR n A n).P):=by rw[hf];exact aH ..
   rw[dS,cZ]at hm;have hfP:f∉(lR n A n).P:=by simpa using hm.2
   have h1:=hA _ ((BE n n A _ n).1 (JN I hfP hm.1)) f hm.1;have h2:kv (lR n A n).P (lR n A n).M f f=1:=aj rfl;rw[h2]at h1;exact absurd h1 dD
theorem yW {g:nq} {M:Mx} (h:SY M g.n) (hb:qH M g.n (List.replicate g.n true) g.n=[]) (h0:0<g.n) (h16:g.n<=16) (hc:∀i,i<g.n->0<=Bu g i):
  K7 (pV M (List.range g.n)) (Ak g (List.range g.n))=0/\Q5 (pV M (List.range g.n)) (Ak g (List.range g.n))=kD g.n (λj=>ki (S9 g M (List.range g.n) j))/\(∀i,i<g.n->0<=rA g M (List.range g.n) i)/\(∀i,i<g.n->rA g M (List.range g.n) i=m9 M (rA g M (List.range g.n)) g.n i+Bu g i)/\
  (NF (pV M (List.range g.n)) (Ak g (List.range g.n))).P.length=g.n/\∀j,j<g.n->rA g M (List.range g.n) j=(NF (pV M (List.range g.n)) (Ak g (List.range g.n))).M j g.n:=by
 obtain⟨n,hn⟩:=jz g.n;rw[<-hn]at h hb h0 h16 hc⊢;have hl:(List.range n).length=n:=dE;have h1:(pV M (List.range n)).length=n:=by rw[show(pV M (List.range n)).length=(List.range n).length from nl _ _ _,hl]
 have h2:=Gc (M:=M) (C:=List.range n) oO;have hsh:=PO (M:=M) (C:=List.range n) oO oO;have hcb:(Ak g (List.range n)).length=n:=by unfold Ak;rw[kj,hl]
 have hsq:O3 (pV M (List.range n))=0:=by
  unfold O3;rw[hsh,ah dD,ah (by rw[h1,h2,hl];simp)]
 have hsubM:∀i,i<n->∀j,j<n->th M (List.range n) i j=M i j-(if i=j then 1 else 0):=λi hi j hj=>by
  unfold th;rw[r7 hi,r7 hj]
 have hA1:∀i,i<n->∀j,j<n->Eb (pV M (List.range n)) (Ak g (List.range n)) i j=th M (List.range n) i j:=λi hi j hj=>by
  unfold Eb;rw[h1,aj hj,N2 oO oO]
 have hA2:∀i,i<n->Eb (pV M (List.range n)) (Ak g (List.range n)) i n= -Bu g i:=λi hi=>by
  unfold Eb VX Ak;rw[h1,ah oO,aj rfl,kB _ _ oO,toQ_ofQ,r7 hi]
 have hdM:∀x i,i<n->m9 (th M (List.range n)) x n i=m9 M x n i-x i:=λx i hi=>by
  have:=Lk M (C:=List.range n) x (a:=i) oO;rw[hl,r7 hi]at this;rw[this];congr 1;exact kz λb hb=>by rw[r7 hb]
 have hinj:∀x,G9 n n (Eb (pV M (List.range n)) (Ak g (List.range n))) x->∀i,i<n->x i=0:=λx hx=>by
  have hx2:G9 n n (th M (List.range n)) x:=KL hA1 hx;have hd:∀i,i<n->m9 M x n i=x i:=λi hi=>by
   have:=hx2 i hi;rw[hdM x i hi]at this;grind
  have hz:=OG (u:=λi=>if x i<0 then-x i else x i) h hb (λi _=>by split<;>grind) (λi hi=>by
   have e1:m9 M x n i<=m9 M (λi=>if x i<0 then-x i else x i) n i:=oI λj hj=>by
    dsimp only;exact nT (by split<;>grind) (h.nn i hi j hj)
   have e2:m9 M (λj=> -x j) n i<=m9 M (λi=>if x i<0 then-x i else x i) n i:=oI λj hj=>by
    dsimp only;exact nT (by split<;>grind) (h.nn i hi j hj)
   have e3:m9 M (λj=> -x j) n i= -m9 M x n i:=by
    have:=oQ (λ_=>0) (λj=>M i j*x j) n;rw[lJ (f:=λ_=>0) λ_ _=>rfl]at this;have h3:ku (λj=>(0:Rat)-M i j*x j) n=m9 M (λj=> -x j) n i:=kz λj _=>by grind
    have h4:m9 M x n i=ku (λj=>M i j*x j) n:=rfl;grind
   have:=hd i hi;split<;>grind)
  intro i hi;have:=hz i hi;split at this<;>grind
 have hP:=MN hinj;have hsd:NF (pV M (List.range n)) (Ak g (List.range n))=lR n (Eb (pV M (List.range n)) (Ak g (List.range n))) n:=by unfold NF;rw[h1]
 have hse:K7 (pV M (List.range n)) (Ak g (List.range n))=0:=by
  unfold K7;rw[ah (by rw[hsq];decide),ah (by rw[h1,hcb];simp),hsd,h1,aj hP]
 have hsl:Q5 (pV M (List.range n)) (Ak g (List.range n))=kD n λi=>ki ((NF (pV M (List.range n)) (Ak g (List.range n))).M i n):=by
  unfold Q5;rw[aj hse,h1]
 have hsv:∀j,j<n->S9 g M (List.range n) j=(NF (pV M (List.range n)) (Ak g (List.range n))).M j n:=λj hj=>by
  unfold S9;rw[hsl,kB _ _ hj,toQ_ofQ]
 have hfd:∀j,j<n->rA g M (List.range n) j=(NF (pV M (List.range n)) (Ak g (List.range n))).M j n:=λj hj=>by
  have:=GK (C:=List.range n) j1 (S9 g M (List.range n)) (b:=j) oO;rw[r7 hj]at this;unfold rA;rw[this,hsv j hj]
 have hv:∀i,i<n->rA g M (List.range n) i=m9 M (rA g M (List.range n)) n i+Bu g i:=by
  obtain⟨A,hA⟩:=jz (Eb (pV M (List.range n)) (Ak g (List.range n)));rw[<-hA]at hsd hA1 hA2 hP;have er:=Cl (A:=A) (c:=n) (n:=n) oO 1;have I:=rinv n A (n+1);have hr:=Dt (rinv n A n) hP;have hn':n∉(lR n A (n+1)).P:=by rw[er,hr];simp
  have hk:=(BE n (n+1) A _ (n+1)).1 (JN I hn' oO);rw[er]at hk;have hkn:kv (lR n A n).P (lR n A n).M n n=1:=aj rfl;have hkj:∀j,j<n->kv (lR n A n).P (lR n A n).M n j= -(lR n A n).M j n:=λj hj=>by
   have:=Ps (P:=(lR n A n).P) (M:=(lR n A n).M) (f:=n) (l:=j) (rinv n A n).inc (by rw[hr];simp) oO;rw[hr]at this⊢;rwa[r7 hj]at this
  intro i hi;have h3:=hk i hi;have h4:ku (λj=>A i j*kv (lR n A n).P (lR n A n).M n j) n+A i n*kv (lR n A n).P (lR n A n).M n n=0:=h3;rw[hkn,hA2 i hi]at h4;have h5:ku (λj=>A i j*kv (lR n A n).P (lR n A n).M n j) n= -m9 (th M (List.range n)) (rA g M (List.range n)) n i:=by
   have:=oQ (λ_=>0) (λj=>th M (List.range n) i j*rA g M (List.range n) j) n;rw[lJ (f:=λ_=>0) λ_ _=>rfl]at this;have h6:ku (λj=>(0:Rat)-th M (List.range n) i j*rA g M (List.range n) j) n=ku (λj=>A i j*kv (lR n A n).P (lR n A n).M n j) n:=kz λj hj=>by
    rw[hkj j hj,hA1 i hi j hj,hfd j hj,hsd];grind
   have h7:m9 (th M (List.range n)) (rA g M (List.range n)) n i=ku (λj=>th M (List.range n) i j*rA g M (List.range n) j) n:=rfl;grind
  have h8:=hdM (rA g M (List.range n)) i hi;grind
 refine⟨hse,?_,Ua h hb hc hv,hv,by rw[hsd];exact hP,hfd⟩;rw[hsl];exact kN λj hj=>by rw[hsv j hj]
def qU (c:Int):List Pa->Rat
 | []=>0
 |p::l=>(if p.c=c then p.q else 0)+qU c l
def qs:List Pa->Rat
 | []=>0
 |p::l=>p.q+qs l
structure Ea (t:Tr):Prop where
 q:∀p∈t.ps,0<=p.q
 s:t.sm=qs t.ps
def yR (T:List Tr):Prop:=∀t∈T,Ea t
theorem yA (c:Int) (m:List Pa):∀l,qU c (l++m)=qU c l+qU c m
 | []=>by show qU c m=0+qU c m;grind
 |p::l=>by show _+qU c (l++m)=_+qU c l+qU c m;rw[yA c m l];grind
theorem E0 (m:List Pa):∀l,qs (l++m)=qs l+qs m
 | []=>by show qs m=0+qs m;grind
 |p::l=>by show _+qs (l++m)=_+qs l+qs m;rw[E0 m l];grind
theorem K3 (c:Int) (r:Rat):∀l:List Pa,qU c (l.map λp=>⟨p.c,p.q*r⟩)=qU c l*r
 | []=>by show(0:Rat)=0*r;grind
 |p::l=>by
  show(if p.c=c then p.q*r else 0)+qU c (l.map λp=>⟨p.c,p.q*r⟩)=((if p.c=c then p.q else 0)+qU c l)*r;rw[K3 c r l];split<;>grind
theorem OF (r:Rat):∀l:List Pa,qs (l.map λp=>⟨p.c,p.q*r⟩)=qs l*r
 | []=>by show(0:Rat)=0*r;grind
 |p::l=>by
  show p.q*r+qs (l.map λp=>⟨p.c,p.q*r⟩)=(p.q+qs l)*r;rw[OF r l];grind
theorem FR (c:Int) (t:Tr) (a:Rat):qU c (Gr t a)=qU c t.ps*(a/t.sm):=K3 c _ t.ps
theorem SP (t:Tr) (a:Rat):qs (Gr t a)=qs t.ps*(a/t.sm):=OF _ t.ps
theorem Pq {c:Int}:∀ {l:List Pa},(∀p∈l,0<=p.q)->0<=qU c l
 | [],_=>bP
 |p::l,h=>by
  have a:=h p (aH ..);have b:=Pq (c:=c) λp hp=>h p (aJ _ hp);show 0<=(if p.c=c then p.q else 0)+qU c l;split<;>grind
theorem S4:∀ {l:List Pa},(∀p∈l,0<=p.q)->0<=qs l
 | [],_=>bP
 |p::l,h=>by
  have a:=h p (aH ..);have b:=S4 λp hp=>h p (aJ _ hp);show 0<=p.q+qs l;grind
theorem PE {c:Int}:∀ {l:List Pa},(∀p∈l,0<=p.q)->qU c l<=qs l
 | [],_=>bP
 |p::l,h=>by
  have a:=h p (aH ..);have b:=PE (c:=c) λp hp=>h p (aJ _ hp);show(if p.c=c then p.q else 0)+qU c l<=p.q+qs l;split<;>grind
theorem zG {n:Nat}:∀ {l:List Pa},(∀p∈l,zo n p)->ku (λk=>qU k l) n+qU (-1) l=qs l
 | [],_=>by
  show ku (λ_=>0) n+0=0;rw[lJ λ_ _=>rfl];grind
 |p::l,h=>by
  have ih:=zG (n:=n) λp hp=>h p (aJ _ hp);have e:=n4 (λk=>if p.c=(k:Int)then p.q else 0) (λk=>qU k l) n;show ku (λk:Nat=>(if p.c=(k:Int)then p.q else 0)+qU k l) n+((if p.c= -1 then p.q else 0)+qU (-1) l)=p.q+qs l;rw[e];rcases h p (aH ..)with g|⟨g1,g2⟩
  ·rw[aj g,lJ λk _=>ah oO];grind
  ·rw[ah oO,nz (p:=p.c.toNat) oO λk _ hk=>ah oO,aj oO];grind
theorem Fi (k:Nat):∀(l:List Pa) (s:Rs),(rj s l).c k=s.c k+qU k l
 | [],s=>by show s.c k=s.c k+0;grind
 |p::l,s=>by
  show(rj (Dn s p) l).c k=s.c k+((if p.c=k then p.q else 0)+qU k l);rw[Fi k l];unfold Dn;by_cases e:p.c= -1
  ·rw[aj e,ah (show¬p.c=(k:Int) by omega)];grind
  ·rw[ah e];show(if(k:Int)=p.c then s.c k+p.q else s.c k)+_=_;by_cases e2:p.c=(k:Int)
   ·rw[aj e2,aj e2.symm];grind
   ·rw[ah e2,ah λh=>e2 h.symm];grind
theorem Pd:∀(l:List Pa) (s:Rs),(rj s l).r=s.r+qU (-1) l
 | [],s=>by show s.r=s.r+0;grind
 |p::l,s=>by
  show(rj (Dn s p) l).r=s.r+((if p.c= -1 then p.q else 0)+qU (-1) l);rw[Pd l];unfold Dn;by_cases e:p.c= -1
  ·rw[aj e,aj e];grind
  ·rw[ah e,ah e];grind
theorem n8 (t:Tr) (T:List Tr) (m:Rat):mD (t::T) m=if m<t.sm then 0 else mD T (m-t.sm)+1:=rfl
theorem ED {t:Tr} {T:List Tr} {m:Rat} (h:¬m<t.sm):r9 (t::T) m=r9 T (m-t.sm):=by
 unfold r9;rw[n8,ah h,tQ];grind
theorem Do {t:Tr} {T:List Tr} {m:Rat} (h:m<t.sm):r9 (t::T) m=m:=by
 unfold r9;rw[n8,aj h];show m-0=m;grind
theorem xV (t:Tr) (T:List Tr) (m:Rat):rJ (t::T) m=if m<t.sm then Gr t m else t.ps++rJ T (m-t.sm):=by
 unfold rJ;rw[n8];by_cases h:m<t.sm
 ·rw[aj h,aj h,Do h,aj (show 0<(t::T).length from iQ _)];rfl
 ·rw[ah h,ah h,ED h,List.take_succ_cons,cj,aG];congr 1;congr 1;by_cases g:mD T (m-t.sm)<T.length
  ·rw[aj g,aj (show mD T (m-t.sm)+1<(t::T).length by rw[aZ];omega)];rfl
  ·rw[ah g,ah (show¬mD T (m-t.sm)+1<(t::T).length by rw[aZ];omega)]
theorem xJ (t:Tr) (T:List Tr) (m r:Rat):qV (t::T) m r=if m<t.sm then Gr t r else qV T (m-t.sm) r:=by
 unfold qV;rw[n8];by_cases h:m<t.sm
 ·rw[aj h,aj h,aj (show 0<(t::T).length from iQ _)];rfl
 ·rw[ah h,ah h];by_cases g:mD T (m-t.sm)<T.length
  ·rw[aj g,aj (show mD T (m-t.sm)+1<(t::T).length by rw[aZ];omega)];rfl
  ·rw[ah g,ah (show¬mD T (m-t.sm)+1<(t::T).length by rw[aZ];omega)]
theorem uP (t:Tr) (T:List Tr) (m:Rat):r4 (t::T) m=if m<t.sm then t.sm-m else r4 T (m-t.sm):=by
 unfold r4;by_cases h:m<t.sm
 ·rw[aj h,Do h,n8,aj h];rfl
 ·rw[ah h,ED h,n8,ah h];rfl
def tP (T:List Tr) (m:Rat) (c:Int):Rat:=qU c (rJ T m)
def ys (T:List Tr) (m:Rat) (c:Int):Rat:=qU c (qV T m 1)
def Sc (T:List Tr) (m:Rat):Rat:=qs (rJ T m)
theorem oE (t:Tr) (T:List Tr) (m:Rat) (c:Int):tP (t::T) m c=if m<t.sm then qU c t.ps*(m/t.sm)else qU c t.ps+tP T (m-t.sm) c:=by
 unfold tP;rw[xV];split
 ·exact FR _ _ _
 ·exact yA _ _ _
theorem vq (t:Tr) (T:List Tr) (m:Rat) (c:Int):ys (t::T) m c=if m<t.sm then qU c t.ps*(1/t.sm)else ys T (m-t.sm) c:=by
 unfold ys;rw[xJ];split
 ·exact FR _ _ _
 ·rfl
theorem zZ (t:Tr) (T:List Tr) (m:Rat):Sc (t::T) m=if m<t.sm then qs t.ps*(m/t.sm)else qs t.ps+Sc T (m-t.sm):=by
 unfold Sc;rw[xV];split
 ·exact SP _ _
 ·exact E0 _ _
theorem CO (T:List Tr) (m r:Rat) (c:Int):qU c (qV T m r)=r*ys T m c:=by
 unfold ys qV;split
 ·rw[FR,FR,bT,bT];grind
 ·show(0:Rat)=r*0;grind
theorem A3 {b:Rat} (h:0<b):0<b⁻¹/\b*b⁻¹ =1:=⟨Rat.inv_pos.2 h,bW _ (wv h)⟩
theorem uc {a b:Rat} (h:0<b):b*(a/b)=a:=by
 have:=(A3 h).2;rw[bT];grind
theorem C5 {a b:Rat} (ha:0<=a) (hb:0<b):0<=a/b:=by rw[bT];exact nN ha (di (A3 hb).1)
theorem RK {a b:Rat} (h:a<=b) (hb:0<b):a/b<=1:=by
 obtain⟨h1,h2⟩:=A3 hb;have:=nT h (di h1);rw[bT];grind
theorem Pw {a b c:Rat} (h:a<=b) (hc:0<c):a/c<=b/c:=by
 have:=nT h (di (A3 hc).1);rw[bT,bT];grind
section
variable {T : List Tr} {m m' h : Rat} {c : Int}
theorem yR.hd {t:Tr} (hT:yR (t::T)):Ea t:=hT t (aH ..)
theorem yR.tl {t:Tr} (hT:yR (t::T)):yR T:=λx hx=>hT x (aJ _ hx)
theorem Ea.s0 {t:Tr} (h:Ea t):0<=t.sm:=by rw[h.s];exact S4 h.q
theorem Ea.a {t:Tr} (h:Ea t) (c:Int):0<=qU c t.ps/\qU c t.ps<=t.sm:=⟨Pq h.q,by rw[h.s];exact PE h.q⟩
theorem En:∀ {T:List Tr} {m:Rat},yR T->0<=m->0<=tP T m c
 | [],_,_,_=>bP
 |t::T,m,hT,hm=>by
  have a:=(hT.hd.a c).1;rw[oE];split
  ·next g=>exact nN a (C5 hm (by grind))
  ·have:=En (T:=T) (m:=m-t.sm) hT.tl (by grind);grind
theorem BS:∀ {T:List Tr} {m m':Rat},yR T->0<=m->m<=m'->tP T m c<=tP T m' c
 | [],_,_,_,_,_=>bP
 |t::T,m,m',hT,hm,hmm=>by
  have a:=(hT.hd.a c).1;rw[oE,oE];by_cases g:m<t.sm
  ·rw[aj g];by_cases g2:m'<t.sm
   ·rw[aj g2];exact nT (Pw hmm (by grind)) a
   ·rw[ah g2];have h1:=nT (RK (di g) (by grind)) a;have h2:=En (T:=T) (m:=m'-t.sm) (c:=c) hT.tl (by grind);grind
  ·rw[ah g,ah (by grind)];have:=BS (T:=T) (m:=m-t.sm) (m':=m'-t.sm) hT.tl (by grind) (by grind);grind
theorem OI:∀ {T:List Tr} {m:Rat},yR T->0<=m->Sc T m<=m
 | [],_,_,h=>h
 |t::T,m,hT,hm=>by
  have hs:=hT.hd.s;rw[zZ];split
  ·next g=>
   rw[<-hs,uc (by grind)];exact bP
  ·have:=OI (T:=T) (m:=m-t.sm) hT.tl (by grind);grind
theorem P6:∀ {T:List Tr} {m m':Rat},yR T->0<=m->m<=m'->Sc T m'-Sc T m<=m'-m
 | [],m,m',_,_,h=>by show(0:Rat)-0<=_;grind
 |t::T,m,m',hT,hm,hmm=>by
  have hs:=hT.hd.s;have e:∀x,0<=x->x<t.sm->qs t.ps*(x/t.sm)=x:=λx h0 g=>by rw[<-hs,uc (by grind)]
  rw[zZ,zZ];by_cases g:m<t.sm
  ·rw[aj g,e m hm g];by_cases g2:m'<t.sm
   ·rw[aj g2,e m' (by grind) g2];exact bP
   ·rw[ah g2];have:=OI (T:=T) (m:=m'-t.sm) hT.tl (by grind);grind
  ·rw[ah g,ah (by grind)];have:=P6 (T:=T) (m:=m-t.sm) (m':=m'-t.sm) hT.tl (by grind) (by grind);grind
theorem B3:∀ {T:List Tr},yR T->tP T 0 c=0
 | [],_=>rfl
 |t::T,hT=>by
  have a:=hT.hd.a c;rw[oE];split
  ·rw[bT];grind
  ·have e:t.sm=0:=by have:=hT.hd.s0;grind
   rw[e,show(0:Rat)-0=0 by grind,B3 (T:=T) hT.tl];grind
theorem zj:∀ {T:List Tr} {m:Rat},mD T m<T.length->0<r4 T m
 | [],_,h=>absurd h (aS _)
 |t::T,m,h=>by
  rw[uP];rw[n8]at h;split
  ·grind
  ·next g=>
   rw[ah g,aZ]at h;exact zj oO
theorem JP:∀ {T:List Tr} {m:Rat},yR T->0<=m->0<=h->mD T m<T.length->h<=r4 T m->tP T (m+h) c=tP T m c+h*ys T m c
 | [],_,_,_,_,hf,_=>absurd hf (aS _)
 |t::T,m,hT,hm,h0,hf,hg=>by
  rw[uP]at hg;rw[oE,oE,vq];by_cases g:m<t.sm
  ·rw[aj g]at hg;have hi:=(A3 (b:=t.sm) (by grind)).2;rw[aj g,aj g];split
   ·rw[bT,bT,bT];grind
   ·have e:m+h-t.sm=0:=by grind
    rw[e,B3 hT.tl,bT,bT];have:m+h=t.sm:=by grind
    grind
  ·rw[n8,ah g,aZ]at hf;rw[ah g]at hg;rw[ah g,ah g,ah (by grind),show m+h-t.sm=(m-t.sm)+h by grind,JP (T:=T) hT.tl (by grind) h0 oO hg];grind
theorem y0:∀ {T:List Tr} {m:Rat},0<=h->¬mD T m<T.length->tP T (m+h) c=tP T m c/\ys T m c=0
 | [],_,_,_=>⟨rfl,rfl⟩
 |t::T,m,h0,hf=>by
  rw[n8,aZ]at hf;rw[oE,oE,vq];by_cases g:m<t.sm
  ·rw[aj g]at hf;omega
  ·rw[ah g]at hf;obtain⟨e1,e2⟩:=y0 (T:=T) (m:=m-t.sm) h0 oO;rw[ah g,ah g,ah (by grind),show m+h-t.sm=(m-t.sm)+h by grind,e1];exact⟨rfl,e2⟩
theorem Hu:∀ {T:List Tr} {m:Rat},yR T->0<=m->0<=ys T m c
 | [],_,_,_=>bP
 |t::T,m,hT,hm=>by
  rw[vq];split
  ·next g=>exact nN (hT.hd.a c).1 (C5 dD (by grind))
  ·exact Hu hT.tl (by grind)
theorem Xd:∀ {T:List Tr} {m:Rat},yR T->0<=m->qs (qV T m 1)<=1
 | [],_,_,_=>by show(0:Rat)<=1;decide
 |t::T,m,hT,hm=>by
  rw[xJ];split
  ·next g=>
   rw[SP,<-hT.hd.s,uc (by grind)];decide
  ·exact Xd hT.tl (by grind)
theorem xw:∀ {T:List Tr} {m m':Rat},m<=m'->mD T m<=mD T m'
 | [],_,_,_=>aB _
 |t::T,m,m',hm=>by
  rw[n8,n8];by_cases g:m<t.sm
  ·rw[aj g];exact aw _
  ·rw[ah g,ah (by grind)];exact Nat.succ_le_succ (xw (by grind))
theorem Fk:∀ {T:List Tr} {m:Rat},mD T m<T.length->mD T m<mD T (m+r4 T m)
 | [],_,hf=>absurd hf (aS _)
 |t::T,m,hf=>by
  have gp:=zj hf;rw[uP]at gp⊢;rw[n8]at hf;rw[n8,n8];by_cases g:m<t.sm
  ·rw[aj g,aj g,ah (by grind)];exact iQ _
  ·rw[ah g]at hf gp⊢;rw[ah g,ah (by grind),show m+r4 T (m-t.sm)-t.sm=(m-t.sm)+r4 T (m-t.sm) by grind];rw[aZ]at hf;exact Nat.succ_lt_succ (Fk oO)
end
def nO {α:Type} (f:α->Rat):List α->Rat
 | []=>0
 |a::l=>f a+nO f l
section
variable {α : Type} {f g : α → Rat}
theorem sH (m:List α):∀l,nO f (l++m)=nO f l+nO f m
 | []=>by show nO f m=0+nO f m;grind
 |a::l=>by show f a+nO f (l++m)=f a+nO f l+nO f m;rw[sH m l];grind
theorem yG:∀ {l:List α},(∀a∈l,f a<=g a)->nO f l<=nO g l
 | [],_=>bP
 |a::l,h=>by
  have h1:=h a (aH ..);have h2:=yG λa ha=>h a (aJ _ ha);show f a+nO f l<=g a+nO g l;grind
theorem n5:∀ {l:List α},(∀a∈l,f a=g a)->nO f l=nO g l
 | [],_=>rfl
 |a::l,h=>by
  show f a+nO f l=g a+nO g l;rw[h a (aH ..),n5 λa ha=>h a (aJ _ ha)]
theorem Ap {l:List α} (h:∀a∈l,0<=f a):0<=nO f l:=by
 have h1:=yG (f:=λ_:α=>(0:Rat)) h;have h2:∀l:List α,nO (λ_=>(0:Rat)) l=0:=λl=>by
  induction l with
  |nil=>rfl
  |cons a l ih=>show(0:Rat)+nO (λ_=>0) l=0;rw[ih];grind
 rwa[h2]at h1
theorem tO (f g:α->Rat) (t:Rat):∀l,nO (λa=>f a+t*g a) l=nO f l+t*nO g l
 | []=>by show(0:Rat)=0+t*0;grind
 |a::l=>by show f a+t*g a+nO _ l=f a+nO f l+t*(g a+nO g l);rw[tO f g t l];grind
theorem LW (f g:α->Rat) (l:List α):nO (λa=>f a-g a) l=nO f l-nO g l:=by
 have:=tO f g (-1) l;have e:nO (λa=>f a-g a) l=nO (λa=>f a+ -1*g a) l:=n5 λa _=>by grind
 rw[e,this];grind
theorem zc (a:α->Nat->Rat) (n:Nat):∀l,ku (λk=>nO (λp=>a p k) l) n=nO (λp=>ku (a p) n) l
 | []=>lJ λ_ _=>rfl
 |p::l=>by
  show ku (λk=>a p k+nO (λp=>a p k) l) n=_;rw[n4,zc a n l];rfl
end
theorem Ar (f:Nat->Rat):∀n,ku f (n+1)=f 0+ku (λi=>f (i+1)) n
 |0=>by show 0+f 0=f 0+0;grind
 |n+1=>by
  show ku f (n+1)+f (n+1)=f 0+(ku (λi=>f (i+1)) n+f (n+1));rw[Ar f n];grind
theorem K4 (f:Nat->Rat):∀l:List Nat,nO f l=ku (λb=>f (l.getD b 0)) l.length
 | []=>rfl
 |a::l=>by
  rw[aZ,Ar];show f a+nO f l=f a+ku (λb=>f (l.getD b 0)) l.length;rw[K4 f l]
theorem pe (mem:List Nat) (f:Nat->Rat):oJ mem f=nO f mem:=by
 have:∀(l:List Nat) (a:Rat),(l.map f).foldl (· + ·) a=a+nO f l:=by
  intro l;induction l with
  |nil=>intro a;show a=a+0;grind
  |cons b l ih=>intro a;show(l.map f).foldl (· + ·) (a+f b)=a+(f b+nO f l);rw[ih];grind
 unfold oJ;rw[this];grind
structure pY (y:Ly):Prop where
 rk:yR y.rk
 rp:∀t∈y.rk,∀p∈t.ps,zo y.n p
 ld:∀p∈y.pl,yR p.ld
 lp:∀p∈y.pl,∀t∈p.ld,∀q∈t.ps,zo y.n q
 nd:(y.pl.flatMap Pl.mem).Nodup
 mn:∀p∈y.pl,∀i∈p.mem,i<y.n
def PS (y:Ly) (m:Rat) (p:Pl):Rat:=oJ p.mem (lP y m)
def RS (y:Ly) (m:Rat) (p:Pl):Rat:=oJ p.mem (mH y m)
def dC (y:Ly) (m:Rat) (k:Nat):Rat:=(te y m y.pl.length).c k
def sC (y:Ly) (m:Rat) (k:Nat):Rat:=(ss y m y.pl.length).c k
theorem oS (y:Ly) (m:Rat) (k:Nat):lP y m k=tP y.rk m k:=by
 unfold lP;rw[Fi];show 0+_=_;unfold tP;grind
theorem tW (y:Ly) (m:Rat) (k:Nat):mH y m k=ys y.rk m k:=by
 unfold mH;rw[Fi];show 0+_=_;unfold ys;grind
theorem CJ {L:Pl->List Pa} (k:Nat):∀(l:List Pl) (s:Rs),(l.foldl (λs p=>rj s (L p)) s).c k=s.c k+nO (λp=>qU k (L p)) l
 | [],s=>by show s.c k=s.c k+0;grind
 |p::l,s=>by
  show(l.foldl (λs p=>rj s (L p)) (rj s (L p))).c k=s.c k+(qU k (L p)+nO _ l);rw[CJ k l,Fi];grind
theorem Jk {L:Pl->List Pa}:∀(l:List Pl) (s:Rs),(l.foldl (λs p=>rj s (L p)) s).r=s.r+nO (λp=>qU (-1) (L p)) l
 | [],s=>by show s.r=s.r+0;grind
 |p::l,s=>by
  show(l.foldl (λs p=>rj s (L p)) (rj s (L p))).r=s.r+(qU (-1) (L p)+nO _ l);rw[Jk l,Pd];grind
theorem yk (y:Ly) (m:Rat) (k:Nat):dC y m k=rG y (lP y m) k+nO (λp=>tP p.ld (PS y m p) k) y.pl:=by
 unfold dC te;rw[bO];exact CJ k _ _
theorem HS (y:Ly) (m:Rat) (k:Nat):sC y m k=rG y (mH y m) k+nO (λp=>RS y m p*ys p.ld (PS y m p) k) y.pl:=by
 have h:=CJ (L:=λp=>qV p.ld (oJ p.mem (lP y m)) (oJ p.mem (mH y m))) k y.pl ⟨rG y (mH y m),0⟩;unfold sC ss;rw[bO];show(y.pl.foldl (λs p=>rj s (qV p.ld (oJ p.mem (lP y m)) (oJ p.mem (mH y m)))) ⟨rG y (mH y m),0⟩).c k=_;rw[h];congr 1;exact n5 λp _=>CO _ _ _ _
section
variable {y : Ly} {m m' h : Rat} {k : Nat}
theorem pH (y:Ly) (f:Nat->Rat) (k:Nat):rG y f k=if k∈y.pl.flatMap Pl.mem then 0 else f k:=rfl
theorem zX (hy:pY y) (f:Nat->Rat):ku (rG y f) y.n+nO (λp=>oJ p.mem f) y.pl=ku f y.n:=by
 have h1:nO (λp=>oJ p.mem f) y.pl=nO f (y.pl.flatMap Pl.mem):=by
  have:∀l:List Pl,nO (λp=>oJ p.mem f) l=nO f (l.flatMap Pl.mem):=λl=>by
   induction l with
   |nil=>rfl
   |cons p l ih=>rw[cj,sH,<-ih,<-pe];rfl
  exact this _
 have h2:=FB (C:=y.pl.flatMap Pl.mem) hy.nd (n:=y.n) (λc hc=>by
  obtain⟨p,hp,hc⟩:=dK.1 hc;exact hy.mn p hp c hc) (λk=>if k∈y.pl.flatMap Pl.mem then f k else 0) λi hi=>ah hi
 rw[h1,K4 f];have h3:ku (λb=>f ((y.pl.flatMap Pl.mem).getD b 0)) (y.pl.flatMap Pl.mem).length=ku (λb=>if(y.pl.flatMap Pl.mem).getD b 0∈y.pl.flatMap Pl.mem then f ((y.pl.flatMap Pl.mem).getD b 0)else 0) (y.pl.flatMap Pl.mem).length:=kz λb hb=>(aj (pI hb)).symm;rw[h3,<-h2,<-n4];refine kz λi _=> ?_;rw[pH];split<;>grind
theorem zK (hy:pY y) (hm:0<=m):0<=lP y m k:=by rw[oS];exact En hy.rk hm
theorem CF (hy:pY y) (hm:0<=m) (hmm:m<=m'):lP y m k<=lP y m' k:=by rw[oS,oS];exact BS hy.rk hm hmm
theorem zO (hy:pY y) (hm:0<=m):0<=mH y m k:=by rw[tW];exact Hu hy.rk hm
theorem ti (hy:pY y) (hm:0<=m) (p:Pl):0<=PS y m p:=by unfold PS;rw[pe];exact Ap λa _=>zK hy hm
theorem BD (hy:pY y) (hm:0<=m) (hmm:m<=m') (p:Pl):PS y m p<=PS y m' p:=by unfold PS;rw[pe,pe];exact yG λa _=>CF hy hm hmm
theorem ER (hy:pY y) (hm:0<=m) (p:Pl):0<=RS y m p:=by unfold RS;rw[pe];exact Ap λa _=>zO hy hm
theorem Wb (hy:pY y) (hm:0<=m):0<=dC y m k:=by
 rw[yk,pH];have h1:=zK (k:=k) hy hm;have h2:=Ap (f:=λp=>tP p.ld (PS y m p) k) (l:=y.pl) λp hp=>En (hy.ld p hp) (ti hy hm p);split<;>grind
theorem Rj (hy:pY y) (hm:0<=m) (hmm:m<=m'):dC y m k<=dC y m' k:=by
 rw[yk y m k,yk y m' k,pH y _ k,pH y _ k];have h1:=CF (k:=k) hy hm hmm;have h2:nO (λp=>tP p.ld (PS y m p) k) y.pl<=nO (λp=>tP p.ld (PS y m' p) k) y.pl:=yG λp hp=>BS (hy.ld p hp) (ti hy hm p) (BD hy hm hmm p);split<;>grind
theorem VJ (hy:pY y) (hm:0<=m):0<=sC y m k:=by
 rw[HS,pH];have h1:=zO (k:=k) hy hm;have h2:=Ap (f:=λp=>RS y m p*ys p.ld (PS y m p) k) (l:=y.pl) λp hp=>nN (ER hy hm p) (Hu (hy.ld p hp) (ti hy hm p));split<;>grind
theorem BF {n:Nat}:∀ {T:List Tr} {m:Rat},(∀t∈T,∀p∈t.ps,zo n p)->∀p∈rJ T m,zo n p
 | [],_,_,p,hp=>by
  have hp:p∈([]:List Pa):=hp;cases hp
 |t::T,m,hT,p,hp=>by
  rw[xV]at hp;split at hp
  ·obtain⟨q,hq,rfl⟩:=ca.1 hp;exact hT t (aH ..) q hq
  ·rcases bN.1 hp with hp|hp
   ·exact hT t (aH ..) p hp
   ·exact BF (λt ht=>hT t (aJ _ ht)) p hp
theorem Kg {n:Nat} {r:Rat}:∀ {T:List Tr} {m:Rat},(∀t∈T,∀p∈t.ps,zo n p)->∀p∈qV T m r,zo n p
 | [],_,_,p,hp=>by
  have hp:p∈([]:List Pa):=hp;cases hp
 |t::T,m,hT,p,hp=>by
  rw[xJ]at hp;split at hp
  ·obtain⟨q,hq,rfl⟩:=ca.1 hp;exact hT t (aH ..) q hq
  ·exact Kg (λt ht=>hT t (aJ _ ht)) p hp
theorem PW {n:Nat} {T:List Tr} (hT:yR T) (hp:∀t∈T,∀p∈t.ps,zo n p) (hm:0<=m) (hmm:m<=m'):ku (λk=>tP T m' k) n-ku (λk=>tP T m k) n<=m'-m:=by
 have h1:=zG (n:=n) (l:=rJ T m) (BF hp);have h2:=zG (n:=n) (l:=rJ T m') (BF hp);have h3:=P6 hT hm hmm;have h4:=BS (c:= -1) hT hm hmm;unfold Sc at h3;unfold tP at h4;show ku (λk:Nat=>qU k (rJ T m')) n-ku (λk:Nat=>qU k (rJ T m)) n<=_;grind
theorem Px {n:Nat} {T:List Tr} (hT:yR T) (hp:∀t∈T,∀p∈t.ps,zo n p) (hm:0<=m):ku (λk=>ys T m k) n<=1:=by
 have h1:=zG (n:=n) (l:=qV T m 1) (Kg hp);have h3:=Xd hT hm;have h4:=Hu (c:= -1) hT hm;unfold ys at h4;show ku (λk:Nat=>qU k (qV T m 1)) n<=_;grind
theorem TP (hy:pY y) (hm:0<=m) (hmm:m<=m'):ku (dC y m') y.n-ku (dC y m) y.n<=m'-m:=by
 have e:∀m,ku (dC y m) y.n=ku (rG y (lP y m)) y.n+nO (λp=>ku (λk=>tP p.ld (PS y m p) k) y.n) y.pl:=λm=>by
  rw[<-zc (λp k=>tP p.ld (PS y m p) k),<-n4];exact kz λk _=>yk y m k
 have h1:nO (λp=>ku (λk=>tP p.ld (PS y m' p) k) y.n-ku (λk=>tP p.ld (PS y m p) k) y.n) y.pl<=nO (λp=>PS y m' p-PS y m p) y.pl:=
  yG λp hp=>PW (hy.ld p hp) (hy.lp p hp) (ti hy hm p) (BD hy hm hmm p)
 rw[LW,LW]at h1;have h2:=zX hy (lP y m);have h3:=zX hy (lP y m');have h4:=PW hy.rk hy.rp hm hmm;have h5:∀m,ku (lP y m) y.n=ku (λk=>tP y.rk m k) y.n:=λm=>kz λk _=>oS y m k;have h6:∀m,nO (λp=>oJ p.mem (lP y m)) y.pl=nO (λp=>PS y m p) y.pl:=λm=>rfl;rw[h5,h6]at h2 h3;rw[e,e];grind
theorem Ut (hy:pY y) (hm:0<=m):ku (sC y m) y.n<=1:=by
 have e:ku (sC y m) y.n=ku (rG y (mH y m)) y.n+nO (λp=>ku (λk=>RS y m p*ys p.ld (PS y m p) k) y.n) y.pl:=by
  rw[<-zc (λp k=>RS y m p*ys p.ld (PS y m p) k),<-n4];exact kz λk _=>HS y m k
 have h1:nO (λp=>ku (λk=>RS y m p*ys p.ld (PS y m p) k) y.n) y.pl<=nO (λp=>RS y m p) y.pl:=yG λp hp=>by
  rw[qR];have:=nT (Px (hy.ld p hp) (hy.lp p hp) (ti hy hm p)) (ER hy hm p);grind
 have h2:=zX hy (mH y m);have h4:=Px hy.rk hy.rp hm;have h5:ku (mH y m) y.n=ku (λk=>ys y.rk m k) y.n:=kz λk _=>tW y m k;have h6:nO (λp=>oJ p.mem (mH y m)) y.pl=nO (λp=>RS y m p) y.pl:=rfl;rw[h5,h6]at h2;rw[e];grind
theorem Cq (y:Ly) (m:Rat):∀(l:List Pl) (o:Rat),l.foldl (tH y m) o<=o/\(∀p∈l,zl y m p->l.foldl (tH y m) o<=yh y m p)/\(l.foldl (tH y m) o=o\/∃p,p∈l/\zl y m p/\l.foldl (tH y m) o=yh y m p)
 | [],o=>⟨bP,λ_ h=>by(cases h),.inl rfl⟩
 |p::l,o=>by
  obtain⟨h1,h2,h3⟩:=Cq y m l (tH y m o p);have e:tH y m o p<=o/\(zl y m p->tH y m o p<=yh y m p)/\(tH y m o p=o\/zl y m p/\tH y m o p=yh y m p):=by
   unfold tH;by_cases g:zl y m p
   ·rw[aj g];unfold z6;split
    ·exact⟨by grind,λ_=>by grind,.inl rfl⟩
    ·exact⟨by grind,λ_=>bP,.inr ⟨g,rfl⟩⟩
   ·rw[ah g];exact⟨bP,λh=>absurd h g,.inl rfl⟩
  show l.foldl (tH y m) (tH y m o p)<=o/\_/\_;refine⟨by grind,λq hq hc=> ?_,?_⟩
  ·rcases bM.1 hq with rfl|hq
   ·have:=e.2.1 hc;show l.foldl (tH y m) (tH y m o q)<=_;grind
   ·exact h2 q hq hc
  ·show l.foldl (tH y m) (tH y m o p)=o\/∃q,q∈p::l/\zl y m q/\l.foldl (tH y m) (tH y m o p)=yh y m q;rcases h3 with h3|⟨q,hq,hc,h3⟩
   ·rw[h3];rcases e.2.2 with e|⟨e1,e2⟩
    ·exact .inl e
    ·exact .inr ⟨p,aH ..,e1,e2⟩
   ·exact .inr ⟨q,aJ _ hq,hc,h3⟩
def CD (y:Ly) (m:Rat):Rat:=xk y m y.pl.length
theorem uS (y:Ly) (m:Rat):CD y m<=r4 y.rk m/\(∀p∈y.pl,zl y m p->CD y m<=yh y m p)/\(CD y m=r4 y.rk m\/∃p,p∈y.pl/\zl y m p/\CD y m=yh y m p):=by
 have:=Cq y m y.pl (r4 y.rk m);unfold CD xk;rw[bO];exact this
theorem Hy {p:Pl} (hc:zl y m p):yh y m p*RS y m p=r4 p.ld (PS y m p):=by
 have:=uc (a:=r4 p.ld (PS y m p)) hc.2;rw[gC]at this;exact this
theorem GG (hf:mD y.rk m<y.rk.length):0<CD y m:=by
 obtain⟨_,_,h⟩:=uS y m;rcases h with h|⟨p,hp,hc,h⟩
 ·rw[h];exact zj hf
 ·rw[h];unfold yh;rw[bT];exact CI (zj hc.1) (A3 hc.2).1
theorem EX (hy:pY y) (hm:0<=m) (h0:0<=h) (hs:mD y.rk m<y.rk.length->h<=CD y m):lP y (m+h) k=lP y m k+h*mH y m k:=by
 rw[oS,oS,tW];by_cases hf:mD y.rk m<y.rk.length
 ·exact JP hy.rk hm h0 hf (by have:=(uS y m).1;have:=hs hf;grind)
 ·obtain⟨e1,e2⟩:=y0 (c:=k) h0 hf;rw[e1,e2];grind
theorem Pb (hy:pY y) (hm:0<=m) (h0:0<=h) (hs:mD y.rk m<y.rk.length->h<=CD y m) (p:Pl):PS y (m+h) p=PS y m p+h*RS y m p:=by
 unfold PS RS;rw[pe,pe,pe,<-tO];exact n5 λa _=>EX hy hm h0 hs
theorem Kk (hf:¬mD y.rk m<y.rk.length) (p:Pl):RS y m p=0:=by
 unfold RS;rw[pe,n5 (g:=λ_=>(0:Rat)+0*0) λa _=> ?_]
 ·rw[tO (λ_=>(0:Rat)) (λ_=>0) 0];have:=tO (λ_:Nat=>(0:Rat)) (λ_=>0) 1 p.mem;have e:nO (λa:Nat=>(0:Rat)+1*0) p.mem=nO (λ_=>0) p.mem:=n5 λ_ _=>by grind
  rw[e]at this;grind
 ·rw[tW,(y0 (h:=0) (c:=a) dD hf).2];grind
theorem OX (hy:pY y) (hm:0<=m) (h0:0<=h) (hs:mD y.rk m<y.rk.length->h<=CD y m) {p:Pl} (hp:p∈y.pl) (c:Int):tP p.ld (PS y (m+h) p) c=tP p.ld (PS y m p) c+h*(RS y m p*ys p.ld (PS y m p) c):=by
 have hr:=ER hy hm p;have hhr:=nN h0 hr;rw[Pb hy hm h0 hs];by_cases hl:mD p.ld (PS y m p)<p.ld.length
 ·rw[JP (hy.ld p hp) (ti hy hm p) hhr hl ?_]
  ·grind
  ·have gp:=zj hl;by_cases hr0:0<RS y m p
   ·by_cases hf:mD y.rk m<y.rk.length
    ·have hc:zl y m p:=⟨hl,hr0⟩;have h1:=(uS y m).2.1 p hp hc;have h2:=Hy hc;have h3:=hs hf;have h4:=nT (show h<=yh y m p by grind) hr;grind
    ·rw[Kk hf]at hr0;exact absurd hr0 dy
   ·have:RS y m p=0:=by grind
    rw[this];grind
 ·obtain⟨e1,e2⟩:=y0 (c:=c) hhr hl;rw[e1,e2];grind
theorem Pm (hy:pY y) (hm:0<=m) (h0:0<=h) (hs:mD y.rk m<y.rk.length->h<=CD y m):dC y (m+h) k=dC y m k+h*sC y m k:=by
 rw[yk,yk,HS,pH,pH,pH,EX hy hm h0 hs,n5 λp hp=>OX hy hm h0 hs hp k,tO];split<;>grind
theorem RG (hf:¬mD y.rk m<y.rk.length):sC y m k=0:=by
 rw[HS,pH,tW,(y0 (h:=0) (c:=k) dD hf).2];have:nO (λp=>RS y m p*ys p.ld (PS y m p) k) y.pl=nO (λ_=>0) y.pl:=n5 λp _=>by rw[Kk hf,eD]
 rw[this];have h1:=tO (λ_:Pl=>(0:Rat)) (λ_=>0) 1 y.pl;have e:nO (λa:Pl=>(0:Rat)+1*0) y.pl=nO (λ_=>0) y.pl:=n5 λ_ _=>by grind
 rw[e]at h1;split<;>grind
def wB (y:Ly) (m:Rat):Nat:=(y.rk.length-mD y.rk m)+(y.pl.map λp=>p.ld.length-mD p.ld (PS y m p)).sum
theorem Fo {f g:Pl->Nat}:∀ {l:List Pl},(∀p∈l,f p<=g p)->(l.map f).sum<=(l.map g).sum/\((∃p,p∈l/\f p<g p)->(l.map f).sum<(l.map g).sum)
 | [],_=>⟨aB _,λ⟨_,h,_⟩=>by cases h⟩
 |a::l,h=>by
  obtain⟨h1,h2⟩:=Fo (l:=l) λp hp=>h p (aJ _ hp);have h3:=h a (aH ..);rw[cJ,cJ,iF,iF];refine⟨oO,λ⟨p,hp,hlt⟩=> ?_⟩;rcases bM.1 hp with rfl|hp
  ·omega
  ·have:=h2 ⟨p,hp,hlt⟩;omega
theorem Hh (hy:pY y) (hm:0<=m) (hmm:m<=m'):wB y m'<=wB y m:=by
 have h1:=xw (T:=y.rk) hmm;have h2:=(Fo (f:=λp=>p.ld.length-mD p.ld (PS y m' p)) (g:=λp=>p.ld.length-mD p.ld (PS y m p)) (l:=y.pl) λp _=>by
  have:=xw (T:=p.ld) (BD hy hm hmm p);omega).1
 unfold wB;omega
theorem Hz (hy:pY y) (hm:0<=m) (hf:mD y.rk m<y.rk.length):wB y (m+CD y m)<wB y m:=by
 have hp:=GG hf;have hmm:m<=m+CD y m:=by grind
 have h1:=xw (T:=y.rk) hmm;have h2:=Fo (f:=λp=>p.ld.length-mD p.ld (PS y (m+CD y m) p)) (g:=λp=>p.ld.length-mD p.ld (PS y m p)) (l:=y.pl) λp _=>by
  have:=xw (T:=p.ld) (BD hy hm hmm p);omega
 unfold wB;rcases(uS y m).2.2 with e|⟨p,hp',hc,e⟩
 ·have:=Fk hf;rw[<-e]at this;have:=h2.1;have:=tJ y.rk (m+CD y m);omega
 ·have h3:=Pb hy hm (di hp) (λ_=>bP) p;have h4:=Hy hc;rw[<-e]at h4;rw[h4]at h3;have h5:=Fk hc.1;have h6:mD p.ld (PS y m p)<mD p.ld (PS y (m+CD y m) p):=by rw[h3];exact h5
  have:=tJ p.ld (PS y (m+CD y m) p);have:=h2.2 ⟨p,hp',by show _-_<_-_;omega⟩;omega
theorem Im (hy:pY y) {m0:Rat} (h0:0<=m0):∀(f:Nat) (m:Rat),m0<=m->(∀k,k<y.n->sC y m k=sC y m0 k)->(∀m'',m0<=m''->m''<=m->∀k,k<y.n->dC y m'' k=dC y m0 k+(m''-m0)*sC y m0 k)->wB y m<f->
  match GM y m0 f m with
  |some z=>m0<z/\wB y z<wB y m0/\∀m'',m0<=m''->m''<=z->∀k,k<y.n->dC y m'' k=dC y m0 k+(m''-m0)*sC y m0 k
  |none=>(∀k,k<y.n->sC y m0 k=0)/\∀m'',m0<=m''->∀k,k<y.n->dC y m'' k=dC y m0 k+(m''-m0)*sC y m0 k
 |0,_,_,_,_,hmu=>absurd hmu (aS _)
 |f+1,m,hmm,hs,hl,hmu=>by
  have hm:0<=m:=by grind
  unfold GM;by_cases hf:mD y.rk m<y.rk.length
  ·have hp:=GG hf;have hst:=Hz hy hm hf;have hmo:=Hh hy h0 hmm;have hl2:∀m'',m0<=m''->m''<=z8 y m->∀k,k<y.n->dC y m'' k=dC y m0 k+(m''-m0)*sC y m0 k:=λm'' h1 h2 k hk=>by
    by_cases g:m''<=m
    ·exact hl m'' h1 g k hk
    ·have h3:m''<=m+CD y m:=h2;have e:=Pm (k:=k) (h:=m''-m) hy hm (by grind) (λ_=>by grind);rw[show m+(m''-m)=m'' by grind,hl m hmm bP k hk,hs k hk]at e;grind
   rw[aj hf];by_cases he:Fg y (z8 y m)=Fg y m0/\Lv y (z8 y m)=Lv y m0
   ·rw[aj he];have hmu2:wB y (z8 y m)<wB y m:=hst;have hmn:m<z8 y m:=by show m<m+CD y m;grind
    refine Im hy h0 f (z8 y m) (by grind) (λk hk=> ?_) hl2 oO;have h1:(Lv y (z8 y m)).getD k kZ=(Lv y m0).getD k kZ:=by rw[he.2]
    unfold Lv at h1;rw[kB _ _ hk,kB _ _ hk]at h1;have h2:=bB toQ h1;rw[toQ_ofQ,toQ_ofQ]at h2;exact h2
   ·rw[ah he];have hmu2:wB y (z8 y m)<wB y m:=hst;exact⟨by show m0<m+CD y m;grind,oO,hl2⟩
  ·rw[ah hf];have hz:∀k,k<y.n->sC y m0 k=0:=λk hk=>by rw[<-hs k hk];exact RG hf
   refine⟨hz,λm'' h1 k hk=> ?_⟩;by_cases g:m''<=m
   ·exact hl m'' h1 g k hk
   ·have e:=Pm (k:=k) (h:=m''-m) hy hm (by grind) (λh=>absurd h hf);rw[show m+(m''-m)=m'' by grind,hl m hmm bP k hk,hs k hk]at e;grind
theorem FN (hy:pY y) {m0:Rat} (h0:0<=m0) {f:Nat} (hf:wB y m0<f):
  match GM y m0 f m0 with
  |some z=>m0<z/\wB y z<wB y m0/\∀m'',m0<=m''->m''<=z->∀k,k<y.n->dC y m'' k=dC y m0 k+(m''-m0)*sC y m0 k
  |none=>(∀k,k<y.n->sC y m0 k=0)/\∀m'',m0<=m''->∀k,k<y.n->dC y m'' k=dC y m0 k+(m''-m0)*sC y m0 k:=
 Im hy h0 f m0 bP (λ_ _=>rfl) (λm'' h1 h2 k _=>by
  have:m''=m0:=by grind
  rw[this];grind) hf
theorem KA (hy:pY y):dC y 0 k=0:=by
 have hg:∀a,lP y 0 a=0:=λa=>by rw[oS];exact B3 hy.rk
 have hP:∀p,PS y 0 p=0:=λp=>by
  unfold PS;rw[pe,n5 (g:=λ_=>(0:Rat)) λa _=>hg a];have h1:=tO (λ_:Nat=>(0:Rat)) (λ_=>0) 1 p.mem;have e:nO (λa:Nat=>(0:Rat)+1*0) p.mem=nO (λ_=>0) p.mem:=n5 λ_ _=>by grind
  rw[e]at h1;grind
 rw[yk,pH,hg,n5 (g:=λ_=>(0:Rat)) λp hp=>by rw[hP];exact B3 (hy.ld p hp)];have h1:=tO (λ_:Pl=>(0:Rat)) (λ_=>0) 1 y.pl;have e:nO (λa:Pl=>(0:Rat)+1*0) y.pl=nO (λ_=>0) y.pl:=n5 λ_ _=>by grind
 rw[e]at h1;split<;>grind
end
section
variable {W h : Rat} {q q' s : Nat → Rat} {n k : Nat}
theorem na (a:Rat):pQ a=a/\0<=a\/pQ a=0/\a<=0:=by
 unfold pQ DO;split<;>grind
theorem pS (hq:∀j,j<k->0<=q j):oC q k=ku q k:=kz λj hj=>by
 have:=hq j hj;rcases na (q j)with h|h<;>grind
theorem qw (W:Rat) (q:Nat->Rat):∀k,wM W q k=pQ (oC q k-pQ W)
 |0=>by
  show 0=pQ (0-pQ W);rcases na W with h|h<;>rcases na (0-pQ W)with h2|h2<;>grind
 |k+1=>rfl
theorem tZ (W:Rat) (q:Nat->Rat) (hs:∀j,j<k->0<=s j):yc W q s k=(if pQ W<=oC q k then 1 else 0)*ku s k:=by
 cases k with
 |zero=>show(0:Rat)=_*0;grind
 |succ k=>
  show(if pQ W<=oC q (k+1)then oC s (k+1)else 0)=_;rw[pS hs];split<;>grind
theorem xN (W:Rat) (q:Nat->Rat):∀n,ku (tX W q) n=wM W q n
 |0=>rfl
 |n+1=>by
  show ku (tX W q) n+(wM W q (n+1)-wM W q n)=_;rw[xN W q n];grind
theorem ux (W:Rat) (q s:Nat->Rat):∀n,ku (DK W q s) n=yc W q s n
 |0=>rfl
 |n+1=>by
  show ku (DK W q s) n+(yc W q s (n+1)-yc W q s n)=_;rw[ux W q s n];grind
theorem Sp (h1:∀j,j<n->0<=q j) (h2:∀j,j<n->q j<=q' j) (hk:k<n):tX W q k<=tX W q' k:=by
 have a:=oI (n:=k) λj hj=>h2 j oO;have b:=h2 k hk;have c:=h1 k hk;unfold tX;rw[qw,qw,qw,qw,pS λj hj=>h1 j oO,pS λj hj=>h1 j oO,pS λj hj=>eW (h1 j oO) (h2 j oO),pS λj hj=>eW (h1 j oO) (h2 j oO)];have e1:ku q (k+1)=ku q k+q k:=rfl;have e2:ku q' (k+1)=ku q' k+q' k:=rfl;rw[e1,e2];generalize ku q k=x at*;generalize ku q' k=y at*;generalize pQ W=w at*;rcases na (x+q k-w)with g1|g1<;>rcases na (x-w)with g2|g2<;>rcases na (y+q' k-w)with g3|g3<;>rcases na (y-w)with g4|g4<;>grind
theorem VB (h1:∀j,j<n->0<=q j) (hk:k<n):0<=tX W q k:=by
 have a:=nU (n:=k) λj hj=>h1 j oO;have c:=h1 k hk;unfold tX;rw[qw,qw,pS λj hj=>h1 j oO,pS λj hj=>h1 j oO];have e1:ku q (k+1)=ku q k+q k:=rfl;rw[e1];generalize ku q k=x at*;generalize pQ W=w at*;rcases na (x+q k-w)with g1|g1<;>rcases na (x-w)with g2|g2<;>grind
def yI (W:Rat) (q:Nat->Rat) (n:Nat):Rat:=ku q n-ku (tX W q) n
theorem Mj (h1:∀j,j<n->0<=q j) (h2:∀j,j<n->q j<=q' j):yI W q n<=yI W q' n:=by
 have a:=oI h2;unfold yI;rw[xN,xN,qw,qw,pS h1,pS λj hj=>eW (h1 j hj) (h2 j hj)];generalize ku q n=x at*;generalize ku q' n=y at*;generalize pQ W=w at*;rcases na (x-w)with g2|g2<;>rcases na (y-w)with g4|g4<;>grind
theorem We (h1:∀j,j<n->0<=q j):0<=yI W q n:=by
 have a:=nU h1;have b:0<=pQ W:=by rcases na W with g|g<;>grind
 unfold yI;rw[xN,qw,pS h1];generalize ku q n=x at*;generalize pQ W=w at*;rcases na (x-w)with g2|g2<;>grind
theorem Vs (h1:∀j,j<n->0<=q j) (hs:∀j,j<n->0<=s j) (hk:k<n):0<=DK W q s k:=by
 have a:=nU (n:=k) λj hj=>hs j oO;have b:=hs k hk;have c:=h1 k hk;unfold DK;rw[tZ W q λj hj=>hs j oO,tZ W q λj hj=>hs j oO,pS λj hj=>h1 j oO,pS λj hj=>h1 j oO];have e1:ku q (k+1)=ku q k+q k:=rfl;have e2:ku s (k+1)=ku s k+s k:=rfl;rw[e1,e2];generalize ku q k=x at*;generalize ku s k=y at*;generalize pQ W=w at*;by_cases g1:w<=x
 ·rw[aj g1,aj (by grind)];grind
 ·rw[ah g1];split<;>grind
def Ec (W:Rat) (q s:Nat->Rat) (n:Nat):Rat:=ku s n-ku (DK W q s) n
theorem Td (hs:∀j,j<n->0<=s j):0<=Ec W q s n:=by
 have a:=nU hs;unfold Ec;rw[ux,tZ W q hs];split<;>grind
theorem UA (h1:∀j,j<n->0<=q j) (hs:∀j,j<n->0<=s j) (h0:0<=h) (hl:∀k,k<n->0<pQ W-ku q (k+1)->0<ku s (k+1)->h*ku s (k+1)<=pQ W-ku q (k+1)) (hk:k<=n):
  wM W (λj=>q j+h*s j) k=wM W q k+h*yc W q s k:=by
 have a:=nU (n:=k) λj hj=>hs j oO;rw[qw,qw,tZ W q λj hj=>hs j oO,pS λj hj=>h1 j oO,pS λj hj=>by
  have b:=h1 j oO;have c:=nN h0 (hs j oO);grind,nx]
 have hl2:0<pQ W-ku q k->0<ku s k->h*ku s k<=pQ W-ku q k:=by
  cases k with
  |zero=>intro _ g;exact absurd g dy
  |succ k=>exact hl k oO
 have hha:=nN h0 a;generalize ku q k=x at*;generalize ku s k=y at*;generalize pQ W=w at*;by_cases g1:w<=x
 ·rw[aj g1];rcases na (x-w)with g2|g2<;>rcases na (x+h*y-w)with g3|g3<;>grind
 ·rw[ah g1];by_cases g4:0<y
  ·have:=hl2 (by grind) g4;rcases na (x-w)with g2|g2<;>rcases na (x+h*y-w)with g3|g3<;>grind
  ·have e:y=0:=by grind
   rw[e];rcases na (x-w)with g2|g2<;>rcases na (x+h*0-w)with g3|g3<;>grind
end
theorem tL {α:Type} (f:α->Rat) (r:Nat->List α):∀k,nO f (mT r k)=ku (λi=>nO f (r i)) k
 |0=>rfl
 |k+1=>by rw[pd,sH,tL f r k];rfl
theorem G8 {α:Type} (f:α->Rat) (d:α):∀l:List α,nO f l=ku (λb=>f (l.getD b d)) l.length
 | []=>rfl
 |a::l=>by
  rw[aZ,Ar];show f a+nO f l=f a+ku (λb=>f (l.getD b d)) l.length;rw[G8 f d l]
theorem SO (a b:Nat):∀(T:List JJ) (M:Mx),T.foldl (λM o=>rV M o.1 o.2.1 o.2.2) M a b=M a b+nO (λo=>if o.1=a/\o.2.1=b then o.2.2 else 0) T
 | [],M=>by show M a b=M a b+0;grind
 |o::T,M=>by
  show T.foldl (λM o=>rV M o.1 o.2.1 o.2.2) (rV M o.1 o.2.1 o.2.2) a b=M a b+((if o.1=a/\o.2.1=b then o.2.2 else 0)+nO _ T);rw[SO a b T];have:rV M o.1 o.2.1 o.2.2 a b=M a b+if o.1=a/\o.2.1=b then o.2.2 else 0:=by
   unfold rV;by_cases h:a=o.1/\b=o.2.1
   ·rw[aj h,aj ⟨h.1.symm,h.2.symm⟩,h.1,h.2]
   ·rw[ah h,ah λg=>h ⟨g.1.symm,g.2.symm⟩];grind
  rw[this];grind
def pT (g:nq) (B:Nat->Nat->Bool) (v:Nat->Nat->Rat) (j i:Nat):Rat:=ku (λc=>if(g.c i c).h=(j:Int)/\B i c=false then v i c else 0) (g.cn i)
def pA (g:nq) (d j:Nat) (r:Nat->Rat) (s:Rat):Rat:=ku (λk=>if(g.lg d k).1=j then r k else 0) (mJ g d)+if 0<mJ g d/\HI g d=(j:Int)then s else 0
def F0 (g:nq) (B:Nat->Nat->Bool) (dl:Nat->Nat->Rat) (j:Nat):Rat:=
 ku (pT g B dl j) g.n+ku (λd=>pA g d j (tX (g.d d).W (qD g dl d)) (yI (g.d d).W (qD g dl d) (mJ g d))) g.ds.length
section
variable {g : nq} {B : Nat → Nat → Bool} {v v' : Nat → Nat → Rat} {j i d : Nat} {r r' : Nat → Rat} {s s' t : Rat}
theorem GX (g:nq) (B:Nat->Nat->Bool) (v v':Nat->Nat->Rat) (t:Rat) (j i:Nat):pT g B (λi c=>v i c+t*v' i c) j i=pT g B v j i+t*pT g B v' j i:=by
 unfold pT;rw[<-nx];exact kz λc _=>by split<;>grind
theorem Sf (h:∀c,c<g.cn i->v i c<=v' i c):pT g B v j i<=pT g B v' j i:=oI λc hc=>by
 have:=h c hc;split<;>grind
theorem Lx (h:∀c,c<g.cn i->0<=v i c):0<=pT g B v j i:=nU λc hc=>by
 have:=h c hc;split<;>grind
theorem Cc (g:nq) (d j:Nat) (r r':Nat->Rat) (s s' t:Rat):pA g d j (λk=>r k+t*r' k) (s+t*s')=pA g d j r s+t*pA g d j r' s':=by
 unfold pA;have e:ku (λk=>if(g.lg d k).1=j then r k+t*r' k else 0) (mJ g d)=ku (λk=>if(g.lg d k).1=j then r k else 0) (mJ g d)+t*ku (λk=>if(g.lg d k).1=j then r' k else 0) (mJ g d):=by
  rw[<-nx];exact kz λc _=>by split<;>grind
 rw[e];split<;>grind
theorem yw (h:∀k,k<mJ g d->r k=r' k):pA g d j r s=pA g d j r' s:=by
 unfold pA;rw[kz λk hk=>by rw[h k hk]]
theorem Q4 (h:∀k,k<mJ g d->r k<=r' k) (hs:s<=s'):pA g d j r s<=pA g d j r' s':=by
 have a:=oI (f:=λk=>if(g.lg d k).1=j then r k else 0) (g:=λk=>if(g.lg d k).1=j then r' k else 0) (n:=mJ g d) λk hk=>by
  have:=h k hk;split<;>grind
 unfold pA;split<;>grind
theorem Ml (h:∀k,k<mJ g d->0<=r k) (hs:0<=s):0<=pA g d j r s:=by
 have a:=nU (f:=λk=>if(g.lg d k).1=j then r k else 0) (n:=mJ g d) λk hk=>by
  have:=h k hk;split<;>grind
 unfold pA;split<;>grind
theorem NW {n:Nat} {a:Nat->Rat} (x:Nat) (hx:x<n):ku (λj=>if x=j then a j else 0) n=a x:=by
 rw[nz (p:=x) hx λi _ hi=>ah λe=>hi e.symm,aj rfl]
theorem Mm {n:Nat} {a:Rat} (ha:0<=a) (x:Int) (p:Prop) [Decidable p]:ku (λj=>if x=(j:Int)/\p then a else 0) n<=if p then a else 0:=by
 by_cases hp:p
 ·rw[aj hp];by_cases hx:∃k:Nat,k<n/\x=k
  ·obtain⟨k,hk,e⟩:=hx;rw[nz (p:=k) hk λi _ hi=>ah λh=>hi oO];split
   ·exact bP
   ·exact ha
  ·rw[lJ λi hi=>ah λh=>hx ⟨i,hi,h.1⟩];exact ha
 ·rw[ah hp,lJ λi _=>ah λh=>hp h.2];exact bP
theorem G3 (h:∀c,c<g.cn i->0<=v i c) (n:Nat):ku (λj=>pT g B v j i) n<=ku (λc=>if B i c=false then v i c else 0) (g.cn i):=by
 unfold pT;rw[qc];exact oI λc hc=>Mm (h c hc) _ _
theorem HW {n:Nat} (hl:∀k,k<mJ g d->(g.lg d k).1<n) (hs:0<=s):ku (λj=>pA g d j r s) n<=ku r (mJ g d)+s:=by
 have e1:ku (λj=>ku (λk=>if(g.lg d k).1=j then r k else 0) (mJ g d)) n=ku r (mJ g d):=by
  rw[qc];exact kz λk hk=>NW (a:=λ_=>r k) _ (hl k hk)
 have e2:ku (λj=>if 0<mJ g d/\HI g d=(j:Int)then s else 0) n<=s:=by
  have h1:=Mm (n:=n) hs (HI g d) (0<mJ g d);have h2:ku (λj=>if 0<mJ g d/\HI g d=(j:Int)then s else 0) n=ku (λj=>if HI g d=(j:Int)/\0<mJ g d then s else 0) n:=kz λj _=>by simp only[and_comm]
  rw[h2];split at h1<;>grind
 unfold pA;rw[n4,e1];grind
end
def AL (g:nq):List (Nat×Nat):=mT (λd=>(g.d d).legs) g.ds.length
structure n7 (g:nq) (Y:Nat->Ly) (B:Nat->Nat->Bool):Prop where
 ly:∀i,i<g.n->pY (Y i)
 yn:∀i,i<g.n->(Y i).n=g.cn i
 cash:∀i,i<g.n->0<=Bu g i
 ho:NQ g
 lg:r6 g
 lb:∀i,i<g.n->∀c,c<g.cn i->(B i c=true↔(i,c)∈AL g)
 nd:(AL g).Nodup
theorem AM {g:nq} {p:Nat×Nat}:p∈AL g↔∃d,d<g.ds.length/\p∈(g.d d).legs:=by
 unfold AL mT;rw[dK];constructor
 ·rintro⟨d,h1,h2⟩;exact⟨d,cZ.1 h1,h2⟩
 ·rintro⟨d,h1,h2⟩;exact⟨d,cZ.2 h1,h2⟩
theorem UC (g:nq) (f:Nat->Nat->Rat):ku (λd=>ku (λk=>f (g.lg d k).1 (g.lg d k).2) (mJ g d)) g.ds.length=nO (λp=>f p.1 p.2) (AL g):=by
 unfold AL;rw[tL];exact kz λd _=>(G8 (λp:Nat×Nat=>f p.1 p.2) (0,0) (g.d d).legs).symm
theorem HK (n:Nat) (cn:Nat->Nat) (f:Nat->Nat->Rat):∀ {l:List (Nat×Nat)},l.Nodup->(∀p∈l,p.1<n/\p.2<cn p.1)->nO (λp=>f p.1 p.2) l=ku (λi=>ku (λc=>if(i,c)∈l then f i c else 0) (cn i)) n
 | [],_,_=>(lJ λi _=>lJ λc _=>by simp).symm
 |p::l,hn,hr=>by
  have hp:=(gY.1 hn).1;obtain⟨h1,h2⟩:=hr p (aH ..);show f p.1 p.2+nO _ l=_;rw[HK n cn f (gY.1 hn).2 λq hq=>hr q (aJ _ hq)];have e1:ku (λi=>ku (λc=>if(i,c)=p then f i c else 0) (cn i)) n=f p.1 p.2:=by
   rw[nz (p:=p.1) h1 λi _ hi=>lJ λc _=>ah λe=>hi (by rw[<-e]),nz (p:=p.2) h2 λc _ hc=>ah λe=>hc (by rw[<-e]),aj rfl]
  rw[<-e1,<-n4];refine kz λi _=> ?_;rw[<-n4];refine kz λc _=> ?_;by_cases e:(i,c)=p
  ·rw[aj e,ah (by rw[e];exact hp),aj (by rw[e];exact aH ..)];grind
  ·rw[ah e];by_cases e2:(i,c)∈l
   ·rw[aj e2,aj (aJ _ e2)];grind
   ·rw[ah e2,ah λh=>(bM.1 h).elim e e2];grind
theorem KD {g:nq} {Y:Nat->Ly} {B:Nat->Nat->Bool} (G:n7 g Y B) (f:Nat->Nat->Rat):ku (λd=>ku (λk=>f (g.lg d k).1 (g.lg d k).2) (mJ g d)) g.ds.length+ku (λi=>ku (λc=>if B i c=false then f i c else 0) (g.cn i)) g.n=ku (λi=>ku (f i) (g.cn i)) g.n:=by
 rw[UC,HK g.n g.cn f G.nd λp hp=> ?_,<-n4]
 ·refine kz λi hi=> ?_;rw[<-n4];refine kz λc hc=> ?_;have:=G.lb i hi c hc;by_cases e:(i,c)∈AL g
  ·rw[aj e,this.2 e,ah dD];grind
  ·rw[ah e,aj (by cases hb:B i c with|false=>rfl|true=>exact absurd (this.1 hb) e)];grind
 ·obtain⟨d,hd,hp⟩:=AM.1 hp;obtain⟨k,hk,e⟩:=dY hp;have h:=G.lg d hd k hk;have e2:g.lg d k=p:=by
   show(g.d d).legs.getD k (0,0)=p;rw[ak,aF hk,e];rfl
  rw[e2]at h;exact h
section
variable {W : Rat} {q : Nat → Rat} {s : Nat → Nat → Rat} {d : Nat → Rat} {n k : Nat}
theorem Fq (hs:∀i,i<n->∀j,j<k->0<=s i j) (hd:∀i,i<n->0<=d i):ku (λi=>d i*yc W q (s i) k) n=yc W q (λj=>ku (λi=>d i*s i j) n) k:=by
 rw[tZ W q λj hj=>nU λi hi=>nN (hd i hi) (hs i hi j hj),qc,<-qR];refine kz λi hi=> ?_;rw[tZ W q (hs i hi),qR];grind
theorem Un (hs:∀i,i<n->∀j,j<k+1->0<=s i j) (hd:∀i,i<n->0<=d i):ku (λi=>d i*DK W q (s i) k) n=DK W q (λj=>ku (λi=>d i*s i j) n) k:=by
 unfold DK;rw[<-Fq hs hd,<-Fq (k:=k) (λi hi j hj=>hs i hi j oO) hd,<-oQ];exact kz λi _=>by grind
theorem UL (hs:∀i,i<n->∀j,j<k->0<=s i j) (hd:∀i,i<n->0<=d i):ku (λi=>d i*Ec W q (s i) k) n=Ec W q (λj=>ku (λi=>d i*s i j) n) k:=by
 unfold Ec;rw[ux,<-Fq hs hd,qc,<-oQ];refine kz λi _=> ?_;rw[ux,qR];grind
end
section
variable {g : nq} {Y : Nat → Ly} {B : Nat → Nat → Bool} {dl sl dl' sl' : Nat → Nat → Rat}
theorem E8 (g:nq) (e j:Nat) (d:Nat->Rat) (r:Nat->Nat->Rat) (s:Nat->Rat):∀n,ku (λi=>d i*pA g e j (r i) (s i)) n=pA g e j (λk=>ku (λi=>d i*r i k) n) (ku (λi=>d i*s i) n)
 |0=>by
  unfold pA;rw[lJ (f:=λk=>if(g.lg e k).1=j then ku (λi=>d i*r i k) 0 else 0) λk _=>by split<;>rfl];show(0:Rat)=0+if _ then 0 else 0
  split<;>grind
 |n+1=>by
  show ku _ n+d n*pA g e j (r n) (s n)=pA g e j (λk=>ku (λi=>d i*r i k) n+d n*r n k) (ku (λi=>d i*s i) n+d n*s n);rw[E8 g e j d r s n,Cc]
def G7 (g:nq) (B:Nat->Nat->Bool) (dl sl:Nat->Nat->Rat) (j i:Nat):Rat:=pT g B sl j i+ku (λd=>pA g d j (wR g dl sl d i) (Ec (g.d d).W (qD g dl d) (rN g sl d i) (mJ g d))) g.ds.length
theorem F3 {α:Type} (f:α->Rat) (p:Prop) [Decidable p] (a:α):nO f (if p then [a]else [])=if p then f a else 0:=by
 split
 ·show f a+0=f a;grind
 ·rfl
theorem KZ (hho:NQ g) (hl:r6 g) {i:Nat} (hi:i<g.n) (j:Nat):y4 (I4 g B dl sl) j i=G7 g B dl sl j i:=by
 have h0:=SO j i (I4 g B dl sl) λ_ _=>0;have h1:y4 (I4 g B dl sl) j i=nO (λo=>if o.1=j/\o.2.1=i then o.2.2 else 0) (I4 g B dl sl):=by
  unfold y4;rw[h0];grind
 rw[h1];unfold I4 G7;rw[sH,tL,tL];congr 1
 ·rw[nz (p:=i) hi λi' _ hne=> ?_]
  ·unfold Bx pT;rw[tL];refine kz λc hc=> ?_;unfold tu;rw[F3];by_cases e:(g.c i c).h= -1
   ·rw[ah λh=>h.1 e,ah λh=>oO]
   ·obtain⟨a,_,ea⟩:=hho i hi c hc e;rw[ea];by_cases hb:B i c=false
    ·rw[aj ⟨oO,hb⟩];by_cases e2:a=j
     ·rw[aj ⟨by rw[e2];rfl,rfl⟩,aj ⟨oO,hb⟩]
     ·rw[ah λh=>e2 h.1,ah λh=>e2 oO]
    ·rw[ah λh=>hb h.2,ah λh=>hb h.2]
  ·unfold Bx;rw[tL];refine lJ λc _=> ?_;unfold tu;rw[F3];split
   ·exact ah λh=>hne h.2
   ·rfl
 ·refine kz λd hd=> ?_;unfold D8;rw[tL,nz (p:=i) hi λi' _ hne=> ?_]
  ·unfold wS pA;rw[sH,tL];congr 1
   ·refine kz λk _=> ?_;show(if(g.lg d k).1=j/\i=i then wR g dl sl d i k else 0)+0=_;by_cases e:(g.lg d k).1=j
    ·rw[aj ⟨e,rfl⟩,aj e];grind
    ·rw[ah λh=>e h.1,ah e];grind
   ·unfold AD;rw[F3];by_cases e:0<mJ g d
    ·by_cases e2:HI g d= -1
     ·rw[ah λh=>h.2 e2,ah λh=>oO]
     ·obtain⟨a,_,ea⟩:=hho (g.lg d 0).1 (hl d hd 0 e).1 (g.lg d 0).2 (hl d hd 0 e).2 e2;have ea':HI g d=a:=ea;rw[aj ⟨e,e2⟩,ea'];by_cases e3:a=j
      ·rw[aj ⟨by rw[e3];rfl,rfl⟩,aj ⟨e,oO⟩];rfl
      ·rw[ah λh=>e3 h.1,ah λh=>e3 oO]
    ·rw[ah λh=>e h.1,ah λh=>e h.1]
  ·unfold wS;rw[sH,tL,lJ λk _=> ?_]
   ·unfold AD;rw[F3];split
    ·rw[ah λh=>hne h.2];grind
    ·grind
   ·show(if(g.lg d k).1=j/\i'=i then wR g dl sl d i' k else 0)+0=_;rw[ah λh=>hne h.2];grind
structure By (g:nq) (v:Nat->Nat->Rat):Prop where
 nn:∀i,i<g.n->∀c,c<g.cn i->0<=v i c
theorem C9 (G:n7 g Y B) (h:By g dl) {d:Nat} (hd:d<g.ds.length) {k:Nat} (hk:k<mJ g d):0<=qD g dl d k:=h.nn _ (G.lg d hd k hk).1 _ (G.lg d hd k hk).2
theorem CZ (G:n7 g Y B) (h:By g sl) {d:Nat} (hd:d<g.ds.length) (i:Nat) {k:Nat} (hk:k<mJ g d):0<=rN g sl d i k:=by
 have:=h.nn _ (G.lg d hd k hk).1 _ (G.lg d hd k hk).2;unfold rN;split
 ·exact this
 ·exact bP
theorem Up (G:n7 g Y B) (hd:By g dl) (hs:By g sl) {i:Nat} (hi:i<g.n) (j:Nat):0<=G7 g B dl sl j i:=by
 have h1:=Lx (g:=g) (B:=B) (v:=sl) (j:=j) (i:=i) λc hc=>hs.nn i hi c hc;have h2:=nU (f:=λd=>pA g d j (wR g dl sl d i) (Ec (g.d d).W (qD g dl d) (rN g sl d i) (mJ g d))) (n:=g.ds.length) λd hd'=>
  Ml (λk hk=>Vs (λk hk=>C9 G hd hd' hk) (λk hk=>CZ G hs hd' i hk) hk) (Td λk hk=>CZ G hs hd' i hk)
 unfold G7;grind
theorem KR (G:n7 g Y B) (hs:By g sl) {i:Nat} (hi:i<g.n):ku (λj=>G7 g B dl sl j i) g.n<=ku (sl i) (g.cn i):=by
 have e:ku (λj=>G7 g B dl sl j i) g.n=ku (λj=>pT g B sl j i) g.n+ku (λd=>ku (λj=>pA g d j (wR g dl sl d i) (Ec (g.d d).W (qD g dl d) (rN g sl d i) (mJ g d))) g.n) g.ds.length:=by
  rw[<-qc (λj d=>pA g d j (wR g dl sl d i) (Ec (g.d d).W (qD g dl d) (rN g sl d i) (mJ g d))),<-n4];rfl
 have h2:=G3 (g:=g) (B:=B) (v:=sl) (i:=i) (λc hc=>hs.nn i hi c hc) g.n;have h3:=oI (f:=λd=>ku (λj=>pA g d j (wR g dl sl d i) (Ec (g.d d).W (qD g dl d) (rN g sl d i) (mJ g d))) g.n) (g:=λd=>ku (rN g sl d i) (mJ g d)) (n:=g.ds.length) λd hd'=>by
  have h4:=HW (g:=g) (d:=d) (r:=wR g dl sl d i) (s:=Ec (g.d d).W (qD g dl d) (rN g sl d i) (mJ g d)) (n:=g.n) (λk hk=>(G.lg d hd' k hk).1) (Td λk hk=>CZ G hs hd' i hk);have h5:Ec (g.d d).W (qD g dl d) (rN g sl d i) (mJ g d)=ku (rN g sl d i) (mJ g d)-ku (wR g dl sl d i) (mJ g d):=rfl;grind
 have h6:=KD G λa c=>if a=i then sl a c else 0
 have h7:ku (λd=>ku (λk=>if(g.lg d k).1=i then sl (g.lg d k).1 (g.lg d k).2 else 0) (mJ g d)) g.ds.length=ku (λd=>ku (rN g sl d i) (mJ g d)) g.ds.length:=rfl;have h8:ku (λa=>ku (λc=>if B a c=false then(if a=i then sl a c else 0)else 0) (g.cn a)) g.n=ku (λc=>if B i c=false then sl i c else 0) (g.cn i):=by
  rw[nz (p:=i) hi λa _ ha=>lJ λc _=>by rw[ah ha];split<;>rfl];exact kz λc _=>by rw[aj rfl]
 have h9:ku (λa=>ku (λc=>if a=i then sl a c else 0) (g.cn a)) g.n=ku (sl i) (g.cn i):=by
  rw[nz (p:=i) hi λa _ ha=>lJ λc _=>ah ha];exact kz λc _=>aj rfl
 rw[h7,h8,h9]at h6;rw[e];grind
theorem RN (G:n7 g Y B) (h0:By g dl) (h:∀i,i<g.n->∀c,c<g.cn i->dl i c<=dl' i c) (j:Nat):F0 g B dl j<=F0 g B dl' j:=by
 have h1:=oI (f:=pT g B dl j) (g:=pT g B dl' j) (n:=g.n) λi hi=>Sf λc hc=>h i hi c hc;have hq:∀d,d<g.ds.length->∀k,k<mJ g d->qD g dl d k<=qD g dl' d k:=λd hd k hk=>h _ (G.lg d hd k hk).1 _ (G.lg d hd k hk).2;have h2:=oI (f:=λd=>pA g d j (tX (g.d d).W (qD g dl d)) (yI (g.d d).W (qD g dl d) (mJ g d))) (g:=λd=>pA g d j (tX (g.d d).W (qD g dl' d)) (yI (g.d d).W (qD g dl' d) (mJ g d))) (n:=g.ds.length) λd hd=>
  Q4 (λk hk=>Sp (λk hk=>C9 G h0 hd hk) (hq d hd) hk) (Mj (λk hk=>C9 G h0 hd hk) (hq d hd))
 unfold F0;grind
theorem Vx (G:n7 g Y B) (h0:By g dl) (j:Nat):0<=F0 g B dl j:=by
 have h1:=nU (f:=pT g B dl j) (n:=g.n) λi hi=>Lx λc hc=>h0.nn i hi c hc;have h2:=nU (f:=λd=>pA g d j (tX (g.d d).W (qD g dl d)) (yI (g.d d).W (qD g dl d) (mJ g d))) (n:=g.ds.length) λd hd=>
  Ml (λk hk=>VB (λk hk=>C9 G h0 hd hk) hk) (We λk hk=>C9 G h0 hd hk)
 unfold F0;grind
theorem Uh (g:nq) (B:Nat->Nat->Bool) (dl dl':Nat->Nat->Rat) (j:Nat):F0 g B dl' j-F0 g B dl j=ku (pT g B (λi c=>dl' i c+ -1*dl i c) j) g.n+ku (λd=>pA g d j (λk=>tX (g.d d).W (qD g dl' d) k+ -1*tX (g.d d).W (qD g dl d) k) (yI (g.d d).W (qD g dl' d) (mJ g d)+ -1*yI (g.d d).W (qD g dl d) (mJ g d))) g.ds.length:=by
 rw[kz λi _=>GX g B dl' dl (-1) j i,kz λd _=>Cc g d j (tX (g.d d).W (qD g dl' d)) (tX (g.d d).W (qD g dl d)) (yI (g.d d).W (qD g dl' d) (mJ g d)) (yI (g.d d).W (qD g dl d) (mJ g d)) (-1),nx,nx];unfold F0;grind
theorem Qc (G:n7 g Y B) (h0:By g dl) (h:∀i,i<g.n->∀c,c<g.cn i->dl i c<=dl' i c):ku (F0 g B dl') g.n-ku (F0 g B dl) g.n<=ku (λi=>ku (dl' i) (g.cn i)-ku (dl i) (g.cn i)) g.n:=by
 have hq:∀d,d<g.ds.length->∀k,k<mJ g d->qD g dl d k<=qD g dl' d k:=λd hd k hk=>h _ (G.lg d hd k hk).1 _ (G.lg d hd k hk).2;rw[<-oQ,kz λj _=>Uh g B dl dl' j,n4,qc,qc (λj d=>pA g d j (λk=>tX (g.d d).W (qD g dl' d) k+ -1*tX (g.d d).W (qD g dl d) k) (yI (g.d d).W (qD g dl' d) (mJ g d)+ -1*yI (g.d d).W (qD g dl d) (mJ g d)))];have h1:=oI (f:=λi=>ku (λj=>pT g B (λi c=>dl' i c+ -1*dl i c) j i) g.n) (g:=λi=>ku (λc=>if B i c=false then dl' i c+ -1*dl i c else 0) (g.cn i)) (n:=g.n) λi hi=>
  G3 (λc hc=>by have:=h i hi c hc;grind) g.n
 have h2:=oI (f:=λd=>ku (λj=>pA g d j (λk=>tX (g.d d).W (qD g dl' d) k+ -1*tX (g.d d).W (qD g dl d) k) (yI (g.d d).W (qD g dl' d) (mJ g d)+ -1*yI (g.d d).W (qD g dl d) (mJ g d))) g.n) (g:=λd=>ku (λk=>dl' (g.lg d k).1 (g.lg d k).2+ -1*dl (g.lg d k).1 (g.lg d k).2) (mJ g d)) (n:=g.ds.length) λd hd=>by
  have h4:=HW (g:=g) (d:=d) (r:=λk=>tX (g.d d).W (qD g dl' d) k+ -1*tX (g.d d).W (qD g dl d) k) (s:=yI (g.d d).W (qD g dl' d) (mJ g d)+ -1*yI (g.d d).W (qD g dl d) (mJ g d)) (n:=g.n) (λk hk=>(G.lg d hd k hk).1) (by
   have:=Mj (W:=(g.d d).W) (λk hk=>C9 G h0 hd hk) (hq d hd);grind)
  rw[nx]at h4;rw[nx];have e1:ku (λk=>dl' (g.lg d k).1 (g.lg d k).2) (mJ g d)=ku (qD g dl' d) (mJ g d):=rfl;have e2:ku (λk=>dl (g.lg d k).1 (g.lg d k).2) (mJ g d)=ku (qD g dl d) (mJ g d):=rfl;unfold yI at h4⊢;grind
 have h3:=KD G λi c=>dl' i c+ -1*dl i c;have h5:ku (λi=>ku (dl' i) (g.cn i)-ku (dl i) (g.cn i)) g.n=ku (λi=>ku (λc=>dl' i c+ -1*dl i c) (g.cn i)) g.n:=kz λi _=>by rw[nx];grind
 rw[h5];grind
def DJ (g:nq) (sl:Nat->Nat->Rat) (d:Nat->Rat) (e k:Nat):Rat:=sl (g.lg e k).1 (g.lg e k).2*d (g.lg e k).1
theorem T6 (G:n7 g Y B) (h0:By g dl) (hs:By g sl) {d:Nat->Rat} (hd:∀i,i<g.n->0<=d i) {h:Rat} (hh:0<=h) (hl:∀i,i<g.n->∀c,c<g.cn i->dl' i c=dl i c+(h*d i)*sl i c)
  (hw:∀e,e<g.ds.length->∀k,k<mJ g e->0<pQ (g.d e).W-ku (qD g dl e) (k+1)->0<ku (DJ g sl d e) (k+1)->h*ku (DJ g sl d e) (k+1)<=pQ (g.d e).W-ku (qD g dl e) (k+1)) (j:Nat):
  F0 g B dl' j=F0 g B dl j+h*m9 (G7 g B dl sl) d g.n j:=by
 have e1:m9 (G7 g B dl sl) d g.n j=ku (pT g B (λi c=>d i*sl i c) j) g.n+ku (λe=>pA g e j (DK (g.d e).W (qD g dl e) (DJ g sl d e)) (Ec (g.d e).W (qD g dl e) (DJ g sl d e) (mJ g e))) g.ds.length:=by
  have a1:∀i,G7 g B dl sl j i*d i=d i*pT g B sl j i+ku (λe=>d i*pA g e j (wR g dl sl e i) (Ec (g.d e).W (qD g dl e) (rN g sl e i) (mJ g e))) g.ds.length:=λi=>by
   unfold G7;rw[qR];grind
  show ku (λi=>G7 g B dl sl j i*d i) g.n=_;rw[kz λi _=>a1 i,n4,qc];congr 1
  ·refine kz λi _=> ?_;unfold pT;rw[<-qR];exact kz λc _=>by split<;>grind
  ·refine kz λe he=> ?_;rw[E8];have hS:∀k,k<mJ g e->ku (λi=>d i*rN g sl e i k) g.n=DJ g sl d e k:=λk hk=>by
    rw[nz (p:=(g.lg e k).1) (G.lg e he k hk).1 λi _ hi=>by unfold rN;rw[ah λh=>hi h.symm,eg]];unfold rN DJ;rw[aj rfl,gC]
   have hn:∀i,i<g.n->∀k,k<mJ g e->0<=rN g sl e i k:=λi _ k hk=>CZ G hs he i hk;rw[UL hn hd];have c1:Ec (g.d e).W (qD g dl e) (λk=>ku (λi=>d i*rN g sl e i k) g.n) (mJ g e)=Ec (g.d e).W (qD g dl e) (DJ g sl d e) (mJ g e):=by
    unfold Ec;rw[ux,ux,tZ _ _ λk hk=>nU λi hi=>nN (hd i hi) (hn i hi k hk),kz hS,tZ _ _ λk hk=>by rw[<-hS k hk];exact nU λi hi=>nN (hd i hi) (hn i hi k hk)]
   rw[c1];refine yw λk hk=> ?_;have:=Un (W:=(g.d e).W) (q:=qD g dl e) (s:=rN g sl e) (d:=d) (n:=g.n) (k:=k) (λi hi j hj=>hn i hi j oO) hd;show ku (λi=>d i*DK (g.d e).W (qD g dl e) (rN g sl e i) k) g.n=_;rw[this];unfold DK;have hS1:∀m,m<=mJ g e->yc (g.d e).W (qD g dl e) (λj=>ku (λi=>d i*rN g sl e i j) g.n) m=yc (g.d e).W (qD g dl e) (DJ g sl d e) m:=λm hm=>by
    rw[tZ _ _ λk hk=>nU λi hi=>nN (hd i hi) (hn i hi k oO),kz λk hk=>hS k oO,tZ _ _ λk hk=>by rw[<-hS k oO];exact nU λi hi=>nN (hd i hi) (hn i hi k oO)]
   rw[hS1 _ oO,hS1 _ oO]
 have e2:∀i,i<g.n->pT g B dl' j i=pT g B dl j i+h*pT g B (λi c=>d i*sl i c) j i:=λi hi=>by
  rw[<-GX];refine kz λc hc=> ?_;rw[hl i hi c hc];split<;>grind
 have e3:∀e,e<g.ds.length->pA g e j (tX (g.d e).W (qD g dl' e)) (yI (g.d e).W (qD g dl' e) (mJ g e))=pA g e j (tX (g.d e).W (qD g dl e)) (yI (g.d e).W (qD g dl e) (mJ g e))+h*pA g e j (DK (g.d e).W (qD g dl e) (DJ g sl d e)) (Ec (g.d e).W (qD g dl e) (DJ g sl d e) (mJ g e)):=λe he=>by
  have hq:∀k,k<mJ g e->qD g dl' e k=qD g dl e k+h*DJ g sl d e k:=λk hk=>by
   show dl' _ _=dl _ _+_;rw[hl _ (G.lg e he k hk).1 _ (G.lg e he k hk).2];unfold DJ;grind
  have hn:∀k,k<mJ g e->0<=qD g dl e k:=λk hk=>C9 G h0 he hk;have hsn:∀k,k<mJ g e->0<=DJ g sl d e k:=λk hk=>nN (hs.nn _ (G.lg e he k hk).1 _ (G.lg e he k hk).2) (hd _ (G.lg e he k hk).1);have hov:∀k,k<=mJ g e->wM (g.d e).W (qD g dl' e) k=wM (g.d e).W (qD g dl e) k+h*yc (g.d e).W (qD g dl e) (DJ g sl d e) k:=λk hk=>by
   rw[<-UA hn hsn hh (hw e he) hk,qw,qw];congr 2;exact kz λj hj=>by rw[hq j oO]
  rw[<-Cc];have c1:yI (g.d e).W (qD g dl' e) (mJ g e)=yI (g.d e).W (qD g dl e) (mJ g e)+h*Ec (g.d e).W (qD g dl e) (DJ g sl d e) (mJ g e):=by
   unfold yI Ec;rw[xN,xN,ux,hov _ (aB _),kz hq,nx];grind
  rw[c1];refine yw λk hk=> ?_;unfold tX DK;rw[hov _ oO,hov _ oO];grind
 unfold F0;rw[e1,kz e2,kz e3,nx,nx];grind
end
def Mn (o:Option Rat) (S:Rat->Prop):Prop:=(∀s,S s->∃h,o=some h/\h<=s)/\∀h,o=some h->S h
theorem Mn.add {o:Option Rat} {S:Rat->Prop} (h:Mn o S) (s:Rat):Mn (FT o s) λr=>S r\/r=s:=by
 obtain⟨h1,h2⟩:=h;cases o with
 |none=>exact⟨λr hr=>⟨s,rfl,by
   rcases hr with hr|hr
   ·obtain⟨_,e,_⟩:=h1 r hr;cases e
   ·rw[hr];exact bP⟩,λr e=> .inr (bK e).symm⟩
 |some a=>
  unfold FT;by_cases g:s<a
  ·simp only[aj g];refine⟨λr hr=>⟨s,rfl,?_⟩,λr e=> .inr (bK e).symm⟩;rcases hr with hr|hr
   ·obtain⟨b,e,hb⟩:=h1 r hr;have:=bK e;grind
   ·rw[hr];exact bP
  ·simp only[ah g];refine⟨λr hr=>⟨a,rfl,?_⟩,λr e=> .inl (by rw[<-bK e];exact h2 a rfl)⟩;rcases hr with hr|hr
   ·obtain⟨b,e,hb⟩:=h1 r hr;have:=bK e;grind
   ·grind
theorem Mn.congr {o:Option Rat} {S S':Rat->Prop} (h:Mn o S) (e:∀r,S r↔S' r):Mn o S':=⟨λs hs=>h.1 s ((e s).2 hs),λr hr=>(e r).1 (h.2 r hr)⟩
section
variable (g : nq) (Y : Nat → Ly) (F : Nat → Nat) (dl sl : Nat → Nat → Rat) (x d : Nat → Rat)
def Wd (n:Nat) (r:Rat):Prop:=∃i,i<n/\0<d i/\∃y,Wk Y F x i=some y/\r=(y-x i)/d i
def WC (e n:Nat) (r:Rat):Prop:=∃k,k<n/\0<AH g dl e (k+1)/\0<BU g sl d e (k+1)/\r=AH g dl e (k+1)/BU g sl d e (k+1)
def Xe (n:Nat) (r:Rat):Prop:=∃e,e<n/\WC g dl sl d e (mJ g e) r
def zS (r:Rat):Prop:=Wd Y F x d g.n r\/Xe g dl sl d g.ds.length r
theorem Jy:∀n,Mn (Q0 Y F x d n) (Wd Y F x d n)
 |0=>⟨λ_ ⟨_,h,_⟩=>absurd h (aS _),λ_ h=>by cases h⟩
 |n+1=>by
  have ih:=Jy n;have hold:∀r,Wd Y F x d n r->Wd Y F x d (n+1) r:=λr ⟨i,h1,h2⟩=>⟨i,oO,h2⟩;show Mn (QK Y F x d n (Q0 Y F x d n)) _;unfold QK;by_cases hd:0<d n
  ·rw[aj hd];cases hn:Wk Y F x n with
   |none=>exact ih.congr λr=>⟨hold r,λ⟨i,h1,h2,y,h3,h4⟩=>by
    by_cases e:i=n
    ·rw[e,hn]at h3;cases h3
    ·exact⟨i,oO,h2,y,h3,h4⟩⟩
   |some y=>exact(ih.add ((y-x n)/d n)).congr λr=>⟨λh=>h.elim (hold r) λh=>⟨n,oO,hd,y,hn,h⟩,λ⟨i,h1,h2,y',h3,h4⟩=>by
    by_cases e:i=n
    ·rw[e,hn]at h3;obtain rfl:=bK h3;exact .inr (by rw[h4,e])
    ·exact .inl ⟨i,oO,h2,y',h3,h4⟩⟩
  ·rw[ah hd];exact ih.congr λr=>⟨hold r,λ⟨i,h1,h2,y,h3,h4⟩=>by
    by_cases e:i=n
    ·rw[e]at h2;exact absurd h2 hd
    ·exact⟨i,oO,h2,y,h3,h4⟩⟩
theorem Jg {e:Nat} {o:Option Rat} {S:Rat->Prop} (h:Mn o S):∀n,Mn (LK g dl sl d e o n) λr=>S r\/WC g dl sl d e n r
 |0=>h.congr λr=>⟨.inl,λh=>h.elim id λ⟨_,h,_⟩=>absurd h (aS _)⟩
 |n+1=>by
  have ih:=Jg (e:=e) h n;have hold:∀r,WC g dl sl d e n r->WC g dl sl d e (n+1) r:=λr ⟨i,h1,h2⟩=>⟨i,oO,h2⟩;unfold LK;by_cases hc:0<AH g dl e (n+1)/\0<BU g sl d e (n+1)
  ·rw[aj hc];refine(ih.add _).congr λr=>⟨λh=> ?_,λh=> ?_⟩
   ·rcases h with(h|h)|h
    ·exact .inl h
    ·exact .inr (hold r h)
    ·exact .inr ⟨n,oO,hc.1,hc.2,h⟩
   ·rcases h with h|⟨i,h1,h2,h3,h4⟩
    ·exact .inl (.inl h)
    ·by_cases e:i=n
     ·exact .inr (by rw[h4,e])
     ·exact .inl (.inr ⟨i,oO,h2,h3,h4⟩)
  ·rw[ah hc];refine ih.congr λr=>⟨λh=>h.elim .inl λh=> .inr (hold r h),λh=> ?_⟩;rcases h with h|⟨i,h1,h2,h3,h4⟩
   ·exact .inl h
   ·by_cases e:i=n
    ·rw[e]at h2 h3;exact absurd ⟨h2,h3⟩ hc
    ·exact .inr ⟨i,oO,h2,h3,h4⟩
theorem JM:∀n,Mn (SH g Y F dl sl x d n) λr=>Wd Y F x d g.n r\/Xe g dl sl d n r
 |0=>(Jy Y F x d g.n).congr λr=>⟨.inl,λh=>h.elim id λ⟨_,h,_⟩=>absurd h (aS _)⟩
 |n+1=>by
  refine(Jg g dl sl d (e:=n) (JM n) (mJ g n)).congr λr=>⟨λh=> ?_,λh=> ?_⟩
  ·rcases h with(h|⟨e,h1,h2⟩)|h
   ·exact .inl h
   ·exact .inr ⟨e,oO,h2⟩
   ·exact .inr ⟨n,oO,h⟩
  ·rcases h with h|⟨e,h1,h2⟩
   ·exact .inl (.inl h)
   ·by_cases e1:e=n
    ·rw[e1]at h2;exact .inr h2
    ·exact .inl (.inr ⟨e,oO,h2⟩)
theorem G0:Mn (Ky g Y F dl sl x d) (zS g Y F dl sl x d):=JM g Y F dl sl x d g.ds.length
end
theorem Ci (g:nq) (dl:Nat->Nat->Rat) (e:Nat):∀k,AH g dl e k=pQ (g.d e).W-ku (qD g dl e) k
 |0=>by show pQ _=pQ _-0;grind
 |k+1=>by
  show AH g dl e k-qD g dl e k=pQ _-(ku (qD g dl e) k+qD g dl e k);rw[Ci g dl e k];grind
theorem Cv (g:nq) (sl:Nat->Nat->Rat) (d:Nat->Rat) (e:Nat):∀k,BU g sl d e k=ku (DJ g sl d e) k
 |0=>rfl
 |k+1=>by
  show BU g sl d e k+_=ku (DJ g sl d e) k+_;rw[Cv g sl d e k];rfl
def Jr (f:Nat->Nat):Nat->Nat
 |0=>0
 |n+1=>Jr f n+f n
theorem vH {f g:Nat->Nat}:∀ {n:Nat},(∀i,i<n->f i<=g i)->Jr f n<=Jr g n
 |0,_=>aB _
 |n+1,h=>Nat.add_le_add (vH λi hi=>h i oO) (h n oO)
theorem FM {f g:Nat->Nat}:∀ {n:Nat},(∀i,i<n->f i<=g i)->(∃i,i<n/\f i<g i)->Jr f n<Jr g n
 |0,_,⟨_,h,_⟩=>absurd h (aS _)
 |n+1,h,⟨i,h1,h2⟩=>by
  have a:=vH (n:=n) λi hi=>h i oO;have b:=h n oO;show Jr f n+f n<Jr g n+g n;by_cases e:i=n
  ·rw[e]at h2;omega
  ·have:=FM (n:=n) (λi hi=>h i oO) ⟨i,oO,h2⟩;omega
def H5 (g:nq) (Y:Nat->Ly) (x:Nat->Rat):Nat:=
 Jr (λi=>wB (Y i) (x i)) g.n+Jr (λe=>Jr (λk=>if 0<pQ (g.d e).W-ku (qD g (lW Y x) e) (k+1)then 1 else 0) (mJ g e)) g.ds.length
section
variable {g : nq} {Y : Nat → Ly} {B : Nat → Nat → Bool} {x z d : Nat → Rat} {Fu : Nat} {h : Rat}
theorem Em (G:n7 g Y B) (hx:∀i,i<g.n->0<=x i):By g (lW Y x):=⟨λi hi _ _=>Wb (G.ly i hi) (hx i hi)⟩
theorem HX (G:n7 g Y B) (hx:∀i,i<g.n->0<=x i):By g (o4 Y x):=⟨λi hi _ _=>VJ (G.ly i hi) (hx i hi)⟩
theorem UY (G:n7 g Y B) (hx:∀i,i<g.n->0<=x i) {i:Nat} (hi:i<g.n):ku (o4 Y x i) (g.cn i)<=1:=by
 rw[<-G.yn i hi];exact Ut (G.ly i hi) (hx i hi)
theorem B4 (G:n7 g Y B) (hx:∀i,i<g.n->0<=x i) (hxz:∀i,i<g.n->x i<=z i):∀i,i<g.n->∀c,c<g.cn i->lW Y x i c<=lW Y z i c:=λi hi _ _=>Rj (G.ly i hi) (hx i hi) (hxz i hi)
theorem Jo (G:n7 g Y B) (hx:∀i,i<g.n->0<=x i) (hxz:∀i,i<g.n->x i<=z i) (j:Nat):F0 g B (lW Y x) j<=F0 g B (lW Y z) j:=RN G (Em G hx) (B4 G hx hxz) j
theorem Tm (G:n7 g Y B) (hx:∀i,i<g.n->0<=x i) (hxz:∀i,i<g.n->x i<=z i):ku (F0 g B (lW Y z)) g.n-ku (F0 g B (lW Y x)) g.n<=ku (λi=>z i-x i) g.n:=by
 refine eW (Qc G (Em G hx) (B4 G hx hxz)) (oI λi hi=> ?_);have:=TP (G.ly i hi) (hx i hi) (hxz i hi);rw[G.yn i hi]at this;exact this
theorem yp (G:n7 g Y B) (hx:∀i,i<g.n->0<=x i):SY (qP g Y B x) g.n:=by
 have e:∀i,i<g.n->∀j,qP g Y B x j i=G7 g B (lW Y x) (o4 Y x) j i:=λi hi j=>KZ G.ho G.lg hi j;refine⟨λj _ i hi=>by rw[e i hi];exact Up G (Em G hx) (HX G hx) hi j,λi hi=> ?_⟩;unfold rL;rw[kz λj _=>e i hi j];exact eW (KR G (HX G hx) hi) (UY G hx hi)
theorem Ui (G:n7 g Y B) (j:Nat):m9 (qP g Y B x) d g.n j=m9 (G7 g B (lW Y x) (o4 Y x)) d g.n j:=kz λi hi=>by rw[show qP g Y B x j i=G7 g B (lW Y x) (o4 Y x) j i from KZ G.ho G.lg hi j]
structure VV (g:nq) (Y:Nat->Ly) (B:Nat->Nat->Bool) (x d:Nat->Rat) (h:Rat):Prop where
 lin:∀j,F0 g B (lW Y λi=>x i+h*d i) j=F0 g B (lW Y x) j+h*m9 (qP g Y B x) d g.n j
 mu:H5 g Y (λi=>x i+h*d i)<=H5 g Y x
theorem GH (G:n7 g Y B) (hx:∀i,i<g.n->0<=x i) (hd:∀i,i<g.n->0<=d i) (hF:∀i,i<g.n->wB (Y i) (x i)<Fu) (h0:0<=h) (hc:∀r,zS g Y (λ_=>Fu) (lW Y x) (o4 Y x) x d r->h<=r):
  VV g Y B x d h/\(zS g Y (λ_=>Fu) (lW Y x) (o4 Y x) x d h->H5 g Y (λi=>x i+h*d i)<H5 g Y x):=by
 have Ij:∀i,i<g.n->x i<=x i+h*d i:=λi hi=>by have:=nN h0 (hd i hi);grind
 have hl:∀i,i<g.n->∀c,c<g.cn i->lW Y (λi=>x i+h*d i) i c=lW Y x i c+(h*d i)*o4 Y x i c:=λi hi c hc'=>by
  have hn:=FN (G.ly i hi) (hx i hi) (hF i hi);rw[G.yn i hi]at hn;by_cases hd0:0<d i
  ·have hu:=Ij i hi;cases hz:GM (Y i) (x i) Fu (x i)with
   |none=>
    rw[hz]at hn;have:=hn.2 (x i+h*d i) hu c hc';show dC (Y i) (x i+h*d i) c=_;rw[this];show _=dC (Y i) (x i) c+(h*d i)*sC (Y i) (x i) c;grind
   |some y=>
    rw[hz]at hn;have h1:=hc _ (.inl ⟨i,hi,hd0,y,hz,rfl⟩);have h2:=uc (a:=y-x i) hd0;have h3:=nT h1 (di hd0);have:=hn.2.2 (x i+h*d i) hu (by grind) c hc';show dC (Y i) (x i+h*d i) c=_;rw[this];show _=dC (Y i) (x i) c+(h*d i)*sC (Y i) (x i) c;grind
  ·have e:d i=0:=by have:=hd i hi;grind
   show dC (Y i) (x i+h*d i) c=dC (Y i) (x i) c+(h*d i)*sC (Y i) (x i) c;rw[e,eg,hJ];grind
 have hw:∀e,e<g.ds.length->∀k,k<mJ g e->0<pQ (g.d e).W-ku (qD g (lW Y x) e) (k+1)->0<ku (DJ g (o4 Y x) d e) (k+1)->h*ku (DJ g (o4 Y x) d e) (k+1)<=pQ (g.d e).W-ku (qD g (lW Y x) e) (k+1):=λe he k hk h1 h2=>by
  rw[<-Ci]at h1⊢;rw[<-Cv]at h2⊢;have h3:=hc _ (.inr ⟨e,he,k,hk,h1,h2,rfl⟩);have h4:=uc (a:=AH g (lW Y x) e (k+1)) h2;have h5:=nT h3 (di h2);grind
 have hqm:∀e,e<g.ds.length->∀k,k<=mJ g e->ku (qD g (lW Y x) e) k<=ku (qD g (lW Y λi=>x i+h*d i) e) k:=λe he k hk=>oI λj hj=>
  B4 G hx Ij _ (G.lg e he j (show j<mJ g e by omega)).1 _ (G.lg e he j (show j<mJ g e by omega)).2
 have hm1:∀i,i<g.n->wB (Y i) (x i+h*d i)<=wB (Y i) (x i):=λi hi=>Hh (G.ly i hi) (hx i hi) (Ij i hi);have hm2:∀e,e<g.ds.length->∀k,k<mJ g e->(if 0<pQ (g.d e).W-ku (qD g (lW Y λi=>x i+h*d i) e) (k+1)then 1 else 0)<=if 0<pQ (g.d e).W-ku (qD g (lW Y x) e) (k+1)then 1 else 0:=λe he k hk=>by
  have:=hqm e he (k+1) hk;split
  ·rw[aj (by grind)];exact aB _
  ·exact aw _
 refine⟨⟨λj=> ?_,Nat.add_le_add (vH hm1) (vH λe he=>vH (hm2 e he))⟩,λhcd=> ?_⟩
 ·rw[Ui G];exact T6 G (Em G hx) (HX G hx) hd h0 hl hw j
 ·have b1:=vH hm1;have b2:=vH λe he=>vH (hm2 e he);show Jr (λi=>wB (Y i) (x i+h*d i)) g.n+_<Jr (λi=>wB (Y i) (x i)) g.n+_;rcases hcd with⟨i,hi,hd0,y,hz,e⟩|⟨e,he,k,hk,h1,h2,e1⟩
  ·have hn:=FN (G.ly i hi) (hx i hi) (hF i hi);have hz':GM (Y i) (x i) Fu (x i)=some y:=hz;rw[hz']at hn;have h2:=uc (a:=y-x i) hd0;rw[<-e]at h2;have h3:x i+h*d i=y:=by grind
   have:=FM hm1 ⟨i,hi,by rw[h3];exact hn.2.1⟩;omega
  ·have h4:=uc (a:=AH g (lW Y x) e (k+1)) h2;rw[<-e1]at h4;have h3:ku (qD g (lW Y λi=>x i+h*d i) e) (k+1)=ku (qD g (lW Y x) e) (k+1)+h*ku (DJ g (o4 Y x) d e) (k+1):=by
    rw[<-nx];refine kz λj hj=> ?_;show lW Y _ _ _=lW Y x _ _+_;rw[hl _ (G.lg e he j (show j<mJ g e by omega)).1 _ (G.lg e he j (show j<mJ g e by omega)).2];unfold DJ;grind
   rw[Ci]at h1 h4;rw[Cv]at h2 h4;have:=FM (λe he=>vH (hm2 e he)) ⟨e,he,FM (hm2 e he) ⟨k,hk,by
    rw[aj h1,ah (by rw[h3];grind)];exact Nat.zero_lt_one⟩⟩
   omega
theorem CE (G:n7 g Y B) (hx:∀i,i<g.n->0<=x i) (hF:∀i,i<g.n->wB (Y i) (x i)<Fu) {r:Rat} (hc:zS g Y (λ_=>Fu) (lW Y x) (o4 Y x) x d r):0<r:=by
 rcases hc with⟨i,hi,hd0,y,hz,e⟩|⟨e,he,k,hk,h1,h2,e1⟩
 ·have hn:=FN (G.ly i hi) (hx i hi) (hF i hi);have hz':GM (Y i) (x i) Fu (x i)=some y:=hz;rw[hz']at hn;rw[e,bT];exact CI (by have:=hn.1;grind) (A3 hd0).1
 ·rw[e1,bT];exact CI h1 (A3 h2).1
end
structure Inv (g:nq) (Y:Nat->Ly) (B:Nat->Nat->Bool) (x:Nat->Rat) (t:Rat):Prop where
 nn:∀i,i<g.n->0<=x i
 t0:0<=t
 t1:t<=1
 fx:∀j,j<g.n->x j=t*Bu g j+F0 g B (lW Y x) j
structure S6 (g:nq) (Y:Nat->Ly) (B:Nat->Nat->Bool) (x:Nat->Rat):Prop where
 nn:∀i,i<g.n->0<=x i
 fx:∀j,j<g.n->x j=Bu g j+F0 g B (lW Y x) j
 top:∀y:Nat->Rat,(∀j,j<g.n->0<=y j)->(∀j,j<g.n->y j<=Bu g j+F0 g B (lW Y y) j)->∀j,j<g.n->y j<=x j
section
variable {g : nq} {Y : Nat → Ly} {B : Nat → Nat → Bool} {x : Nat → Rat} {t : Rat} {Fu : Nat}
theorem EK (G:n7 g Y B) (hF:∀i,i<g.n->∀m,wB (Y i) m<Fu) (h16:g.n<=16) (I:Inv g Y B x t) (hC:st g Y B x≠ []):
  ∃H,RJ g Y Fu x (Bt g Y B x)=some H/\0<H/\zS g Y (λ_=>Fu) (lW Y x) (o4 Y x) x (Bt g Y B x) H/\Inv g Y B (MC g Y B Fu x) t/\H5 g Y (MC g Y B Fu x)<H5 g Y x:=by
 obtain⟨_,l2,l3,l4,l5,_⟩:=z5 (yp G I.nn) rfl hC h16;have hd:∀i,i<g.n->0<=Bt g Y B x i:=λi _=>by
  by_cases e:i∈st g Y B x
  ·exact di (l2 i e)
  ·have:Bt g Y B x i=0:=l3 i e;rw[this];exact bP
 have hCn:∀c,c∈st g Y B x->c<g.n:=λc hc=>(yD (qP g Y B x) g.n (List.replicate g.n true) g.n).2 c hc;have hMn:=G0 g Y (λ_=>Fu) (lW Y x) (o4 Y x) x (Bt g Y B x);obtain⟨c,hc⟩:=List.exists_mem_of_ne_nil _ hC;have hcn:=hCn c hc;have hF':∀i,i<g.n->wB (Y i) (x i)<Fu:=λi hi=>hF i hi _;have hcd:∃r,zS g Y (λ_=>Fu) (lW Y x) (o4 Y x) x (Bt g Y B x) r:=by
  have hn:=FN (G.ly c hcn) (I.nn c hcn) (hF' c hcn);cases hz:GM (Y c) (x c) Fu (x c)with
  |some y=>exact⟨_,.inl ⟨c,hcn,l2 c hc,y,hz,rfl⟩⟩
  |none=>
   rw[hz,G.yn c hcn]at hn;have h1:=l5 c hc;have h2:rL (qP g Y B x) c g.n<=ku (o4 Y x c) (g.cn c):=by
    unfold rL;rw[kz λj _=>show qP g Y B x j c=G7 g B (lW Y x) (o4 Y x) j c from KZ G.ho G.lg hcn j];exact KR G (HX G I.nn) hcn
   have h3:ku (o4 Y x c) (g.cn c)=0:=lJ λk hk=>hn.1 k hk;rw[h1,h3]at h2;exact absurd h2 dD
 obtain⟨r,hr⟩:=hcd;obtain⟨H,eH,_⟩:=hMn.1 r hr;have hcH:=hMn.2 H eH;have hH:=CE G I.nn hF' hcH;obtain⟨s1,s2⟩:=GH G I.nn hd hF' (di hH) λr hr=>by
  obtain⟨a,ea,ha⟩:=hMn.1 r hr;rw[eH]at ea;rw[bK ea];exact ha
 have eS:RJ g Y Fu x (Bt g Y B x)=some H:=eH;have eX:MC g Y B Fu x=λi=>x i+H*Bt g Y B x i:=by
  funext i;unfold MC;rw[eS];rfl
 refine⟨H,eS,hH,hcH,?_,by rw[eX];exact s2 hcH⟩;rw[eX];refine⟨λi hi=> ?_,I.t0,I.t1,λj hj=> ?_⟩
 ·have:=nN (di hH) (hd i hi);have:=I.nn i hi;grind
 ·have h1:=s1.lin j;have h2:=I.fx j hj;have h3:m9 (qP g Y B x) (Bt g Y B x) g.n j=Bt g Y B x j:=l4 j hj;rw[h1,h3];grind
theorem AT (G:n7 g Y B) (hF:∀i,i<g.n->∀m,wB (Y i) m<Fu) (h16:g.n<=16) (hn0:0<g.n) (I:Inv g Y B x t) (hC:st g Y B x=[]) (ht:t≠1):
  (∀i,i<g.n->0<=Az g Y B x i)/\0<yT g Y B Fu x t/\t+yT g Y B Fu x t<=1/\Inv g Y B (GP g Y B Fu x t) (t+yT g Y B Fu x t)/\H5 g Y (GP g Y B Fu x t)+(if t+yT g Y B Fu x t=1 then 0 else 1)<H5 g Y x+1/\
  (yT g Y B Fu x t=1-t\/zS g Y (λ_=>Fu) (lW Y x) (o4 Y x) x (Az g Y B x) (yT g Y B Fu x t)):=by
 obtain⟨_,_,f3,f4,_⟩:=yW (g:=g) (yp G I.nn) hC hn0 h16 G.cash;have hMn:=G0 g Y (λ_=>Fu) (lW Y x) (o4 Y x) x (Az g Y B x);have hF':∀i,i<g.n->wB (Y i) (x i)<Fu:=λi hi=>hF i hi _;have htl:t<1:=by have:=I.t1;grind
 have hh:0<yT g Y B Fu x t/\t+yT g Y B Fu x t<=1/\(∀r,zS g Y (λ_=>Fu) (lW Y x) (o4 Y x) x (Az g Y B x) r->yT g Y B Fu x t<=r)/\(yT g Y B Fu x t=1-t\/zS g Y (λ_=>Fu) (lW Y x) (o4 Y x) x (Az g Y B x) (yT g Y B Fu x t)):=by
  unfold yT RJ;cases hz:Ky g Y (λ_=>Fu) (lW Y x) (o4 Y x) x (Az g Y B x)with
  |none=>
   refine⟨by show 0<1-t;grind,by show t+(1-t)<=1;grind,λr hr=> ?_,.inl rfl⟩;obtain⟨a,ea,_⟩:=hMn.1 r hr;rw[hz]at ea;cases ea
  |some H=>
   have hcH:=hMn.2 H hz;have hH:=CE G I.nn hF' hcH;have hle:∀r,zS g Y (λ_=>Fu) (lW Y x) (o4 Y x) x (Az g Y B x) r->H<=r:=λr hr=>by
    obtain⟨a,ea,ha⟩:=hMn.1 r hr;rw[hz]at ea;rw[bK ea];exact ha
   unfold WR;dsimp only;split
   ·exact⟨by grind,by grind,λr hr=>by have:=hle r hr;grind,.inl rfl⟩
   ·exact⟨hH,by grind,hle,.inr hcH⟩
 obtain⟨h1,h2,h3,h4⟩:=hh;obtain⟨s1,s2⟩:=GH (B:=B) G I.nn f3 hF' (di h1) h3;have eX:GP g Y B Fu x t=λi=>x i+yT g Y B Fu x t*Az g Y B x i:=rfl;refine⟨f3,h1,h2,?_,?_,h4⟩
 ·rw[eX];refine⟨λi hi=> ?_,by have:=I.t0;grind,h2,λj hj=> ?_⟩
  ·have:=nN (di h1) (f3 i hi);have:=I.nn i hi;show 0<=x i+yT g Y B Fu x t*rA g (qP g Y B x) (List.range g.n) i;grind
  ·have e1:=s1.lin j;have e2:=I.fx j hj;have e3:Az g Y B x j=m9 (qP g Y B x) (Az g Y B x) g.n j+Bu g j:=f4 j hj;have e4:m9 (qP g Y B x) (rA g (qP g Y B x) (List.range g.n)) g.n j=m9 (qP g Y B x) (Az g Y B x) g.n j:=rfl;rw[e4]at e1;have e5:F0 g B (lW Y λi=>x i+yT g Y B Fu x t*Az g Y B x i) j=F0 g B (lW Y x) j+yT g Y B Fu x t*m9 (qP g Y B x) (Az g Y B x) g.n j:=e1;show x j+yT g Y B Fu x t*Az g Y B x j=_;rw[e5,e3];grind
 ·have hmu:H5 g Y (GP g Y B Fu x t)<=H5 g Y x:=s1.mu;rcases h4 with h4|h4
  ·rw[aj (by rw[h4];grind)];omega
  ·have:H5 g Y (GP g Y B Fu x t)<H5 g Y x:=s2 h4;split<;>omega
theorem RZ (G:n7 g Y B) (hF:∀i,i<g.n->∀m,wB (Y i) m<Fu) (I:Inv g Y B x 1) (hC:st g Y B x=[]):S6 g Y B x:=by
 have hfx:∀j,j<g.n->x j=Bu g j+F0 g B (lW Y x) j:=λj hj=>by rw[I.fx j hj,dZ]
 refine⟨I.nn,hfx,λy hy0 hy=> ?_⟩;obtain⟨z,hz⟩:∃z:Nat->Rat,z=λi=>if x i<=y i then y i else x i:=⟨_,rfl⟩
 have hxz:∀i,x i<=z i/\y i<=z i/\(z i=x i\/z i=y i):=λi=>by rw[hz];dsimp only;split<;>grind
 obtain⟨w,hw⟩:∃w:Nat->Rat,w=λi=>z i-x i:=⟨_,rfl⟩;have hw0:∀i,0<=w i:=λi=>by rw[hw];have:=(hxz i).1;grind
 have hFz:∀j,j<g.n->w j<=F0 g B (lW Y z) j-F0 g B (lW Y x) j:=λj hj=>by
  have a:=Jo G I.nn (λi _=>(hxz i).1) j;have b:=Jo G hy0 (λi _=>(hxz i).2.1) j;have c:=hfx j hj;have d:=hy j hj;rw[hw];rcases(hxz j).2.2 with e|e<;>dsimp only<;>rw[e]<;>grind
 have hlip:=Tm G I.nn λi _=>(hxz i).1;have hws:ku (λi=>z i-x i) g.n=ku w g.n:=by rw[hw]
 have heq:∀j,j<g.n->F0 g B (lW Y z) j-F0 g B (lW Y x) j=w j:=λj hj=>by
  have:=AR (f:=λj=>F0 g B (lW Y z) j-F0 g B (lW Y x) j-w j) (n:=g.n) (λj hj=>by have:=hFz j hj;grind) (by
   rw[oQ,oQ];grind) j hj
  grind
 have hF':∀i,i<g.n->wB (Y i) (x i)<Fu:=λi hi=>hF i hi _;have hMn:=G0 g Y (λ_=>Fu) (lW Y x) (o4 Y x) x w;obtain⟨h,hh0,hh1,hhc⟩:∃h,0<h/\h<=1/\∀r,zS g Y (λ_=>Fu) (lW Y x) (o4 Y x) x w r->h<=r:=by
  cases hz:Ky g Y (λ_=>Fu) (lW Y x) (o4 Y x) x w with
  |none=>exact⟨1,dD,bP,λr hr=>by
    obtain⟨a,ea,_⟩:=hMn.1 r hr;rw[hz]at ea;cases ea⟩
  |some H=>
   have hH:=CE G I.nn hF' (hMn.2 H hz);have hle:∀r,zS g Y (λ_=>Fu) (lW Y x) (o4 Y x) x w r->H<=r:=λr hr=>by
    obtain⟨a,ea,ha⟩:=hMn.1 r hr;rw[hz]at ea;rw[bK ea];exact ha
   by_cases g1:H<=1
   ·exact⟨H,hH,g1,hle⟩
   ·exact⟨1,dD,bP,λr hr=>by have:=hle r hr;grind⟩
 obtain⟨s1,_⟩:=GH (B:=B) G I.nn (λi _=>hw0 i) hF' (di hh0) hhc;have Ij:∀i,x i<=x i+h*w i/\x i+h*w i<=z i:=λi=>by
  have a:=nN (di hh0) (hw0 i);have b:=nN (hw0 i) (show 0<=1-h by grind);have c:w i=z i-x i:=by rw[hw]
  grind
 have hup0:∀i,i<g.n->0<=x i+h*w i:=λi hi=>eW (I.nn i hi) (Ij i).1;have hM:=yp (B:=B) G I.nn;have hdnn:∀j,j<g.n->0<=m9 (qP g Y B x) w g.n j:=λj hj=>nU λi hi=>nN (hM.nn j hj i hi) (hw0 i);have hcl:∀a,a<g.n->w a=0->∀c,c<g.n->0<w c->qP g Y B x a c=0:=λa ha hwa c hc hwc=>by
  have e1:=s1.lin a;have e2:=Jo G hup0 (λi _=>(Ij i).2) a;have e3:=heq a ha;have e4:h*m9 (qP g Y B x) w g.n a<=0:=by grind
  have e5:=hdnn a ha;have e6:m9 (qP g Y B x) w g.n a=0:=by
   have:=nN (di hh0) e5;exact Ey (b:=h) (by grind) hh0
  have e7:=AR (f:=λi=>qP g Y B x a i*w i) (n:=g.n) (λi hi=>nN (hM.nn a ha i hi) (hw0 i)) (by
   show m9 (qP g Y B x) w g.n a<=0;rw[e6];exact bP) c hc
  exact Ey e7 hwc
 have hlk:∀c,c<g.n->0<w c->rL (qP g Y B x) c g.n=1:=λc hc hwc=>by
  have e1:=Tm G hup0 λi _=>(Ij i).2;have e2:ku (F0 g B (lW Y λi=>x i+h*w i)) g.n=ku (F0 g B (lW Y x)) g.n+h*ku (λj=>m9 (qP g Y B x) w g.n j) g.n:=by
   rw[<-nx];exact kz λj _=>s1.lin j
  have e3:ku (λj=>F0 g B (lW Y z) j-F0 g B (lW Y x) j) g.n=ku w g.n:=kz heq;rw[oQ]at e3;have e4:ku (λi=>z i-(x i+h*w i)) g.n=(1-h)*ku w g.n:=by
   rw[<-qR];exact kz λi _=>by
    have c:w i=z i-x i:=by rw[hw]
    grind
  rw[e2,e4,Mc]at e1;have e5:0<=h*(ku (λj=>rL (qP g Y B x) j g.n*w j) g.n-ku w g.n):=by grind
  have e6:∀j,j<g.n->0<=w j-rL (qP g Y B x) j g.n*w j:=λj hj=>by
   have:=nN (hw0 j) (show 0<=1-rL (qP g Y B x) j g.n by have:=hM.cs j hj;grind);grind
  have e7:=nU e6;rw[oQ]at e7;have e8:(ku w g.n-ku (λj=>rL (qP g Y B x) j g.n*w j) g.n)=0:=by
   have:=nN (di hh0) e7;exact Ey (b:=h) (by grind) hh0
  have e9:=AR e6 (by rw[oQ,e8];exact bP) c hc;have:=Ey (a:=1-rL (qP g Y B x) c g.n) (b:=w c) (by grind) hwc;grind
 intro j hj;by_cases e:w j=0
 ·have c:w j=z j-x j:=by rw[hw]
  have:=(hxz j).2.1;grind
 ·have hwj:0<w j:=by have:=hw0 j;grind
  have hc2:∀k∈tM (qP g Y B x) g.n j,k<g.n/\0<w k:=λk hk=>N5 hj (λk=>k<g.n/\0<w k) ⟨hj,hwj⟩ (λa c ha hc hS hm=>⟨ha,by
   by_cases e:w a=0
   ·rw[hcl a ha e c hc hS.2]at hm;exact absurd hm dy
   ·have:=hw0 a;grind⟩) hk
  have h1:=B7 (M:=qP g Y B x) (aB g.n) hC j hj (FF hj);rw[dB]at h1;obtain⟨k,hk,h2⟩:=h1;obtain⟨a,b⟩:=hc2 k hk;unfold GO at h2;rw[hlk k a b]at h2;exact absurd h2 dD
theorem FO (G:n7 g Y B) (hF:∀i,i<g.n->∀m,wB (Y i) m<Fu) (h16:g.n<=16) (hn0:0<g.n):∀(f:Nat) (x:Nat->Rat) (t:Rat),Inv g Y B x t->H5 g Y x+(if t=1 then 0 else 1)<f->S6 g Y B (MM g Y B Fu f x t)
 |0,_,_,_,h=>absurd h (aS _)
 |f+1,x,t,I,h=>by
  unfold MM;by_cases hC:st g Y B x=[]
  ·rw[ah (λh=>h hC)];by_cases ht:t=1
   ·rw[aj ht];subst ht;exact RZ G hF I hC
   ·rw[ah ht];obtain⟨_,_,_,I2,hm,_⟩:=AT G hF h16 hn0 I hC ht;rw[ah ht]at h;exact FO G hF h16 hn0 f _ _ I2 oO
  ·rw[aj hC];obtain⟨_,_,_,_,I2,hm⟩:=EK G hF h16 I hC;exact FO G hF h16 hn0 f _ _ I2 oO
theorem Uk (G:n7 g Y B):Inv g Y B (λ_=>0) 0:=by
 have hd:∀i,i<g.n->∀c,lW Y (λ_=>0) i c=0:=λi hi c=>KA (G.ly i hi);refine⟨λ_ _=>bP,bP,dD,λj _=> ?_⟩;have h1:ku (pT g B (lW Y λ_=>0) j) g.n=0:=lJ λi hi=>lJ λc _=>by
  rw[hd i hi];split<;>rfl
 have h2:ku (λd=>pA g d j (tX (g.d d).W (qD g (lW Y λ_=>0) d)) (yI (g.d d).W (qD g (lW Y λ_=>0) d) (mJ g d))) g.ds.length=0:=lJ λd hd'=>by
  have hq:∀k,k<mJ g d->qD g (lW Y λ_=>0) d k=0:=λk hk=>hd _ (G.lg d hd' k hk).1 _;have hov:∀k,k<=mJ g d->wM (g.d d).W (qD g (lW Y λ_=>0) d) k=0:=λk hk=>by
   rw[qw,pS λj hj=>by rw[hq j oO];exact bP,lJ λj hj=>hq j oO];rcases na (g.d d).W with g1|g1<;>rcases na (0-pQ (g.d d).W)with g2|g2<;>grind
  have hr:∀k,k<mJ g d->tX (g.d d).W (qD g (lW Y λ_=>0) d) k=0:=λk hk=>by
   unfold tX;rw[hov _ oO,hov _ oO];grind
  have hk:yI (g.d d).W (qD g (lW Y λ_=>0) d) (mJ g d)=0:=by
   unfold yI;rw[lJ hq,lJ hr];grind
  rw[yw (r':=λ_=>0) hr,hk];unfold pA;rw[lJ λk _=>by split<;>rfl];split<;>grind
 unfold F0;rw[h1,h2];grind
end
def sz (n:Nat):Nat:=(kQ n).size
theorem ru (m n:Nat):sz (m*n)<=sz m+sz n:=lY m n
theorem BT {m n:Nat} (h:m<=n):sz m<=sz n:=me h
theorem GB:sz 1=1:=qd
def Mu (D:Nat) (q:Rat):Prop:=∃z:Int,q*(D:Rat)=(z:Rat)
section
variable {D E : Nat} {p q : Rat}
theorem Mu.zero:Mu D 0:=⟨0,by rw[eD];rfl⟩
theorem Mu.one:Mu D 1:=⟨D,by rw[dZ,cx]⟩
theorem Mu.add (h:Mu D p) (g:Mu D q):Mu D (p+q):=by
 obtain⟨a,ha⟩:=h;obtain⟨b,hb⟩:=g;exact⟨a+b,by rw[i7,ha,hb,Rat.intCast_add]⟩
theorem Mu.sub (h:Mu D p) (g:Mu D q):Mu D (p-q):=by
 obtain⟨a,ha⟩:=h;obtain⟨b,hb⟩:=g;exact⟨a-b,by rw[j5,<-ha,<-hb];grind⟩
theorem Mu.mul (h:Mu D p) (g:Mu E q):Mu (D*E) (p*q):=by
 obtain⟨a,ha⟩:=h;obtain⟨b,hb⟩:=g;exact⟨a*b,by rw[eJ,<-ha,<-hb,ga];grind⟩
theorem Mu.wO (h:Mu D q) (k:Nat):Mu (D*k) q:=by
 have:=h.mul (E:=k) Mu.one;rwa[fg]at this
theorem Mu.dvd (h:Mu D q) (hd:D∣E):Mu E q:=by
 obtain⟨k,rfl⟩:=hd;exact h.wO k
theorem Mu.self (q:Rat):Mu q.den q:=⟨q.num,by
 have h:(q.den:Rat)≠0:=by
  have:=j4.2 q.den_pos;grind
 have:=gl (a:=(q.num:Rat)) h;rwa[<-fh,eE]at this⟩
theorem Mu.sum {n:Nat} {f:Nat->Rat} (h:∀i,i<n->Mu D (f i)):Mu D (ku f n):=by
 induction n with
 |zero=>exact Mu.zero
 |succ n ih=>exact(ih λi hi=>h i oO).add (h n oO)
theorem Mu.nO {α:Type} {f:α->Rat}:∀ {l:List α},(∀a∈l,Mu D (f a))->Mu D (nO f l)
 | [],_=>Mu.zero
 |_::_,h=>(h _ (aH ..)).add (Mu.nO λa ha=>h a (aJ _ ha))
theorem Mu.int (hD:0<D) (h:Mu D q) (h0:0<=q) {B:Nat} (hB:q<=(B:Rat)):∃a:Nat,q*(D:Rat)=(a:Rat)/\a<=B*D/\(0<q->0<a):=by
 obtain⟨z,hz⟩:=h;have hD0:(0:Rat)<D:=j4.2 hD;have hz0:0<=z:=by
  rw[<-Rat.intCast_nonneg,<-hz];exact i6 h0 (di hD0)
 obtain⟨a,rfl⟩:=Int.eq_ofNat_of_zero_le hz0;refine⟨a,by rw[hz,cx],?_,λhq=> ?_⟩
 ·have h1:q*(D:Rat)<=(B:Rat)*(D:Rat):=Rat.mul_le_mul_of_nonneg_right hB (di hD0);rw[hz,<-ga,<-cx (B*D),iP]at h1;omega
 ·have h1:0<q*(D:Rat):=Rat.mul_pos hq hD0;rw[hz,Rat.intCast_pos]at h1;omega
theorem Mu.size (hD:0<D) (h:Mu D q) (h0:0<=q) {B:Nat} (hB:q<=(B:Rat)):L q<=sz B+sz D:=by
 obtain⟨a,ha,hb,_⟩:=h.int hD h0 hB;have hD0:(0:Rat)<D:=j4.2 hD;have e:q=mkRat (a:Int) D:=by
  rw[fh,cx,<-ha,bT,iD,bW _ (by grind),fg]
 rw[e];refine B8 _ oO ?_ ?_
 ·rw[fN];exact cQ (BT hb) (ru _ _)
 ·exact Nat.le_add_left _ _
theorem Mu.quo {a:Nat} (h:Mu (D*E) p) (hq:q≠0) (ha:q*(E:Rat)=(a:Rat)):Mu (D*a) (p/q):=by
 obtain⟨z,hz⟩:=h;refine⟨z,?_⟩;rw[ga]at hz;rw[ga,<-ha,<-hz,bT];have:=bW q hq;grind
theorem Mu.dv (h:Mu E p) {s:Rat} {a:Nat} (hs:s≠0) (ha:s*(E:Rat)=(a:Rat)):Mu a (p/s):=by
 have:=Mu.quo (D:=1) (by rwa[dG]) hs ha;rwa[dG]at this
end
abbrev AA:Nat:=65536
abbrev QX:Nat:=67108864
theorem Ms:sz AA<=3/\sz (8*AA)<=3/\sz 1<=1/\sz 7<=1/\sz QX<=4/\sz 469762048<=4/\sz 2147483648<=4:=
 ⟨lK dD,lK dD,lK dD,lK dD,lK dD,lK dD,lK dD⟩
structure IK (D0:Nat) (t:Tr):Prop where
 n:t.ps.length<=8
 q:∀p∈t.ps,Mu D0 p.q/\p.q<=(AA:Rat)
theorem QO {D0:Nat}:∀ {l:List Pa},(∀p∈l,Mu D0 p.q/\p.q<=(AA:Rat))->Mu D0 (qs l)/\qs l<=((l.length*AA:Nat):Rat)/\∀c,Mu D0 (qU c l)
 | [],_=>⟨Mu.zero,by show(0:Rat)<=_;rw[gh,fA];exact bP,λ_=>Mu.zero⟩
 |p::l,h=>by
  obtain⟨h1,h2⟩:=h p (aH ..);obtain⟨a,b,c⟩:=QO λp hp=>h p (aJ _ hp);refine⟨h1.add a,?_,λk=> ?_⟩
  ·show p.q+qs l<=_;rw[aZ,bn,dG,gV];grind
  ·show Mu D0 ((if p.c=k then p.q else 0)+qU k l);refine Mu.add ?_ (c k);split
   ·exact h1
   ·exact Mu.zero
section
variable {D0 : Nat} {t : Tr} {T : List Tr} {m : Rat} {D : Nat}
theorem IK.s (h:IK D0 t) (ht:Ea t):Mu D0 t.sm/\t.sm<=((8*AA:Nat):Rat):=by
 obtain⟨a,b,_⟩:=QO h.q;rw[ht.s];refine⟨a,eW b ?_⟩;rw[<-cx,<-cx,iP];have:=aI AA h.n;omega
theorem IK.Ls (h:IK D0 t) (ht:Ea t) (h0:0<D0) (hs:sz D0<=2):L t.sm<=5:=by
 obtain⟨a,b⟩:=h.s ht;have:=a.size h0 ht.s0 b;have:=Ms.2.1;omega
theorem IK.Lq (h:IK D0 t) (ht:Ea t) (h0:0<D0) (hs:sz D0<=2) {p:Pa} (hp:p∈t.ps):L p.q<=5:=by
 obtain⟨a,b⟩:=h.q p hp;have:=a.size h0 (ht.q p hp) b;have:=Ms.1;omega
theorem AJ (hT:yR T) (hb:∀t∈T,IK D0 t) (h0:0<D0) (hs:sz D0<=2):yb T<=6*T.length:=by
 induction T with
 |nil=>exact aB _
 |cons t T ih=>
  have a:=(hb t (aH ..)).Ls hT.hd h0 hs;have b:=ih hT.tl λt ht=>hb t (aJ _ ht);rw[zu,aZ];omega
theorem JY (h0:0<D0) (hs:sz D0<=2):∀ {T:List Tr} {m:Rat},yR T->(∀t∈T,IK D0 t)->0<=m->Mu D m->D0∣D->∃Z,0<Z/\sz Z<=5/\(∀c,Mu Z (ys T m c))/\∀c,Mu (D*Z) (tP T m c)
 | [],_,_,_,_,_,_=>⟨1,dD,by rw[GB];decide,λ_=>Mu.zero,λ_=>Mu.zero⟩
 |t::T,m,hT,hb,hm,hD,hd=>by
  have bt:=hb t (aH ..);obtain⟨a,b⟩:=bt.s hT.hd;have ha:=(QO bt.q).2.2;by_cases g:m<t.sm
  ·have hsm:0<t.sm:=by grind
   obtain⟨Z,e1,e2,e3⟩:=a.int h0 hT.hd.s0 b;have hm1:∀c,Mu Z (qU c t.ps/t.sm):=λc=>(ha c).dv (wv hsm) e1;refine⟨Z,e3 hsm,?_,λc=> ?_,λc=> ?_⟩
   ·have:=BT e2;have:=ru (8*AA) D0;have:=Ms.2.1;omega
   ·rw[vq,aj g];have e:qU c t.ps*(1/t.sm)=qU c t.ps/t.sm:=by rw[bT,bT];grind
    rw[e];exact hm1 c
   ·rw[oE,aj g];have e:qU c t.ps*(m/t.sm)=m*(qU c t.ps/t.sm):=by rw[bT,bT];grind
    rw[e];exact hD.mul (hm1 c)
  ·obtain⟨Z,e1,e2,e3,e4⟩:=JY h0 hs (T:=T) (m:=m-t.sm) hT.tl (λt ht=>hb t (aJ _ ht)) (by grind) (hD.sub (a.dvd hd)) hd;refine⟨Z,e1,e2,λc=> ?_,λc=> ?_⟩
   ·rw[vq,ah g];exact e3 c
   ·rw[oE,ah g];exact(((ha c).dvd hd).wO Z).add (e4 c)
theorem Od:∀ {T:List Tr} {m:Rat} {c:Int},yR T->0<=m->tP T m c<=m
 | [],_,_,_,h=>h
 |t::T,m,c,hT,hm=>by
  have a:=hT.hd.a c;rw[oE];split
  ·next g=>
   have h1:=nT a.2 (C5 hm (show 0<t.sm by grind));have h2:=uc (a:=m) (show 0<t.sm by grind);grind
  ·have:=Od (T:=T) (m:=m-t.sm) (c:=c) hT.tl (by grind);grind
theorem Jq:∀ {T:List Tr} {m:Rat} {c:Int},yR T->0<=m->ys T m c<=1
 | [],_,_,_,_=>by show(0:Rat)<=1;decide
 |t::T,m,c,hT,hm=>by
  have a:=hT.hd.a c;rw[vq];split
  ·next g=>
   have h1:=nT a.2 (C5 (show(0:Rat)<=1 by decide) (show 0<t.sm by grind));have h2:=uc (a:=1) (show 0<t.sm by grind);grind
  ·exact Jq (T:=T) (m:=m-t.sm) (c:=c) hT.tl (by grind)
theorem JO (r:Rat) (k:Nat):∀ {l:List Pa},(∀p∈l,L p.q<=5)->L r<=k->Bq (l.map λp=>⟨p.c,p.q*r⟩)<=l.length*(6+k)
 | [],_,_=>aw _
 |p::l,h,hr=>by
  have a:=h p (aH ..);have b:=JO r k (λp hp=>h p (aJ _ hp)) hr;have c:=yr p.q r;rw[cJ,wY,aZ,bn];show L (p.q*r)+1+_<=_;omega
theorem Tn:∀ {l:List Pa},(∀p∈l,L p.q<=5)->Bq l<=l.length*6
 | [],_=>aw _
 |p::l,h=>by
  have a:=h p (aH ..);have b:=Tn λp hp=>h p (aJ _ hp);rw[wY,aZ,bn];omega
theorem JB (h0:0<D0) (hs:sz D0<=2) {Q l:Nat} (hl:sz Q+sz D<=l) (hD0:0<D):∀ {T:List Tr} {m:Rat},yR T->(∀t∈T,IK D0 t)->0<=m->m<=(Q:Rat)->Mu D m->D0∣D->Bq (rJ T m)<=T.length*(8*(l+11))
 | [],_,_,_,_,_,_,_=>aw _
 |t::T,m,hT,hb,hm,hQ,hD,hd=>by
  have bt:=hb t (aH ..);have hq:∀p∈t.ps,L p.q<=5:=λp hp=>bt.Lq hT.hd h0 hs hp;have hn:=bt.n;rw[xV,aZ,bn];split
  ·have h1:=hD.size hD0 hm hQ;have h2:=bt.Ls hT.hd h0 hs;have h3:=zk m t.sm;have h4:=JO (m/t.sm) (l+5) hq oO;have h5:=aI (6+(l+5)) hn;show Bq (t.ps.map λp=>⟨p.c,p.q*(m/t.sm)⟩)<=_;omega
  ·have h1:=Tn hq;have h2:=hT.hd.s0;have h3:=JB h0 hs hl hD0 (T:=T) (m:=m-t.sm) hT.tl (λt ht=>hb t (aJ _ ht)) (by grind) (by grind) (hD.sub (((bt.s hT.hd).1).dvd hd)) hd;rw[Cu];omega
theorem IX (h0:0<D0) (hs:sz D0<=2) {r:Rat} {k:Nat} (hr:L r<=k):∀ {T:List Tr} {m:Rat},yR T->(∀t∈T,IK D0 t)->Bq (qV T m r)<=8*(k+11)
 | [],_,_,_=>aw _
 |t::T,m,hT,hb=>by
  have bt:=hb t (aH ..);rw[xJ];split
  ·have h2:=bt.Ls hT.hd h0 hs;have h3:=zk r t.sm;have h4:=JO (r/t.sm) (k+5) (λp hp=>bt.Lq hT.hd h0 hs hp) oO;have h5:=aI (6+(k+5)) bt.n;show Bq (t.ps.map λp=>⟨p.c,p.q*(r/t.sm)⟩)<=_;omega
  ·exact IX h0 hs hr hT.tl λt ht=>hb t (aJ _ ht)
def QN:List Tr->Rat
 | []=>0
 |t::T=>t.sm+QN T
theorem IS:∀ {T:List Tr},yR T->0<=QN T
 | [],_=>bP
 |t::T,hT=>by
  have a:=hT.hd.s0;have b:=IS hT.tl;show 0<=t.sm+QN T;grind
theorem KI:∀ {T:List Tr} {m:Rat},yR T->mD T m<T.length->m+r4 T m<=QN T
 | [],_,_,h=>absurd h (aS _)
 |t::T,m,hT,h=>by
  rw[n8]at h;rw[uP];have b:=IS hT.tl;show _<=t.sm+QN T;split
  ·grind
  ·next g=>
   rw[ah g,aZ]at h;have:=KI (T:=T) (m:=m-t.sm) hT.tl oO;grind
theorem N4:∀ {T:List Tr} {m:Rat},yR T->0<=m->Sc T m<=QN T
 | [],_,_,_=>bP
 |t::T,m,hT,hm=>by
  have hs:=hT.hd.s;have b:=IS hT.tl;rw[zZ];show _<=t.sm+QN T;split
  ·rw[<-hs,uc (by grind)];grind
  ·have:=N4 (T:=T) (m:=m-t.sm) hT.tl (by grind);grind
theorem PV:∀ {T:List Tr},yR T->(∀t∈T,IK D0 t)->QN T<=((T.length*(8*AA):Nat):Rat)
 | [],_,_=>by show(0:Rat)<=_;rw[gh,fA];exact bP
 |t::T,hT,hb=>by
  have a:=((hb t (aH ..)).s hT.hd).2;have b:=PV hT.tl λt ht=>hb t (aJ _ ht);show t.sm+QN T<=_;rw[aZ,bn,dG,gV];grind
theorem JE:∀ {T:List Tr} {m:Rat},yR T->(∀t∈T,IK D0 t)->Mu D m->D0∣D->Mu D (r4 T m)
 | [],m,_,_,hD,_=>by
  show Mu D (0-(m-0));exact Mu.zero.sub (hD.sub Mu.zero)
 |t::T,m,hT,hb,hD,hd=>by
  have a:=(((hb t (aH ..)).s hT.hd).1).dvd hd;rw[uP];split
  ·exact a.sub hD
  ·exact JE hT.tl (λt ht=>hb t (aJ _ ht)) (hD.sub a) hd
end
structure JW (D0:Nat) (y:Ly):Prop where
 n:y.n<=7
 rl:y.rk.length<=8
 pn:y.pl.length<=2
 ml:∀p∈y.pl,p.mem.length<=7
 ll:∀p∈y.pl,p.ld.length<=4
 rm:∀t∈y.rk,IK D0 t
 lm:∀p∈y.pl,∀t∈p.ld,IK D0 t
structure NG (D0 D:Nat) (m:Rat):Prop where
 d0:0<D0
 s0:sz D0<=2
 Dp:0<D
 dv:D0∣D
 nn:0<=m
 le:m<=(QX:Rat)
 mu:Mu D m
 zz:200*(sz D+100)<=MX
theorem Ll {f:Nat->Rat} {b:Rat}:∀ {l:List Nat},(∀a∈l,f a<=b)->nO f l<=(l.length:Rat)*b
 | [],_=>by show(0:Rat)<=((0:Nat):Rat)*b;rw[show((0:Nat):Rat)=0 from rfl];grind
 |a::l,h=>by
  have h1:=h a (aH ..);have h2:=Ll λa ha=>h a (aJ _ ha);show f a+nO f l<=_;rw[aZ,gV,show((1:Nat):Rat)=1 from rfl];grind
theorem t5 {a b:Nat} (h:a<=b):(a:Rat)<=(b:Rat):=by
 rw[<-cx,<-cx,iP];omega
theorem VG {f:Nat->Rat} {b:Rat} (hb:0<=b) {l:List Nat} (hl:l.length<=7) (h:∀a∈l,f a<=b):nO f l<=7*b:=by
 have h1:=Ll h;have h2:=t5 hl;rw[show((7:Nat):Rat)=7 from rfl]at h2;have:=nT h2 hb;grind
theorem I6 {f:Nat->Rat} {k:Nat}:∀ {l:List Nat},(∀a∈l,L (f a)<=k)->GR l f<=l.length*(k+1)
 | [],_=>aw _
 |a::l,h=>by
  have h1:=h a (aH ..);have h2:=I6 λa ha=>h a (aJ _ ha);show L (f a)+1+GR l f<=_;rw[aZ,bn];omega
section
variable {D0 D : Nat} {y : Ly} {m : Rat}
theorem M1 (y:Ly) (m:Rat) (i k:Nat):(te y m i).c k=rG y (lP y m) k+nO (λp=>tP p.ld (PS y m p) k) (y.pl.take i):=CJ (L:=λp=>rJ p.ld (PS y m p)) k _ _
theorem I3 (y:Ly) (m:Rat) (i:Nat):(te y m i).r=0+nO (λp=>tP p.ld (PS y m p) (-1)) (y.pl.take i):=Jk (L:=λp=>rJ p.ld (PS y m p)) _ _
theorem Mt (y:Ly) (m:Rat) (i k:Nat):(ss y m i).c k=rG y (mH y m) k+nO (λp=>RS y m p*ys p.ld (PS y m p) k) (y.pl.take i):=by
 have h:=CJ (L:=λp=>qV p.ld (PS y m p) (RS y m p)) k (y.pl.take i) ⟨rG y (mH y m),0⟩;have e:nO (λp=>qU k (qV p.ld (PS y m p) (RS y m p))) (y.pl.take i)=nO (λp=>RS y m p*ys p.ld (PS y m p) k) (y.pl.take i):=n5 λp _=>CO _ _ _ _;rw[e]at h;exact h
theorem Jx (y:Ly) (m:Rat) (i:Nat):(ss y m i).r=0+nO (λp=>RS y m p*ys p.ld (PS y m p) (-1)) (y.pl.take i):=by
 have h:=Jk (L:=λp=>qV p.ld (PS y m p) (RS y m p)) (y.pl.take i) ⟨rG y (mH y m),0⟩;have e:nO (λp=>qU (-1) (qV p.ld (PS y m p) (RS y m p))) (y.pl.take i)=nO (λp=>RS y m p*ys p.ld (PS y m p) (-1)) (y.pl.take i):=n5 λp _=>CO _ _ _ _;rw[e]at h;exact h
structure Xq (y:Ly) (m:Rat) (D E:Nat):Prop where
 pos:0<E
 ez:sz E<=16
 rt:∀k,Mu E (mH y m k)
 gr:∀k,Mu (D*E) (lP y m k)
 ps:∀p∈y.pl,Mu (D*E) (PS y m p)/\Mu E (RS y m p)
 pl:∀p∈y.pl,∀c,Mu E (RS y m p*ys p.ld (PS y m p) c)/\Mu (D*E) (tP p.ld (PS y m p) c)
theorem GD (hy:pY y) (hb:JW D0 y) (hm:NG D0 D m):∃E,Xq y m D E:=by
 obtain⟨Z0,z1,z2,z3,z4⟩:=JY hm.d0 hm.s0 hy.rk hb.rm hm.nn hm.mu hm.dv;have hg:∀k,Mu (D*Z0) (lP y m k):=λk=>by rw[oS];exact z4 _
 have hr:∀k,Mu Z0 (mH y m k):=λk=>by rw[tW];exact z3 _
 have hP:∀p,Mu (D*Z0) (PS y m p):=λp=>by unfold PS;rw[pe];exact Mu.nO λa _=>hg a
 have hR:∀p,Mu Z0 (RS y m p):=λp=>by unfold RS;rw[pe];exact Mu.nO λa _=>hr a
 have key:∀l:List Pl,(∀p∈l,p∈y.pl)->∃Z,0<Z/\sz Z<=1+5*l.length/\∀p∈l,∀c,Mu Z (ys p.ld (PS y m p) c)/\Mu (D*Z0*Z) (tP p.ld (PS y m p) c):=by
  intro l;induction l with
  |nil=>exact λ_=>⟨1,dD,by rw[GB];exact aB _,λ_ h=>by cases h⟩
  |cons p l ih=>
   intro h;obtain⟨Z,a1,a2,a3⟩:=ih λq hq=>h q (aJ _ hq);have hp:=h p (aH ..);obtain⟨Z2,b1,b2,b3,b4⟩:=JY hm.d0 hm.s0 (D:=D*Z0) (hy.ld p hp) (hb.lm p hp) (ti hy hm.nn p) (hP p) (eC hm.dv ⟨Z0,rfl⟩);refine⟨Z2*Z,dH b1 a1,?_,λq hq c=> ?_⟩
   ·have:=ru Z2 Z;rw[aZ];omega
   ·rcases bM.1 hq with rfl|hq
    ·exact⟨(b3 c).wO Z,by rw[<-ba];exact(b4 c).wO Z⟩
    ·obtain⟨c1,c2⟩:=a3 q hq c;exact⟨c1.dvd ⟨Z2,bF _ _⟩,c2.dvd ⟨Z2,by rw[bF Z2 Z,<-ba]⟩⟩
 obtain⟨Z,a1,a2,a3⟩:=key y.pl λ_ h=>h;have hpn:=hb.pn;refine⟨Z0*Z,dH z1 a1,?_,λk=>(hr k).wO Z,λk=> ?_,λp _=>⟨?_,(hR p).wO Z⟩,λp hp c=> ?_⟩
 ·have:=ru Z0 Z;omega
 ·rw[<-ba];exact(hg k).wO Z
 ·rw[<-ba];exact(hP p).wO Z
 ·obtain⟨c1,c2⟩:=a3 p hp c;exact⟨(hR p).mul c1,by rw[<-ba];exact c2⟩
theorem Dw (hy:pY y) (hm:0<=m) (k:Nat):lP y m k<=m:=by rw[oS];exact Od hy.rk hm
theorem Ck (hy:pY y) (hm:0<=m) (k:Nat):mH y m k<=1:=by rw[tW];exact Jq hy.rk hm
theorem Qf (hy:pY y) (hb:JW D0 y) (hm:0<=m) {p:Pl} (hp:p∈y.pl):PS y m p<=7*m:=by
 unfold PS;rw[pe];exact VG hm (hb.ml p hp) λa _=>Dw hy hm a
theorem Oh (hy:pY y) (hb:JW D0 y) (hm:0<=m) {p:Pl} (hp:p∈y.pl):RS y m p<=7:=by
 have:=VG (f:=mH y m) (b:=1) dD (hb.ml p hp) λa _=>Ck hy hm a;unfold RS;rw[pe];grind
theorem Wj {f:Pl->Rat} {b:Rat} (h0:0<=b):∀ {l:List Pl},l.length<=2->(∀a∈l,f a<=b)->nO f l<=2*b
 | [],_,_=>by show(0:Rat)<=_;grind
 | [p],_,h=>by
  have h1:=h p (aH ..);show f p+0<=_;grind
 | [p,q],_,h=>by
  have h1:=h p (aH ..);have h2:=h q (aJ _ (aH ..));show f p+(f q+0)<=_;grind
 |_::_::_::_,hl,_=>by simp only[aZ]at hl;omega
theorem Lh {f:Nat->Rat} {b:Rat} (k:Nat) (h0:0<=b) (h:∀k,0<=f k/\f k<=b):0<=rG y f k/\rG y f k<=b:=by
 rw[pH];split
 ·exact⟨bP,h0⟩
 ·exact h k
theorem zR {f:Nat->Rat} (k:Nat) (h:∀k,Mu D (f k)):Mu D (rG y f k):=by
 rw[pH];split
 ·exact Mu.zero
 ·exact h k
structure XG (y:Ly) (m:Rat) (l:Nat):Prop where
 lm:L m<=l
 gr:∀k,L (lP y m k)<=l
 rt:∀k,L (mH y m k)<=20
 ps:∀p∈y.pl,L (PS y m p)<=l
 rs:∀p∈y.pl,L (RS y m p)<=20
 dl:∀i k,L ((te y m i).c k)<=l
 dr:∀i,L (te y m i).r<=l
 sl:∀i k,L ((ss y m i).c k)<=20
 sr:∀i,L (ss y m i).r<=20
theorem HR:((QX:Nat):Rat)=67108864:=rfl
theorem Nb (hy:pY y) (hb:JW D0 y) (hm:NG D0 D m):XG y m (sz D+20):=by
 obtain⟨E,e⟩:=GD hy hb hm;have hDE:=ru D E;have hE:=e.ez;have hle:=hm.le;have hDE0:0<D*E:=dH hm.Dp e.pos;obtain⟨_,_,s1,s7,sQ,s7Q,sB⟩:=Ms;have h0:=hm.nn;rw[HR]at hle;have hk:∀ {a b:Rat},0<=a->a<=7*m->a<=((469762048:Nat):Rat):=λ_ h=>by
  rw[show((469762048:Nat):Rat)=469762048 from rfl];grind
 have hsub:∀i,∀p∈y.pl.take i,p∈y.pl:=λi p hp=>gT hp;have hlen:∀i,(y.pl.take i).length<=2:=λi=>by have:=hb.pn;rw[dm];omega
 have hpy:∀p∈y.pl,∀c,0<=tP p.ld (PS y m p) c/\tP p.ld (PS y m p) c<=7*m:=λp hp c=>⟨En (hy.ld p hp) (ti hy h0 p),eW (Od (hy.ld p hp) (ti hy h0 p)) (Qf hy hb h0 hp)⟩;have hsp:∀p∈y.pl,∀c,0<=RS y m p*ys p.ld (PS y m p) c/\RS y m p*ys p.ld (PS y m p) c<=7:=λp hp c=>by
  have a1:=Hu (c:=c) (hy.ld p hp) (ti hy h0 p);have a2:=Jq (c:=c) (hy.ld p hp) (ti hy h0 p);have a3:=ER hy h0 p;have a4:=Oh hy hb h0 hp;have a5:=nT a2 a3;exact⟨nN a3 a1,by grind⟩
 have bpy:∀i (c:Int),0<=nO (λp=>tP p.ld (PS y m p) c) (y.pl.take i)/\nO (λp=>tP p.ld (PS y m p) c) (y.pl.take i)<=2*(7*m):=λi c=>⟨Ap λp hp=>(hpy p (hsub i p hp) c).1,Wj (by grind) (hlen i) λp hp=>(hpy p (hsub i p hp) c).2⟩;have bsp:∀i (c:Int),0<=nO (λp=>RS y m p*ys p.ld (PS y m p) c) (y.pl.take i)/\nO (λp=>RS y m p*ys p.ld (PS y m p) c) (y.pl.take i)<=2*7:=λi c=>⟨Ap λp hp=>(hsp p (hsub i p hp) c).1,Wj dD (hlen i) λp hp=>(hsp p (hsub i p hp) c).2⟩;have b31:∀ {a:Rat},a<=15*m->a<=((2147483648:Nat):Rat):=λh=>by
  rw[show((2147483648:Nat):Rat)=2147483648 from rfl];grind
 refine⟨?_,λk=> ?_,λk=> ?_,λp hp=> ?_,λp hp=> ?_,λi k=> ?_,λi=> ?_,λi k=> ?_,λi=> ?_⟩
 ·have:=hm.mu.size hm.Dp h0 hm.le;omega
 ·have:=(e.gr k).size hDE0 (zK hy h0) (eW (Dw hy h0 k) hm.le);omega
 ·have:=(e.rt k).size e.pos (zO hy h0) (B:=1) (Ck hy h0 k);omega
 ·have:=(e.ps p hp).1.size hDE0 (ti hy h0 p) (B:=469762048) (hk (b:=0) (ti hy h0 p) (Qf hy hb h0 hp));omega
 ·have:=(e.ps p hp).2.size e.pos (ER hy h0 p) (B:=7) (Oh hy hb h0 hp);omega
 ·have a:=Lh (y:=y) (f:=lP y m) k h0 λk=>⟨zK hy h0,Dw hy h0 k⟩;have b:=bpy i k;rw[M1];have:=((zR (y:=y) k e.gr).add (Mu.nO λp hp=>(e.pl p (hsub i p hp) k).2)).size hDE0 (by grind) (B:=2147483648) (b31 (by grind));omega
 ·have b:=bpy i (-1);rw[I3];have:=(Mu.zero.add (Mu.nO λp hp=>(e.pl p (hsub i p hp) (-1)).2)).size hDE0 (by grind) (B:=2147483648) (b31 (by grind));omega
 ·have a:=Lh (y:=y) (f:=mH y m) (b:=1) k dD λk=>⟨zO hy h0,Ck hy h0 k⟩;have b:=bsp i k;rw[Mt];have:=((zR (y:=y) k e.rt).add (Mu.nO λp hp=>(e.pl p (hsub i p hp) k).1)).size e.pos (by grind) (B:=QX) (by rw[HR];grind);omega
 ·have b:=bsp i (-1);rw[Jx];have:=(Mu.zero.add (Mu.nO λp hp=>(e.pl p (hsub i p hp) (-1)).1)).size e.pos (by grind) (B:=QX) (by rw[HR];grind);omega
theorem S7 {n:Nat} {T:List Tr} (hT:yR T) (hp:∀t∈T,∀p∈t.ps,zo n p):Jc n T:=⟨hp,λt ht=>(hT t ht).s0⟩
theorem Vz (hy:pY y) (hb:JW D0 y) (hm:NG D0 D m) {E:Nat} (e:Xq y m D E) {p:Pl} (hp:p∈y.pl):Bq (rJ p.ld (PS y m p))<=32*(sz D+31):=by
 obtain⟨_,_,s1,s7,sQ,s7Q,sB⟩:=Ms;have hDE:=ru D E;have hE:=e.ez;have hle:=hm.le;rw[HR]at hle;have h1:=JB hm.d0 hm.s0 (Q:=469762048) (D:=D*E) (l:=sz D+20) oO (dH hm.Dp e.pos) (hy.ld p hp) (hb.lm p hp) (ti hy hm.nn p) (by
  have:=Qf hy hb hm.nn hp;rw[show((469762048:Nat):Rat)=469762048 from rfl];grind) (e.ps p hp).1 (eC hm.dv ⟨E,rfl⟩)
 have h2:=aI (8*(sz D+20+11)) (hb.ll p hp);omega
theorem S1 (hy:pY y) (hb:JW D0 y) (hm:NG D0 D m):PZ y m:=by
 obtain⟨E,e⟩:=GD hy hb hm;have l:=Nb hy hb hm;have hsz:=hm.zz;have hL0:=oz;have hsT:=AJ hy.rk hb.rm hm.d0 hm.s0;have hrl:=hb.rl;have hlm:=l.lm;have hwr:Bq (rJ y.rk m)<=64*(sz D+31):=by
  have h1:=JB hm.d0 hm.s0 (Q:=QX) (D:=D) (l:=sz D+20) (by have:=Ms.2.2.2.2.1;omega) hm.Dp hy.rk hb.rm hm.nn hm.le hm.mu hm.dv;have h2:=aI (8*(sz D+20+11)) hb.rl;omega
 have hsl:∀p∈y.pl,yb p.ld<=24:=λp hp=>by
  have h1:=AJ (hy.ld p hp) (hb.lm p hp) hm.d0 hm.s0;have:=hb.ll p hp;omega
 refine⟨by have:=hb.n;omega,S7 hy.rk hy.rp,hm.nn,oO,⟨λk _=> ?_,?_⟩,λt ht p hp=> ?_,hy.mn,λp hp=>S7 (hy.ld p hp) (hy.lp p hp),λp hp=> ?_,λp hp=>ti hy hm.nn p,λp hp=> ?_,λi hi=> ?_,λp hp t ht q hq=> ?_⟩
 ·show L (0:Rat)+_<=MX;omega
 ·show L (0:Rat)+_<=MX;omega
 ·have:=(hb.rm t ht).Lq (hy.rk t ht) hm.d0 hm.s0 hp;omega
 ·have h1:=I6 (l:=p.mem) (f:=lP y m) λa _=>l.gr a;have h2:=aI (sz D+20+1) (hb.ml p hp);omega
 ·have h1:=l.ps p hp;have:=hsl p hp;show 2*(L (PS y m p)+yb p.ld+2)<=MX;omega
 ·have hp:y.pl.getD i wP∈y.pl:=kO _ _ _ hi;have h1:=Vz hy hb hm e hp;have h3:=l.dr i;refine⟨λk _=> ?_,?_⟩
  ·have h2:=l.dl i k;show _+Bq (rJ (y.pl.getD i wP).ld (PS y m (y.pl.getD i wP)))<=MX;omega
  ·show _+Bq (rJ (y.pl.getD i wP).ld (PS y m (y.pl.getD i wP)))<=MX;omega
 ·have h1:=l.ps p hp;have:=hsl p hp;have:=(hb.lm p hp t ht).Lq (hy.ld p hp t ht) hm.d0 hm.s0 hq;show _+L (PS y m p)+_+2<=MX;omega
theorem L3 (hy:pY y) (hb:JW D0 y) (hm:NG D0 D m):GZ y m:=by
 have l:=Nb hy hb hm;have hsz:=hm.zz;have hL0:=oz;have hL1:=Hd;have hsT:=AJ hy.rk hb.rm hm.d0 hm.s0;have hrl:=hb.rl;have hwr:=IX hm.d0 hm.s0 (r:=1) (k:=1) (m:=m) oO hy.rk hb.rm;have hsl:∀p∈y.pl,yb p.ld<=24:=λp hp=>by
  have h1:=AJ (hy.ld p hp) (hb.lm p hp) hm.d0 hm.s0;have:=hb.ll p hp;omega
 refine⟨S1 hy hb hm,⟨λk _=> ?_,?_⟩,λt ht p hp=> ?_,λp hp=> ?_,λi hi=> ?_,λp hp=> ?_,λp hp t ht q hq=> ?_⟩
 ·show L (0:Rat)+_<=MX;omega
 ·show L (0:Rat)+_<=MX;omega
 ·have:=(hb.rm t ht).Lq (hy.rk t ht) hm.d0 hm.s0 hp;omega
 ·have h1:=I6 (l:=p.mem) (f:=mH y m) λa _=>l.rt a;have h2:=aI (20+1) (hb.ml p hp);omega
 ·have hp:y.pl.getD i wP∈y.pl:=kO _ _ _ hi;have h1:=IX hm.d0 hm.s0 (r:=RS y m (y.pl.getD i wP)) (k:=20) (m:=PS y m (y.pl.getD i wP)) (l.rs _ hp) (hy.ld _ hp) (hb.lm _ hp);have h3:=l.sr i;refine⟨λk _=> ?_,?_⟩
  ·have h2:=l.sl i k;show _+Bq (qV (y.pl.getD i wP).ld (PS y m (y.pl.getD i wP)) (RS y m (y.pl.getD i wP)))<=MX;omega
  ·show _+Bq (qV (y.pl.getD i wP).ld (PS y m (y.pl.getD i wP)) (RS y m (y.pl.getD i wP)))<=MX;omega
 ·have h1:=l.rs p hp;have:=hsl p hp;show L (RS y m p)+_<=MX;omega
 ·have h1:=l.rs p hp;have:=hsl p hp;have:=(hb.lm p hp t ht).Lq (hy.ld p hp t ht) hm.d0 hm.s0 hq;show _+L (RS y m p)+_+2<=MX;omega
end
section
variable {D0 D : Nat} {y : Ly} {m : Rat}
theorem Tk {T:List Tr} (hT:yR T) (hb:∀t∈T,IK D0 t) (h0:0<D0) (hs:sz D0<=2) (m:Rat):L (r4 T m)<=L m+yb T+8:=by
 have h1:=F8 T m (tJ T m);have h2:=tC (T.getD (mD T m) sw).sm (r9 T m);have h3:L (T.getD (mD T m) sw).sm<=5:=by
  by_cases g:mD T m<T.length
  ·have hm:=kO T _ sw g;exact(hb _ hm).Ls (hT _ hm) h0 hs
  ·rw[ak,dj oO];have:=oz;show L (0:Rat)<=5;omega
 show L ((T.getD (mD T m) sw).sm-r9 T m)<=_;have h4:L (r9 T m)<=L m+yb T+2:=h1;omega
theorem SU (hy:pY y) (hb:JW D0 y) (hm:NG D0 D m):(∀p∈y.pl,L (r4 p.ld (PS y m p))<=sz D+60/\L (yh y m p)<=sz D+90)/\∀i,L (xk y m i)<=sz D+90:=by
 have l:=Nb hy hb hm;have hlm:=l.lm;have h1:∀p∈y.pl,L (r4 p.ld (PS y m p))<=sz D+60/\L (yh y m p)<=sz D+90:=λp hp=>by
  have a:=Tk (hy.ld p hp) (hb.lm p hp) hm.d0 hm.s0 (PS y m p);have b:=AJ (hy.ld p hp) (hb.lm p hp) hm.d0 hm.s0;have c:=hb.ll p hp;have d:=l.ps p hp;have e:=l.rs p hp;have f:L (yh y m p)<=_:=zk (r4 p.ld (PS y m p)) (RS y m p);exact⟨oO,oO⟩
 refine⟨h1,λi=> ?_⟩;rcases(Cq y m (y.pl.take i) (r4 y.rk m)).2.2 with e|⟨p,hp,_,e⟩
 ·have a:=Tk hy.rk hb.rm hm.d0 hm.s0 m;have b:=AJ hy.rk hb.rm hm.d0 hm.s0;have c:=hb.rl;show L ((y.pl.take i).foldl (tH y m) (r4 y.rk m))<=_;rw[e];omega
 ·show L ((y.pl.take i).foldl (tH y m) (r4 y.rk m))<=_;rw[e];exact(h1 p (gT hp)).2
theorem VF (hy:pY y) (hb:JW D0 y) (hm:NG D0 D m):TN y m:=by
 obtain⟨h1,h2⟩:=SU hy hb hm;have l:=Nb hy hb hm;have:=hm.zz;refine⟨L3 hy hb hm,λp hp=> ?_,λi hi=> ?_⟩
 ·have a:=(h1 p hp).1;have b:=l.rs p hp;show L (r4 p.ld (PS y m p))+L (RS y m p)<=MX;omega
 ·have a:=h2 i;have b:=(h1 _ (kO y.pl i wP hi)).2;omega
theorem SN (hy:pY y) (hb:JW D0 y) (hm:NG D0 D m) (hf:mD y.rk m<y.rk.length):∃D',0<D'/\D∣D'/\sz D'<=sz D+30/\Mu D' (z8 y m)/\0<=z8 y m/\z8 y m<=(QX:Rat):=by
 obtain⟨E,e⟩:=GD hy hb hm;have hp:=GG hf;have h0:=hm.nn;have hle:z8 y m<=(QX:Rat):=by
  have a:=(uS y m).1;have b:=KI hy.rk hf;have c:=PV hy.rk hb.rm;have d:=t5 (show y.rk.length*(8*AA)<=QX by have:=hb.rl;show y.rk.length*524288<=67108864;omega);show m+CD y m<=_;grind
 have hnn:0<=z8 y m:=by show 0<=m+CD y m;grind
 rcases(uS y m).2.2 with g|⟨p,hp',hc,g⟩
 ·refine⟨D,hm.Dp,⟨1,(eN _).symm⟩,oO,?_,hnn,hle⟩;show Mu D (m+CD y m);rw[g];exact hm.mu.add (JE hy.rk hb.rm hm.mu hm.dv)
 ·obtain⟨r,r1,r2,r3⟩:=(e.ps p hp').2.int e.pos (ER hy h0 p) (B:=7) (Oh hy hb h0 hp');have hR:0<RS y m p:=hc.2;refine⟨D*r,dH hm.Dp (r3 hR),⟨r,rfl⟩,?_,?_,hnn,hle⟩
  ·have:=ru D r;have:=BT r2;have:=ru 7 E;have:=Ms.2.2.2.1;have:=e.ez;omega
  ·show Mu (D*r) (m+CD y m);rw[g];exact(hm.mu.wO r).add (Mu.quo (JE (hy.ld p hp') (hb.lm p hp') (e.ps p hp').1 (eC hm.dv ⟨E,rfl⟩)) (wv hR) r1)
theorem Wh (hy:pY y) (hb:JW D0 y) (m0:Rat):∀(f:Nat) (m:Rat) (D:Nat),NG D0 D m->wB y m<f->200*(sz D+30*f+100)<=MX->VY y m0 f m
 |0,_,_,_,h,_=>absurd h (aS _)
 |f+1,m,D,hm,hmu,hs=>by
  obtain⟨h1,h2⟩:=SU hy hb hm;have l:=Nb hy hb hm;refine⟨VF hy hb hm,λhf=> ?_⟩;obtain⟨D',d1,d2,d3,d4,d5,d6⟩:=SN hy hb hm hf;have hm':NG D0 D' (z8 y m):=⟨hm.d0,hm.s0,d1,eC hm.dv d2,d5,d6,d4,oO⟩;have hst:wB y (z8 y m)<wB y m:=Hz hy hm.nn hf;refine⟨?_,L3 hy hb hm',λ_=>Wh hy hb m0 f _ D' hm' oO oO⟩;have:=h2 y.pl.length;have:=l.lm;omega
theorem PY (hy:pY y) (hb:JW D0 y) (m0:Rat):∀(f:Nat) (m:Rat) (D:Nat),NG D0 D m->200*(sz D+30*f+100)<=MX->∀z,GM y m0 f m=some z->∃D',0<D'/\D∣D'/\sz D'<=sz D+30*f/\Mu D' z/\0<=z/\z<=(QX:Rat)
 |0,_,_,_,_,_,h=>by cases h
 |f+1,m,D,hm,hs,z,h=>by
  unfold GM at h;by_cases hf:mD y.rk m<y.rk.length
  ·obtain⟨D',d1,d2,d3,d4,d5,d6⟩:=SN hy hb hm hf;rw[aj hf]at h;split at h
   ·obtain⟨D2,e1,e2,e3,e4⟩:=PY hy hb m0 f _ D' ⟨hm.d0,hm.s0,d1,eC hm.dv d2,d5,d6,d4,oO⟩ oO z h;exact⟨D2,e1,eC d2 e2,oO,e4⟩
   ·obtain rfl:=bK h;exact⟨D',d1,d2,oO,d4,d5,d6⟩
  ·rw[ah hf]at h;cases h
theorem Of (hb:JW D0 y) (m:Rat):wB y m<=16:=by
 have h1:=hb.rl;have h2:∀l:List Pl,(∀p∈l,p.ld.length<=4)->(l.map λp=>p.ld.length-mD p.ld (PS y m p)).sum<=4*l.length:=λl=>by
  induction l with
  |nil=>exact λ_=>aB _
  |cons p l ih=>
   intro h;have a:=h p (aH ..);have b:=ih λp hp=>h p (aJ _ hp);rw[cJ,iF,aZ];omega
 have h3:=h2 y.pl hb.ll;have h4:=hb.pn;unfold wB;omega
end
theorem Al {f:Nat->Rat} {k:Nat}:∀ {n:Nat},(∀i,i<n->L (f i)<=k)->L (ku f n)<=n*(k+1)+1
 |0,_=>by rw[show ku f 0=0 from rfl,oz];omega
 |n+1,h=>by
  have a:=Al (n:=n) λi hi=>h i oO;have b:=h n oO;have c:=Bi (ku f n) (f n);show L (ku f n+f n)<=_;rw[bn];omega
theorem Kh {f:Nat->Rat} {K:Nat}:∀ {n:Nat},(∀i,i<n->L (f i)<=K)->∃D:Nat,0<D/\sz D<=n*K+1/\∀i,i<n->Mu D (f i)
 |0,_=>⟨1,dD,by rw[GB];omega,λ_ h=>absurd h (aS _)⟩
 |n+1,h=>by
  obtain⟨D,h1,h2,h3⟩:=Kh (n:=n) λi hi=>h i oO;have hn:=h n oO;have hd:sz (f n).den<=K:=cQ (tB _) hn;refine⟨D*(f n).den,dH h1 (f n).den_pos,?_,λi hi=> ?_⟩
  ·have:=ru D (f n).den;rw[bn];omega
  ·by_cases e:i=n
   ·rw[e];exact(Mu.self _).dvd ⟨D,bF _ _⟩
   ·exact(h3 i oO).wO _
theorem TY {q:Rat} (h:0<=q):q<=((q.num.natAbs:Nat):Rat):=by
 obtain⟨a,ha⟩:∃a:Rat,a=(q.den:Rat):=⟨_,rfl⟩;have h1:(1:Rat)<=a:=by rw[ha];exact t5 q.den_pos
 have h2:q*a=(q.num:Rat):=by
  obtain⟨z,hz⟩:=Mu.self q;have h3:=gl (a:=(q.num:Rat)) (b:=(q.den:Rat)) (by rw[<-ha];grind);rw[<-fh,eE]at h3;rw[ha];exact h3
 have h4:=nT h1 h;have h5:0<=q.num:=Rat.num_nonneg.2 h;rw[<-cx,Int.natAbs_of_nonneg h5,<-h2];grind
theorem whole {q:Rat} {E K:Nat} (hq:0<q) (hE:0<E) (h:Mu E q) (hL:L q<=K):∃r:Nat,q*(E:Rat)=(r:Rat)/\0<r/\sz r<=K+sz E:=by
 obtain⟨r,r1,r2,r3⟩:=h.int hE (di hq) (TY (di hq));refine⟨r,r1,r3 hq,?_⟩;have h1:=BT r2;have h2:=ru q.num.natAbs E;have h3:sz q.num.natAbs<=L q:=uf q;omega
structure xq (D0:Nat) (g:nq) (Y:Nat->Ly):Prop where
 d0:0<D0
 s0:sz D0<=2
 n0:0<g.n
 n:g.n<=8
 dn:g.ds.length<=6
 ln:∀d,d<g.ds.length->mJ g d<=4
 ly:∀i,i<g.n->JW D0 (Y i)
 cash:∀i,i<g.n->Mu D0 (Bu g i)/\Bu g i<=(AA:Rat)
 W:∀d,d<g.ds.length->0<=(g.d d).W/\Mu D0 (g.d d).W/\(g.d d).W<=(AA:Rat)
 tot:∀i,i<g.n->L (Y i).tot<=20
structure Aj (D0 D:Nat) (g:nq) (x:Nat->Rat):Prop where
 Dp:0<D
 dv:D0∣D
 mu:∀i,i<g.n->Mu D (x i)
 nn:∀i,i<g.n->0<=x i
 le:∀i,i<g.n->x i<=(QX:Rat)
 zz:200*(sz D+700)<=MX
section
variable {D0 D : Nat} {g : nq} {Y : Nat → Ly} {B : Nat → Nat → Bool} {x d : Nat → Rat}
theorem Aj.mo (X:Aj D0 D g x) (b:xq D0 g Y) {i:Nat} (hi:i<g.n):NG D0 D (x i):=⟨b.d0,b.s0,X.Dp,X.dv,X.nn i hi,X.le i hi,X.mu i hi,by have:=X.zz;omega⟩
theorem XJ (G:n7 g Y B) (b:xq D0 g Y) {i:Nat} (hi:i<g.n):g.cn i<=7:=by have:=(b.ly i hi).n;rw[G.yn i hi]at this;exact this
theorem FZ (G:n7 g Y B) (b:xq D0 g Y) (X:Aj D0 D g x):(∀i,i<g.n->∀c,L (lW Y x i c)<=sz D+20/\L (o4 Y x i c)<=20):=λi hi c=>by
 have l:=Nb (G.ly i hi) (b.ly i hi) (X.mo b hi);exact⟨l.dl _ c,l.sl _ c⟩
theorem WL (b:xq D0 g Y) {d:Nat} (hd:d<g.ds.length):L (g.d d).W<=5:=by
 obtain⟨h1,h2,h3⟩:=b.W d hd;have:=h2.size b.d0 h1 h3;have:=Ms.1;have:=b.s0;omega
theorem Ro (q:Rat):L (pQ q)<=L q+1:=Iz q
theorem SX (G:n7 g Y B) (b:xq D0 g Y) (X:Aj D0 D g x) {i:Nat} (hi:i<g.n):∃E,0<E/\sz E<=16/\(∀c,Mu E (o4 Y x i c))/\∀c,Mu (D*E) (lW Y x i c):=by
 obtain⟨E,e⟩:=GD (G.ly i hi) (b.ly i hi) (X.mo b hi);refine⟨E,e.pos,e.ez,λc=> ?_,λc=> ?_⟩
 ·show Mu E (sC (Y i) (x i) c);rw[HS];exact(zR c e.rt).add (Mu.nO λp hp=>(e.pl p hp c).1)
 ·show Mu (D*E) (dC (Y i) (x i) c);rw[yk];exact(zR c e.gr).add (Mu.nO λp hp=>(e.pl p hp c).2)
theorem UT (G:n7 g Y B) (b:xq D0 g Y) (X:Aj D0 D g x):∃E,0<E/\sz E<=129/\∀i,i<g.n->(∀c,Mu E (o4 Y x i c))/\∀c,Mu (D*E) (lW Y x i c):=by
 have key:∀n,n<=g.n->∃E,0<E/\sz E<=16*n+1/\∀i,i<n->(∀c,Mu E (o4 Y x i c))/\∀c,Mu (D*E) (lW Y x i c):=by
  intro n;induction n with
  |zero=>exact λ_=>⟨1,dD,by rw[GB];omega,λ_ h=>absurd h (aS _)⟩
  |succ n ih=>
   intro hn;obtain⟨E,h1,h2,h3⟩:=ih oO;obtain⟨F,f1,f2,f3,f4⟩:=SX G b X (i:=n) oO;refine⟨E*F,dH h1 f1,by have:=ru E F;omega,λi hi=> ?_⟩;by_cases e:i=n
   ·rw[e];exact⟨λc=>(f3 c).dvd ⟨E,bF _ _⟩,λc=>(f4 c).dvd ⟨E,by rw[bF E F,ba]⟩⟩
   ·obtain⟨a,c⟩:=h3 i oO;exact⟨λk=>(a k).wO F,λk=>by rw[<-ba];exact(c k).wO F⟩
 obtain⟨E,h1,h2,h3⟩:=key g.n (aB _);have:=b.n;exact⟨E,h1,oO,h3⟩
theorem F6 {q:Nat->Rat} {k n:Nat} (hn:n<=4) (h:∀j,j<n->L (q j)<=k):L (oC q n)<=4*(k+2)+1:=by
 have h1:=Al (f:=λj=>pQ (q j)) (k:=k+1) (n:=n) λj hj=>by have:=h j hj;have:=Ro (q j);omega
 have h2:=aI (k+1+1) hn;show L (ku (λj=>pQ (q j)) n)<=_;omega
theorem Lt (G:n7 g Y B) (b:xq D0 g Y) (X:Aj D0 D g x) {i j:Nat} (hi:i<g.n) (hj:j<g.n):L (qP g Y B x j i)<=17:=by
 obtain⟨E,h1,h2,h3,_⟩:=SX G b X hi;have hM:=yp (B:=B) G X.nn;have e:qP g Y B x j i=G7 g B (lW Y x) (o4 Y x) j i:=KZ G.ho G.lg hi j;have how:∀d,d<g.ds.length->∀k,Mu E (rN g (o4 Y x) d i k):=λd hd k=>by
  unfold rN;split
  ·next g1=>rw[g1];exact h3 _
  ·exact Mu.zero
 have hov:∀d,d<g.ds.length->∀k,k<=mJ g d->Mu E (yc (g.d d).W (qD g (lW Y x) d) (rN g (o4 Y x) d i) k):=λd hd k hk=>by
  rw[tZ _ _ λj hj=>CZ G (HX G X.nn) hd i oO];have hs:Mu E (ku (rN g (o4 Y x) d i) k):=Mu.sum λj _=>how d hd j;split
  ·rw[dZ];exact hs
  ·rw[eD];exact Mu.zero
 have hmu:Mu E (qP g Y B x j i):=by
  rw[e];unfold G7 pT;refine Mu.add (Mu.sum λc _=> ?_) (Mu.sum λd hd=> ?_)
  ·split
   ·exact h3 c
   ·exact Mu.zero
  ·unfold pA;refine Mu.add (Mu.sum λk hk=> ?_) ?_
   ·split
    ·show Mu E (yc _ _ _ (k+1)-yc _ _ _ k);exact(hov d hd (k+1) hk).sub (hov d hd k oO)
    ·exact Mu.zero
   ·split
    ·unfold Ec;rw[ux];exact(Mu.sum λk _=>how d hd k).sub (hov d hd _ (aB _))
    ·exact Mu.zero
 have hle:qP g Y B x j i<=((1:Nat):Rat):=eW (zq (f:=λj=>qP g Y B x j i) (λj hj=>hM.nn j hj i hi) j hj) (hM.cs i hi);have:=hmu.size h1 (hM.nn j hj i hi) hle;have:=Ms.2.2.1;omega
theorem yU {α:Type} {f:Nat->List α} {k:Nat} {o:α}:o∈mT f k↔∃i,i<k/\o∈f i:=by
 unfold mT;rw[dK];constructor
 ·rintro⟨i,h1,h2⟩;exact⟨i,cZ.1 h1,h2⟩
 ·rintro⟨i,h1,h2⟩;exact⟨i,cZ.2 h1,h2⟩
theorem xZ {α:Type} {f:Nat->List α} {b:Nat}:∀ {k:Nat},(∀i,i<k->(f i).length<=b)->(mT f k).length<=k*b
 |0,_=>by show 0<=_;omega
 |k+1,h=>by
  have a:=xZ (k:=k) λi hi=>h i oO;have c:=h k oO;rw[pd,ax,bn];omega
theorem OO (G:n7 g Y B) (b:xq D0 g Y) (X:Aj D0 D g x) {d:Nat} (hd:d<g.ds.length) (i:Nat) {k:Nat} (hk:k<mJ g d):L (rN g (o4 Y x) d i k)<=20:=by
 unfold rN;split
 ·exact(FZ G b X _ (G.lg d hd k hk).1 _).2
 ·have:=oz;omega
theorem U6 (G:n7 g Y B) (b:xq D0 g Y) (X:Aj D0 D g x) {d:Nat} (hd:d<g.ds.length) (i:Nat) {k:Nat} (hk:k<mJ g d):L (wR g (lW Y x) (o4 Y x) d i k)<=200:=by
 have hl:=b.ln d hd;have h:∀k,k<=mJ g d->L (yc (g.d d).W (qD g (lW Y x) d) (rN g (o4 Y x) d i) k)<=89:=λk hk=>by
  cases k with
  |zero=>have:=oz;show L (0:Rat)<=_;omega
  |succ k=>
   show L (if _ then _ else _)<=_;split
   ·exact F6 (k:=20) oO λj hj=>OO G b X hd i oO
   ·have:=oz;omega
 have h1:=h (k+1) hk;have h2:=h k oO;have h3:=tC (yc (g.d d).W (qD g (lW Y x) d) (rN g (o4 Y x) d i) (k+1)) (yc (g.d d).W (qD g (lW Y x) d) (rN g (o4 Y x) d i) k);show L (yc _ _ _ (k+1)-yc _ _ _ k)<=200;omega
theorem Vm (G:n7 g Y B) (b:xq D0 g Y) (X:Aj D0 D g x) {d:Nat} (hd:d<g.ds.length) (i:Nat):L (ku (rN g (o4 Y x) d i) (mJ g d))<=85/\L (ku (wR g (lW Y x) (o4 Y x) d i) (mJ g d))<=805:=by
 have hl:=b.ln d hd;have h1:=Al (f:=rN g (o4 Y x) d i) (k:=20) (n:=mJ g d) λk hk=>OO G b X hd i hk;have h2:=Al (f:=wR g (lW Y x) (o4 Y x) d i) (k:=200) (n:=mJ g d) λk hk=>U6 G b X hd i hk;have h3:=aI (20+1) hl;have h4:=aI (200+1) hl;exact⟨oO,oO⟩
theorem Uz (G:n7 g Y B) (b:xq D0 g Y) (X:Aj D0 D g x):(I4 g B (lW Y x) (o4 Y x)).length<=300/\∀o∈I4 g B (lW Y x) (o4 Y x),o.1<g.n/\o.2.1<g.n/\L o.2.2<=1000:=by
 refine⟨?_,λo ho=> ?_⟩
 ·have h1:=xZ (f:=Bx g B (o4 Y x)) (b:=7) (k:=g.n) λi hi=>by
   have h:=xZ (f:=tu g B (o4 Y x) i) (b:=1) (k:=g.cn i) λc _=>by unfold tu;split<;>simp
   have:=XJ G b hi;unfold Bx;omega
  have h2:=xZ (f:=D8 g (lW Y x) (o4 Y x)) (b:=40) (k:=g.ds.length) λd hd=>by
   have h:=xZ (f:=wS g (lW Y x) (o4 Y x) d) (b:=5) (k:=g.n) λi _=>by
    have h:=xZ (f:=ye g (lW Y x) (o4 Y x) d i) (b:=1) (k:=mJ g d) λj _=>aB _;have h4:=b.ln d hd;have h5:(AD g (lW Y x) (o4 Y x) d i).length<=1:=by unfold AD;split<;>simp
    unfold wS;rw[ax];omega
   have:=b.n;unfold D8;omega
  have:=b.n;have:=b.dn;unfold I4;rw[ax];omega
 ·unfold I4 at ho;rcases bN.1 ho with ho|ho
  ·obtain⟨i,hi,ho⟩:=yU.1 ho;obtain⟨c,hc,ho⟩:=yU.1 ho;unfold tu at ho;split at ho
   ·next g1=>
    obtain rfl:=aO.1 ho;obtain⟨a,ha,ea⟩:=G.ho i hi c hc g1.1;refine⟨?_,hi,?_⟩
    ·show(g.c i c).h.toNat<g.n;rw[ea];omega
    ·have:=(FZ G b X i hi c).2;show L (o4 Y x i c)<=1000;omega
   ·cases ho
  ·obtain⟨d,hd,ho⟩:=yU.1 ho;obtain⟨i,hi,ho⟩:=yU.1 ho;rcases bN.1 ho with ho|ho
   ·obtain⟨k,hk,ho⟩:=yU.1 ho;obtain rfl:=aO.1 ho;refine⟨(G.lg d hd k hk).1,hi,?_⟩;have:=U6 G b X hd i hk;show L (wR g (lW Y x) (o4 Y x) d i k)<=1000;omega
   ·unfold AD at ho;split at ho
    ·next g1=>
     obtain rfl:=aO.1 ho;obtain⟨a,ha,ea⟩:=G.ho (g.lg d 0).1 (G.lg d hd 0 g1.1).1 (g.lg d 0).2 (G.lg d hd 0 g1.1).2 g1.2;have ea':HI g d=a:=ea;refine⟨?_,hi,?_⟩
     ·show(HI g d).toNat<g.n;rw[ea'];omega
     ·obtain⟨h1,h2⟩:=Vm G b X hd i;have:=tC (ku (rN g (o4 Y x) d i) (mJ g d)) (ku (wR g (lW Y x) (o4 Y x) d i) (mJ g d));show L (ku (rN g (o4 Y x) d i) (mJ g d)-ku (wR g (lW Y x) (o4 Y x) d i) (mJ g d))<=1000;omega
    ·cases ho
theorem Vw {k:Nat} (a c:Nat):∀(T:List JJ) (M:Mx),L (M a c)<=k->(∀o∈T,L o.2.2<=1000)->L (T.foldl (λM o=>rV M o.1 o.2.1 o.2.2) M a c)<=k+1001*T.length
 | [],_,h,_=>h
 |o::T,M,h,hT=>by
  have h1:=hT o (aH ..);have h2:L (rV M o.1 o.2.1 o.2.2 a c)<=k+1001:=by
   unfold rV;split
   ·next e=>
    have:=Bi (M o.1 o.2.1) o.2.2;rw[e.1,e.2]at h;omega
   ·omega
  have:=Vw a c T (rV M o.1 o.2.1 o.2.2) h2 λo ho=>hT o (aJ _ ho);show L (T.foldl _ (rV M o.1 o.2.1 o.2.2) a c)<=_;rw[aZ];omega
abbrev Tf:Nat:=30000000000
theorem VR (G:n7 g Y B) (b:xq D0 g Y) (X:Aj D0 D g x):W5 g B (lW Y x) (o4 Y x) Tf:=by
 have hz:=X.zz;have hMX:MX=1099511627776:=rfl;have hK2:Tf=30000000000:=rfl;obtain⟨g1,g2⟩:=Uz G b X;have hq:∀d,d<g.ds.length->∀j,j<mJ g d->L (qD g (lW Y x) d j)<=sz D+20:=λd hd j hj=>(FZ G b X _ (G.lg d hd j hj).1 _).1;refine⟨λP o hP=> ?_,λd hd=> ?_,λd hd j hj=>⟨?_,λi _=> ?_⟩,λd hd j hj=>⟨?_,λi _=> ?_⟩,dD,λd hd i _=> ?_,λd hd=>by have:=b.ln d hd;omega⟩
 ·have hmem:∀o'∈P++[o],o'∈I4 g B (lW Y x) (o4 Y x):=λo' ho'=>hP.subset ho';obtain⟨o1,o2,o3⟩:=g2 o (hmem o (i3 _ (aO.2 rfl)));refine⟨o1,o2,?_⟩;have hl:=hP.length_le;rw[ax]at hl;have h0:=oz;have:=Vw (k:=1) o.1 o.2.1 P (λ_ _=>0) (by show L (0:Rat)<=1;omega) λo' ho'=>(g2 o' (hmem o' (gU _ ho'))).2.2;show L (P.foldl (λM o=>rV M o.1 o.2.1 o.2.2) (λ_ _=>0) o.1 o.2.1)+_<=MX;omega
 ·have:=WL b hd;omega
 ·have:=hq d hd j hj;omega
 ·have:=OO G b X hd i hj;omega
 ·have:=F6 (q:=qD g (lW Y x) d) (k:=sz D+20) (n:=j) (by have:=b.ln d hd;omega) λk hk=>hq d hd k oO;omega
 ·have:=F6 (q:=rN g (o4 Y x) d i) (k:=20) (n:=j) (by have:=b.ln d hd;omega) λk hk=>OO G b X hd i oO;omega
 ·have hl:=b.ln d hd;obtain⟨h1,h2⟩:=Vm G b X hd i;have hs:∀(f:Nat->Rat) (k n:Nat),(∀j,j<n->L (f j)<=k)->ya (kD n λj=>ki (f j))<=n*(k+1):=λf k n h=>by
   induction n with
   |zero=>exact aw _
   |succ n ih=>
    have a:=ih λj hj=>h j oO;have c:=h n oO;rw[pg,bn,uo];show ya (kD n λj=>ki (f j))+(Lr (ki (f n))+1+0)<=_;rw[Lr_ofQ];omega
  have e1:=hs (rN g (o4 Y x) d i) 20 (mJ g d) λj hj=>OO G b X hd i hj;have e2:=hs (wR g (lW Y x) (o4 Y x) d i) 200 (mJ g d) λj hj=>U6 G b X hd i hj;have h3:=aI (20+1) hl;have h4:=aI (200+1) hl;exact⟨oO,oO,oO⟩
theorem WT (G:n7 g Y B) (b:xq D0 g Y) (X:Aj D0 D g x) {c:Nat} (hc:c<g.n):Nr (qP g Y B x) g.n c:=by
 have hMX:MX=1099511627776:=rfl;have h:∀i,i<=g.n->L (rL (qP g Y B x) c i)<=8*18+1:=λi hi=>by
  have h1:=Al (f:=λi=>qP g Y B x i c) (k:=17) (n:=i) λj hj=>Lt G b X hc oO;have h2:=aI (17+1) (show i<=8 by have:=b.n;omega);show L (ku (λi=>qP g Y B x i c) i)<=_;omega
 refine⟨λi hi=> ?_,?_⟩
 ·have:=h i oO;have:=Lt G b X hc hi;omega
 ·have:=h g.n (aB _);omega
end
def LB:Nat:=1376256
theorem Vr:BB 20 8=LB:=dD
theorem Oy {f:Nat->Rat} {k n:Nat} (hn:n<=4) (h:∀i,i<n->L (f i)<=k):L (ku f n)<=4*(k+1)+1:=by
 have h1:=Al h;have h2:=aI (k+1) hn;omega
theorem WM {r:Nat} (h:r<=8):BB 20 r<=LB:=by rw[<-Vr];exact BW 20 h
section
variable {D0 D : Nat} {g : nq} {Y : Nat → Ly} {B : Nat → Nat → Bool} {x d : Nat → Rat} {t : Rat}
theorem BP (G:n7 g Y B) (b:xq D0 g Y) (X:Aj D0 D g x) {C:List Nat} (hC:∀c∈C,c<g.n):MA 20 (pV (qP g Y B x) C):=λa ha r hr=>by
 obtain⟨i,hi,rfl⟩:=tG ha;obtain⟨j,hj,rfl⟩:=tG hr;show Lr (ki (th (qP g Y B x) C i j))<=20;rw[Lr_ofQ];have h1:=Lt G b X (hC _ (pI hj)) (hC _ (pI hi));have h2:=tC (qP g Y B x (C.getD i 0) (C.getD j 0)) (if i=j then 1 else 0);have h3:L (if i=j then 1 else 0:Rat)<=1:=by
  have:=Hd;have:=oz;split<;>omega
 show L (qP g Y B x (C.getD i 0) (C.getD j 0)-if i=j then 1 else 0)<=20;omega
theorem Uw (G:n7 g Y B) (b:xq D0 g Y) (X:Aj D0 D g x) (hC:st g Y B x≠ []):∀i,L (Bt g Y B x i)<=LB:=by
 have hn8:=b.n;obtain⟨_,_,l3,_,_,f,hf,hfP,hk⟩:=z5 (C:=st g Y B x) (yp G X.nn) rfl hC oO;have hCn:∀c∈st g Y B x,c<g.n:=λc hc=>(yD (qP g Y B x) g.n (List.replicate g.n true) g.n).2 c hc;have hCl:(st g Y B x).length<=g.n:=AF _ _ _ _;have hr:=BP G b X hCn;intro i;have h0:=oz;have h1:=Hd;show L (u9 (st g Y B x) (Nu (qP g Y B x) (st g Y B x)) (st g Y B x).length i)<=LB;unfold u9;rw[bO];split
 ·next hi=>
  have hj:=List.idxOf_lt_length_of_mem hi;generalize (st g Y B x).idxOf i=j at hj;have hk':Nu (qP g Y B x) (st g Y B x) j=_:=hk j hj;rw[hk'];have hL:=(If (n:=(st g Y B x).length) (m:=(st g Y B x).length) (M:=RM (pV (qP g Y B x) (st g Y B x))) (K:=20) (λa ha c hc=>Ns hr (by rw[show(pV (qP g Y B x) (st g Y B x)).length=(st g Y B x).length from nl _ _ _];exact ha) (by unfold pV;rw[p9 _ ha,kj];exact hc)) (st g Y B x).length (aB _)).1;have I:=rinv (st g Y B x).length (RM (pV (qP g Y B x) (st g Y B x))) (st g Y B x).length;have hP:=zD (st g Y B x).length (RM (pV (qP g Y B x) (st g Y B x))) (st g Y B x).length;have hB:=WM (r:=(lR (st g Y B x).length (RM (pV (qP g Y B x) (st g Y B x))) (st g Y B x).length).P.length) oO;have hLB:LB=1376256:=rfl;have hf':f<(st g Y B x).length:=hf;unfold kv;split
  ·omega
  ·split
   ·next hm=>
    have h2:=List.idxOf_lt_length_of_mem hm;rw[Cs];have:=hL ((lR (st g Y B x).length (RM (pV (qP g Y B x) (st g Y B x))) (st g Y B x).length).P.idxOf j) oO f hf';omega
   ·omega
 ·show L (0:Rat)<=LB;have hLB:LB=1376256:=rfl;omega
theorem Th (b:xq D0 g Y) (G:n7 g Y B) {i:Nat} (hi:i<g.n):L (Bu g i)<=5:=by
 obtain⟨h1,h2⟩:=b.cash i hi;have:=h1.size b.d0 (G.cash i hi) h2;have:=Ms.1;have:=b.s0;omega
theorem Wf (b:xq D0 g Y) (G:n7 g Y B):RB 20 (Ak g (List.range g.n)):=λr hr=>by
 obtain⟨k,hk,rfl⟩:=tG hr;rw[dE]at hk;rw[Lr_ofQ,Cs,r7 hk];have:=Th b G hk;omega
theorem Ux (G:n7 g Y B) (b:xq D0 g Y) (X:Aj D0 D g x) (hC:st g Y B x=[]) {i:Nat} (hi:i<g.n):L (Az g Y B x i)<=LB:=by
 have hn8:=b.n;obtain⟨_,_,_,_,hP,hf⟩:=yW (g:=g) (yp G X.nn) hC b.n0 oO G.cash;have hr:=BP (C:=List.range g.n) G b X λc hc=>cZ.1 hc;have hl:(pV (qP g Y B x) (List.range g.n)).length=g.n:=by rw[show(pV (qP g Y B x) (List.range g.n)).length=(List.range g.n).length from nl _ _ _,dE]
 have e:Az g Y B x i=_:=hf i hi;rw[e];have hL:=(If (n:=g.n) (m:=g.n+1) (M:=Eb (pV (qP g Y B x) (List.range g.n)) (Ak g (List.range g.n))) (K:=20) (λa ha c hc=>by
  unfold Eb;rw[hl];split
  ·next h=>exact Ns hr (by rw[hl];exact ha) (by unfold pV;rw[p9 _ (by rw[dE];exact ha),kj,dE];exact h)
  ·rw[aj oO];unfold VX Ak;rw[kB _ _ (by rw[dE];exact ha),toQ_ofQ,Cs,r7 ha];have:=Th b G ha;omega) g.n oO).1 i hi g.n oO
 unfold NF at hP⊢;rw[hl]at hP⊢;rw[hP]at hL;have:=WM hn8;omega
structure Iq (g:nq) (d:Nat->Rat):Prop where
 nn:∀i,i<g.n->0<=d i
 L:∀i,i<g.n->L (d i)<=LB
def FU:Nat:=17
theorem TJ (b:xq D0 g Y) {i:Nat} (hi:i<g.n) (m:Rat):wB (Y i) m<FU:=Nat.lt_succ_of_le (Of (b.ly i hi) m)
theorem TB (G:n7 g Y B) (b:xq D0 g Y) (X:Aj D0 D g x) {e k:Nat} (he:e<g.ds.length) (hk:k<=mJ g e):L (AH g (lW Y x) e k)<=4*sz D+200:=by
 have hl:=b.ln e he;have h1:=Oy (f:=qD g (lW Y x) e) (k:=sz D+20) (n:=k) oO λj hj=>(FZ G b X _ (G.lg e he j (show j<mJ g e by omega)).1 _).1;have h3:=tC (pQ (g.d e).W) (ku (qD g (lW Y x) e) k);have h4:=Ro (g.d e).W;have h5:=WL b he;rw[Ci];omega
theorem K5 (G:n7 g Y B) (b:xq D0 g Y) (X:Aj D0 D g x) (hd:Iq g d) {e k:Nat} (he:e<g.ds.length) (hk:k<=mJ g e):L (BU g (o4 Y x) d e k)<=4*LB+200:=by
 have hl:=b.ln e he;have h1:=Oy (f:=DJ g (o4 Y x) d e) (k:=20+LB) (n:=k) oO λj hj=>by
  have a:=(FZ G b X _ (G.lg e he j (show j<mJ g e by omega)).1 (g.lg e j).2).2;have c:=hd.L _ (G.lg e he j (show j<mJ g e by omega)).1;have:=yr (o4 Y x (g.lg e j).1 (g.lg e j).2) (d (g.lg e j).1);show L (o4 Y x (g.lg e j).1 (g.lg e j).2*d (g.lg e j).1)<=_;omega
 rw[Cv];omega
theorem O1 (G:n7 g Y B) (b:xq D0 g Y) (X:Aj D0 D g x) {i:Nat} (hi:i<g.n) {y:Rat} (h:GM (Y i) (x i) FU (x i)=some y):∃D',0<D'/\D∣D'/\sz D'<=sz D+510/\Mu D' y/\L y<=sz D+520:=by
 have hFU:FU=17:=rfl;obtain⟨D',h1,h2,h3,h4,h5,h6⟩:=PY (G.ly i hi) (b.ly i hi) (x i) FU (x i) D (X.mo b hi) (by have:=X.zz;omega) y h;refine⟨D',h1,h2,oO,h4,?_⟩;have:=h4.size h1 h5 h6;have:=Ms.2.2.2.2.1;omega
theorem WA (X:Aj D0 D g x) {i:Nat} (hi:i<g.n):L (x i)<=sz D+4:=by
 have:=(X.mu i hi).size X.Dp (X.nn i hi) (X.le i hi);have:=Ms.2.2.2.2.1;omega
theorem I1 (G:n7 g Y B) (b:xq D0 g Y) (X:Aj D0 D g x) (hd:Iq g d) {r:Rat} (hc:zS g Y (λ_=>FU) (lW Y x) (o4 Y x) x d r):L r<=4*sz D+4*LB+1600:=by
 rcases hc with⟨i,hi,hd0,y,hz,e⟩|⟨e,he,k,hk,h1,h2,e1⟩
 ·obtain⟨_,_,_,_,_,hy⟩:=O1 G b X hi hz;have h1:=WA X hi;have h2:=hd.L i hi;have h3:=tC y (x i);have h4:=zk (y-x i) (d i);rw[e];omega
 ·have h3:=TB G b X he (k:=k+1) oO;have h4:=K5 G b X hd he (k:=k+1) oO;have h5:=zk (AH g (lW Y x) e (k+1)) (BU g (o4 Y x) d e (k+1));rw[e1];omega
theorem Mi {o:Option Rat} {S:Rat->Prop} {k:Nat} (h:Mn o S) (hS:∀r,S r->L r<=k) (hk:1<=k):L (o.getD 0)<=k:=by
 cases o with
 |none=>have:=oz;show L (0:Rat)<=k;omega
 |some r=>exact hS r (h.2 r rfl)
theorem VI (G:n7 g Y B) (b:xq D0 g Y) (X:Aj D0 D g x) (hd:Iq g d):VM g Y (λ_=>FU) (lW Y x) (o4 Y x) x d:=by
 have hz:=X.zz;have hMX:MX=1099511627776:=rfl;have hLB:LB=1376256:=rfl;have hFU:FU=17:=rfl;have hcL:=λr=>I1 (r:=r) G b X hd;refine⟨λi hi=>by have:=hd.L i hi;omega,λi hi hd0=>⟨L3 (G.ly i hi) (b.ly i hi) (X.mo b hi),Wh (G.ly i hi) (b.ly i hi) (x i) FU (x i) D (X.mo b hi) (TJ b hi _) oO,λy hy=> ?_⟩,λe he=>by have:=WL b he;omega,λe he k hk=> ?_⟩
 ·obtain⟨_,_,_,_,_,hyL⟩:=O1 G b X hi hy;have h1:=WA X hi;have h2:=hd.L i hi;have h3:=tC y (x i);have h4:=hcL _ (.inl ⟨i,hi,hd0,y,hy,rfl⟩);have h5:=Mi (Jy Y (λ_=>FU) x d i) (k:=4*sz D+4*LB+1600) (λr ⟨a,ha,hr⟩=>hcL r (.inl ⟨a,oO,hr⟩)) oO;exact⟨oO,oO,oO⟩
 ·have a1:=TB G b X he (k:=k) oO;have a2:=TB G b X he (k:=k+1) hk;have a3:=K5 G b X hd he (k:=k) oO;have a4:=K5 G b X hd he (k:=k+1) hk;obtain⟨g1,g2⟩:=G.lg e he k hk;have b1:=FZ G b X _ g1 (g.lg e k).2;have b2:=hd.L _ g1;have b3:=yr (o4 Y x (g.lg e k).1 (g.lg e k).2) (d (g.lg e k).1);have b4:L (qD g (lW Y x) e k)<=sz D+20:=b1.1;refine⟨oO,oO,oO,oO,oO,λc1 c2=>⟨oO,?_⟩⟩;have h4:=hcL _ (.inr ⟨e,he,k,hk,c1,c2,rfl⟩);have h5:=Mi (Jg g (lW Y x) (o4 Y x) d (e:=e) (JM g Y (λ_=>FU) (lW Y x) (o4 Y x) x d e) k) (k:=4*sz D+4*LB+1600) (λr hr=>by
   rcases hr with(hr|⟨e',he',hr⟩)|⟨j,hj,hr⟩
   ·exact hcL r (.inl hr)
   ·exact hcL r (.inr ⟨e',oO,hr⟩)
   ·exact hcL r (.inr ⟨e,he,j,oO,hr⟩)) oO
  omega
def QI:Nat:=28905000
theorem Kp (G:n7 g Y B) (b:xq D0 g Y) (X:Aj D0 D g x) (hd:Iq g d) (ht:Mu D t) {h:Rat} (hc:h=1-t\/zS g Y (λ_=>FU) (lW Y x) (o4 Y x) x d h):
  ∃D',0<D'/\D0∣D'/\sz D'<=sz D+QI/\(∀i,i<g.n->Mu D' (x i+h*d i))/\Mu D' (t+h)/\Mu D' t:=by
 have hLB:LB=1376256:=rfl;have hGS:QI=28905000:=rfl;have hn8:=b.n;obtain⟨Dd,d1,d2,d3⟩:=Kh (f:=d) (K:=LB) (n:=g.n) λi hi=>hd.L i hi;have d4:sz Dd<=8*LB+1:=by have:=aI LB hn8;omega
 have fin:∀E:Nat,0<E->D∣E->sz E<=sz D+12*LB+1000->Mu E h->∃D',0<D'/\D0∣D'/\sz D'<=sz D+QI/\(∀i,i<g.n->Mu D' (x i+h*d i))/\Mu D' (t+h)/\Mu D' t:=λE e1 e2 e3 e4=>by
  refine⟨E*Dd,dH e1 d1,eC X.dv (eC e2 ⟨Dd,rfl⟩),?_,λi hi=> ?_,(((ht.dvd e2).add e4).wO Dd),(ht.dvd e2).wO Dd⟩
  ·have:=ru E Dd;omega
  ·exact(((X.mu i hi).dvd e2).wO Dd).add (e4.mul (d3 i hi))
 rcases hc with hc|⟨i,hi,hd0,y,hz,e⟩|⟨e,he,k,hk,h1,h2,e1⟩
 ·exact fin D X.Dp ⟨1,(eN _).symm⟩ oO (by rw[hc];exact Mu.one.sub ht)
 ·obtain⟨D',p1,p2,p3,p4,_⟩:=O1 G b X hi hz;obtain⟨r,r1,r2,r3⟩:=whole hd0 d1 (d3 i hi) (hd.L i hi);refine fin (D'*r) (dH p1 r2) (eC p2 ⟨r,rfl⟩) ?_ ?_
  ·have:=ru D' r;omega
  ·rw[e];exact Mu.quo ((p4.sub ((X.mu i hi).dvd p2)).wO Dd) (wv hd0) r1
 ·obtain⟨E,q1,q2,q3⟩:=UT (B:=B) G b X;have hrt:Mu (E*Dd) (BU g (o4 Y x) d e (k+1)):=by
   rw[Cv];exact Mu.sum λj hj=>((q3 _ (G.lg e he j (show j<mJ g e by omega)).1).1 _).mul (d3 _ (G.lg e he j (show j<mJ g e by omega)).1)
  have hlf:Mu (D*(E*Dd)) (AH g (lW Y x) e (k+1)):=by
   rw[Ci,<-ba];refine Mu.wO (Mu.sub ?_ (Mu.sum λj hj=>(q3 _ (G.lg e he j (show j<mJ g e by omega)).1).2 _)) Dd;have hW:Mu D0 (pQ (g.d e).W):=by
    rcases na (g.d e).W with c|c
    ·rw[c.1];exact(b.W e he).2.1
    ·rw[c.1];exact Mu.zero
   exact hW.dvd (eC X.dv ⟨E,rfl⟩)
  obtain⟨r,r1,r2,r3⟩:=whole h2 (dH q1 d1) hrt (K5 G b X hd he (k:=k+1) hk);refine fin (D*r) (dH X.Dp r2) ⟨r,rfl⟩ ?_ ?_
  ·have:=ru D r;have:=ru E Dd;omega
  ·rw[e1];exact Mu.quo hlf (wv h2) r1
end
theorem U9 {y:Ly} {m:Rat} (hy:pY y) (hm:0<=m):ku (dC y m) y.n<=QN y.rk:=by
 have e:ku (dC y m) y.n=ku (rG y (lP y m)) y.n+nO (λp=>ku (λk=>tP p.ld (PS y m p) k) y.n) y.pl:=by
  rw[<-zc (λp k=>tP p.ld (PS y m p) k),<-n4];exact kz λk _=>yk y m k
 have hq:∀ {T:List Tr} {m:Rat},yR T->(∀t∈T,∀p∈t.ps,zo y.n p)->0<=m->ku (λk=>tP T m k) y.n<=Sc T m:=fun {T m} hT hp hm=>by
  have h1:=zG (n:=y.n) (l:=rJ T m) (BF hp);have h2:=En (c:= -1) hT hm;unfold tP at h2;show ku (λk:Nat=>qU k (rJ T m)) y.n<=qs (rJ T m);grind
 have h1:nO (λp=>ku (λk=>tP p.ld (PS y m p) k) y.n) y.pl<=nO (λp=>PS y m p) y.pl:=yG λp hp=>eW (hq (hy.ld p hp) (hy.lp p hp) (ti hy hm p)) (OI (hy.ld p hp) (ti hy hm p));have h2:=zX hy (lP y m);have h4:=hq hy.rk hy.rp hm;have h5:ku (lP y m) y.n=ku (λk=>tP y.rk m k) y.n:=kz λk _=>oS y m k;have h6:nO (λp=>oJ p.mem (lP y m)) y.pl=nO (λp=>PS y m p) y.pl:=rfl;have h7:=N4 hy.rk hm;rw[h5,h6]at h2;rw[e];grind
section
variable {D0 D : Nat} {g : nq} {Y : Nat → Ly} {B : Nat → Nat → Bool} {x : Nat → Rat} {t : Rat}
theorem Vu (G:n7 g Y B) (b:xq D0 g Y) (hx:∀i,i<g.n->0<=x i) {j:Nat} (hj:j<g.n):F0 g B (lW Y x) j<=33554432:=by
 have hz:∀i,i<g.n->(λ_:Nat=>(0:Rat)) i<=x i:=hx;have h0:∀i,i<g.n->0<=(λ_:Nat=>(0:Rat)) i:=λ_ _=>bP;have h1:=Qc (B:=B) G (Em G h0) (B4 G h0 hz);have h2:ku (F0 g B (lW Y λ_=>0)) g.n=0:=lJ λj hj=>by
  have:=(Uk (B:=B) G).fx j hj;grind
 have h3:ku (λi=>ku (lW Y x i) (g.cn i)-ku (lW Y (λ_=>0) i) (g.cn i)) g.n<=ku (λ_=>4194304) g.n:=oI λi hi=>by
  have a:=U9 (G.ly i hi) (hx i hi);rw[G.yn i hi]at a;have c:=PV (G.ly i hi).rk (b.ly i hi).rm;have d:=t5 (show(Y i).rk.length*(8*AA)<=4194304 by have:=(b.ly i hi).rl;show(Y i).rk.length*524288<=4194304;omega);rw[show((4194304:Nat):Rat)=4194304 from rfl]at d;have e:ku (lW Y (λ_=>0) i) (g.cn i)=0:=lJ λc _=>KA (G.ly i hi);have f:ku (lW Y x i) (g.cn i)=ku (dC (Y i) (x i)) (g.cn i):=rfl;rw[e,f];grind
 have h4:∀n:Nat,n<=8->ku (λ_=>(4194304:Rat)) n<=33554432:=λn hn=>by
  have:∀n:Nat,ku (λ_=>(4194304:Rat)) n=(n:Rat)*4194304:=λn=>by
   induction n with
   |zero=>show(0:Rat)=((0:Nat):Rat)*_;rw[show((0:Nat):Rat)=0 from rfl];grind
   |succ n ih=>show ku _ n+_=_;rw[ih,gV,show((1:Nat):Rat)=1 from rfl];grind
  rw[this];have:=t5 hn;rw[show((8:Nat):Rat)=8 from rfl]at this;grind
 have h5:=zq (f:=F0 g B (lW Y x)) (λj _=>Vx G (Em G hx) j) j hj;have h6:=h4 g.n b.n;grind
theorem WO (G:n7 g Y B) (b:xq D0 g Y) (I:Inv g Y B x t) {j:Nat} (hj:j<g.n):x j<=(QX:Rat):=by
 have h1:=Vu G b I.nn hj;have h2:=I.fx j hj;have h3:=(b.cash j hj).2;rw[show((AA:Nat):Rat)=65536 from rfl]at h3;have h4:=nT I.t1 (G.cash j hj);rw[HR,h2];grind
theorem U8 (b:xq D0 g Y) (x:Nat->Rat):H5 g Y x<=152:=by
 have hs:∀(f:Nat->Nat) (k n:Nat),(∀i,i<n->f i<=k)->Jr f n<=n*k:=λf k n h=>by
  induction n with
  |zero=>exact aw _
  |succ n ih=>
   have a:=ih λi hi=>h i oO;have c:=h n oO;show Jr f n+f n<=_;rw[bn];omega
 have h1:=hs (λi=>wB (Y i) (x i)) 16 g.n λi hi=>Of (b.ly i hi) _;have h2:=hs (λe=>Jr (λk=>if 0<pQ (g.d e).W-ku (qD g (lW Y x) e) (k+1)then 1 else 0) (mJ g e)) 4 g.ds.length λe he=>by
  have:=hs (λk=>if 0<pQ (g.d e).W-ku (qD g (lW Y x) e) (k+1)then 1 else 0) 1 (mJ g e) λk _=>by split<;>omega
  have:=b.ln e he;omega
 have:=b.n;have:=b.dn;unfold H5;omega
def XH (D0:Nat) (g:nq) (k:Nat) (x:Nat->Rat) (t:Rat):Prop:=∃D,0<D/\D0∣D/\sz D<=k/\(∀i,i<g.n->Mu D (x i))/\Mu D t
def TK (k f:Nat):Prop:=200*(k+QI*f+700)<=MX
theorem TK.step {k f:Nat} (h:TK k (f+1)):TK (k+QI) f/\200*(k+700)<=MX:=by
 unfold TK at h⊢;have e:QI*(f+1)=QI*f+QI:=rfl;rw[e]at h;omega
theorem WK (G:n7 g Y B) (b:xq D0 g Y):∀(f:Nat) (x:Nat->Rat) (t:Rat) (k:Nat),Inv g Y B x t->XH D0 g k x t->H5 g Y x+(if t=1 then 0 else 1)<f->TK k f->
  T5 g Y B FU 20 Tf f x t/\∃D,Aj D0 D g (MM g Y B FU f x t):=by
 intro f;induction f with
 |zero=>exact λ_ _ _ _ _ h _=>absurd h (aS _)
 |succ f ih=>
  rintro x t k I ⟨D,s1,s2,s3,s4,s5⟩ hm hk;have hMX:MX=1099511627776:=rfl;have hLB:LB=1376256:=rfl;have hn8:=b.n;obtain⟨hk2,hk⟩:=hk.step;have X:Aj D0 D g x:=⟨s1,s2,s4,I.nn,λi hi=>WO G b I hi,cQ (bA 200 (Nat.add_le_add_right s3 700)) hk⟩;have hF:∀i,i<g.n->∀m,wB (Y i) m<FU:=λi hi m=>TJ b hi m;have hz:=X.zz;have hLt:L t<=sz D+1:=by
   have:=s5.size s1 I.t0 (B:=1) I.t1;have:=Ms.2.2.1;omega
  have hL1:=Hd;have hxL:=λi hi=>WA (i:=i) X hi;have hSt:∀(h1:st g Y B x≠ []->Iq g (Bt g Y B x)) (h2:st g Y B x=[]->Iq g (Az g Y B x)),Xs g Y B FU 20 Tf x t:=λh1 h2=>by
   refine⟨λi hi=>L3 (G.ly i hi) (b.ly i hi) (X.mo b hi),VR G b X,λc hc=>WT G b X hc,λi hi j hj=>by have:=Lt G b X hj hi;omega,λhC=> ?_,λhC ht=> ?_⟩
   ·have hd:=h1 hC;have hcL:=λr=>I1 (r:=r) G b X hd;have hH:=Mi (G0 g Y (λ_=>FU) (lW Y x) (o4 Y x) x (Bt g Y B x)) (k:=4*sz D+4*LB+1600) hcL oO;have hCl:(st g Y B x).length<=g.n:=AF _ _ _ _;refine⟨BP G b X λc hc=>(yD (qP g Y B x) g.n (List.replicate g.n true) g.n).2 c hc,by have:=WM (r:=(st g Y B x).length) oO;omega,(z5 (C:=st g Y B x) (yp G I.nn) rfl hC oO).1,VI G b X hd,λi hi=> ?_⟩;have a1:=hxL i hi;have a2:=hd.L i hi;show L (x i)+L ((Ky g Y (λ_=>FU) (lW Y x) (o4 Y x) x (Bt g Y B x)).getD 0)+_+2<=MX;omega
   ·have hd:=h2 hC;have hcL:=λr=>I1 (r:=r) G b X hd;have hH:=Mi (G0 g Y (λ_=>FU) (lW Y x) (o4 Y x) x (Az g Y B x)) (k:=4*sz D+4*LB+1600) hcL oO;obtain⟨_,_,_,_,_,f6⟩:=AT G hF oO b.n0 I hC ht;have hLs:=tC 1 t;have hfh:L (yT g Y B FU x t)<=4*sz D+4*LB+1600:=by
     rcases f6 with f6|f6
     ·rw[f6];omega
     ·exact hcL _ f6
    refine⟨BP G b X λc hc=>cZ.1 hc,Wf b G,dD,λ_=>(yW (g:=g) (yp G I.nn) hC b.n0 oO G.cash).2.1,VI G b X hd,oO,?_,oO,λi hi=> ?_⟩
    ·show L ((Ky g Y (λ_=>FU) (lW Y x) (o4 Y x) x (Az g Y B x)).getD 0)+_<=MX;omega
    ·have a1:=hxL i hi;have a2:=hd.L i hi;omega
  have hd1:st g Y B x≠ []->Iq g (Bt g Y B x):=λhC=>by
   obtain⟨_,l2,l3,_⟩:=z5 (C:=st g Y B x) (yp G I.nn) rfl hC oO;refine⟨λi _=> ?_,λi _=>Uw G b X hC i⟩;by_cases e:i∈st g Y B x
   ·exact di (l2 i e)
   ·have:Bt g Y B x i=0:=l3 i e;rw[this];exact bP
  have hd2:st g Y B x=[]->Iq g (Az g Y B x):=λhC=>⟨(yW (g:=g) (yp G I.nn) hC b.n0 oO G.cash).2.2.1,λi hi=>Ux G b X hC hi⟩;unfold T5 MM;by_cases hC:st g Y B x=[]
  ·rw[ah (λh=>h hC),ah (λh=>h hC)];by_cases ht:t=1
   ·rw[aj ht];exact⟨⟨hSt hd1 hd2,.inl ht⟩,D,X⟩
   ·rw[ah ht];obtain⟨_,f2,f3,I2,hm2,f6⟩:=AT G hF oO b.n0 I hC ht;rw[ah ht]at hm;obtain⟨D',p1,p2,p3,p4,p5,_⟩:=Kp G b X (hd2 hC) s5 f6;obtain⟨r1,r2⟩:=ih (GP g Y B FU x t) (t+yT g Y B FU x t) (k+QI) I2 ⟨D',p1,p2,oO,p4,p5⟩ oO hk2;exact⟨⟨hSt hd1 hd2,.inr r1⟩,r2⟩
  ·rw[aj hC,aj hC];obtain⟨H,eS,h1,h2,I2,hm2⟩:=EK G hF oO I hC;obtain⟨D',p1,p2,p3,p4,_,p6⟩:=Kp G b X (hd1 hC) s5 (.inr h2);have eX:MC g Y B FU x=λi=>x i+H*Bt g Y B x i:=by
    funext i;unfold MC;rw[eS];rfl
   obtain⟨r1,r2⟩:=ih (MC g Y B FU x) t (k+QI) I2 ⟨D',p1,p2,oO,by rw[eX];exact p4,p6⟩ oO hk2;exact⟨⟨hSt hd1 hd2,r1⟩,r2⟩
noncomputable def Sd (g:nq) (Y:Nat->Ly) (B:Nat->Nat->Bool):Nat->Rat:=MM g Y B FU 154 (λ_=>0) 0
theorem Qr (G:n7 g Y B) (b:xq D0 g Y):T5 g Y B FU 20 Tf 154 (λ_=>0) 0/\S6 g Y B (Sd g Y B)/\∃D,Aj D0 D g (Sd g Y B):=by
 have hm:=U8 b λ_=>0;have hm2:H5 g Y (λ_=>0)+(if(0:Rat)=1 then 0 else 1)<154:=by split<;>omega
 have hn8:=b.n;obtain⟨h1,h2⟩:=WK G b 154 (λ_=>0) 0 2 (Uk G) ⟨D0,b.d0,⟨1,(eN _).symm⟩,b.s0,λ_ _=>Mu.zero,Mu.zero⟩ hm2 (show TK 2 154 from by unfold TK;decide);exact⟨h1,FO G (λi hi m=>TJ b hi m) oO b.n0 154 _ _ (Uk G) hm2,h2⟩
theorem WV (G:n7 g Y B) (b:xq D0 g Y) (X:Aj D0 D g x) {d:Nat} (hd:d<g.ds.length) {k:Nat} (hk:k<mJ g d):L (tX (g.d d).W (qD g (lW Y x) d) k)<=8*sz D+500:=by
 have hl:=b.ln d hd;have h:∀k,k<=mJ g d->L (wM (g.d d).W (qD g (lW Y x) d) k)<=4*sz D+200:=λk hk=>by
  have h1:=F6 (q:=qD g (lW Y x) d) (k:=sz D+20) (n:=k) oO λj hj=>(FZ G b X _ (G.lg d hd j (show j<mJ g d by omega)).1 _).1;have h2:=Ro (g.d d).W;have h3:=WL b hd;have h4:=tC (oC (qD g (lW Y x) d) k) (pQ (g.d d).W);have h5:=Ro (oC (qD g (lW Y x) d) k-pQ (g.d d).W);rw[qw];omega
 have h1:=h (k+1) hk;have h2:=h k oO;have h3:=tC (wM (g.d d).W (qD g (lW Y x) d) (k+1)) (wM (g.d d).W (qD g (lW Y x) d) k);show L (wM _ _ (k+1)-wM _ _ k)<=_;omega
theorem Pg (G:n7 g Y B) (b:xq D0 g Y) (X:Aj D0 D g x):∀d,d<=g.ds.length->∀i c,L (A2 g (lW Y x) d i c)<=8*sz D+500
 |0,_,i,c=>by have:=oz;show L (0:Rat)<=_;omega
 |d+1,hd,i,c=>by
  have ih:=Pg G b X d oO;have key:∀k,k<=mJ g d->∀i c,L (IE g (lW Y x) d (A2 g (lW Y x) d) k i c)<=8*sz D+500:=by
   intro k;induction k with
   |zero=>exact λ_=>ih
   |succ k ih2=>
    intro hk i c;show L (Bv _ _ _ _ i c)<=_;unfold Bv;split
    ·exact WV G b X oO hk
    ·exact ih2 oO i c
  exact key (mJ g d) (aB _) i c
theorem NX (G:n7 g Y B) (b:xq D0 g Y) (X:Aj D0 D g x):(∀i,i<g.n->PZ (Y i) (x i))/\(∀i,i<g.n->L (x i)+L (Y i).tot+3<=MX)/\Xh g (lW Y x) Tf/\∀i,i<g.n->∀c,c<g.cn i->L (lW Y x i c)+L (A2 g (lW Y x) g.ds.length i c)<=MX:=by
 have hMX:MX=1099511627776:=rfl;have hz:=X.zz;have m:=VR G b X;refine⟨λi hi=>S1 (G.ly i hi) (b.ly i hi) (X.mo b hi),λi hi=> ?_,⟨m.W,λd hd j hj=>(m.q d hd j hj).1,λd hd j hj=>(m.s d hd j hj).1,m.k,m.ln⟩,λi hi c _=> ?_⟩
 ·have:=WA X hi;have:=b.tot i hi;omega
 ·have:=(FZ G b X i hi c).1;have:=Pg G b X g.ds.length (aB _) i c;omega
end
def DL (x y:Int):Bool:=decide (x<y)
theorem KE {α:Type} (A B:List α) (x d:α):(A++x::B).getD A.length d=x:=by
 rw[ak,cH (aB _),dU];rfl
theorem NJ {α:Type} (A B:List α) (x y:α):(A++x::B).set A.length y=A++y::B:=by
 rw[i2 _ _ (aB _),dU];rfl
theorem QG (x:Int) (w:World):mb Tryz.prog 207 #[.int .i64 x] w λv w'=>v= .bool false/\w'=w:=by
 refine enter Tryz.func207 rfl Tryz.ntmps207 rfl ?_;refine J5 ?_;refine jt ?_;refine kJ rfl rfl ?_;exact⟨bB Value.bool (ae (λh=>h rfl)),rfl⟩
theorem Jm (x y:Int) (w:World):mb Tryz.prog 191 #[.int .i64 x,.int .i64 y] w λv w'=>v= .bool (decide (x<y))/\w'=w:=by
 refine enter Tryz.func191 rfl Tryz.ntmps191 rfl ?_;refine J2 ?_;refine jh (kf Tryz.call207 rfl (QG x _) ?_);rintro _ wq1 ⟨rfl,hq1⟩;replace hq1:=hq1.symm;subst hq1;refine J1 ?_;refine kS (kg 7 kR rfl rfl) (kS (kg 7 kR rfl rfl) (kS (kg 7 kR rfl rfl) (jp (kH (vb rfl rfl) rfl ?_))));refine J1 ?_;refine ko (kd 12 kR rfl rfl) (kw rfl (ko (kd 12 kR rfl rfl) (kw rfl (ko (kd 12 kR rfl rfl) (vh rfl rfl (jp (kH (vb rfl rfl) rfl ?_)))))));refine J1 ?_;refine jt ?_;refine kJ rfl rfl ?_;exact⟨rfl,rfl⟩
theorem DX (v:Value) (w:World):mb Tryz.prog 185 #[v,.int .i64 0,.int .i64 0] w λr w'=>r= .tuple #[]/\w'=w:=by
 refine enter Tryz.func185 rfl Tryz.ntmps185 rfl ?_;refine V3 ?_;refine kF (σ:=Unit) (λ_ ρ w'=>ρ 2=iB 0/\ρ 6=iB 1/\w'=w) (λ_=>0) () ⟨rfl,vi rfl oO,rfl⟩ ?_;rintro _ ρ w2 ⟨h2,h6,rfl⟩;refine J4 ?_;refine jt ?_;exact qv rfl ⟨rfl,rfl⟩
theorem G2 {w0:World} {b:Nat} {t:TypeId} {H:List lj} (Pre M Suf:List Int) (sp:List Value) (n cp a e:Nat)
  (hn:Pre.length+M.length+Suf.length=n) (ha:a=Pre.length) (he:e=Pre.length+M.length) (hmax:n<=1000000) (w:World) (hS:St w0 w ((b,t,(Pre++M++Suf).flatMap tv++sp)::H)):
  mb Tryz.prog 185 #[.slice (some ⟨b,0,none⟩) n cp,.int .i64 a,.int .i64 e] w λv w'=>v= .tuple #[]/\St w0 w' ((b,t,(Pre++tf DL M++Suf).flatMap tv++sp)::H):=by
 refine enter Tryz.func185 rfl Tryz.ntmps185 rfl ?_;refine V3 ?_;refine kF (σ:=Nat) (λk ρ w'=>1<=k/\(k<=M.length\/M.length=0)/\ρ 0= .slice (some ⟨b,0,none⟩) n cp/\ρ 1=iB a/\ρ 2=iB e/\ρ 6=iB ((a:Int)+k)/\
   St w0 w' ((b,t,(Pre++tf DL (M.take k)++(M.drop k++Suf)).flatMap tv++sp)::H)) (λk=>M.length+1-k) 1
  ⟨aB _,oO,rfl,rfl,rfl,rfl,?_⟩ ?_
 ·have e1:Pre++tf DL (M.take 1)++(M.drop 1++Suf)=Pre++M++Suf:=by
   cases M with
   |nil=>rfl
   |cons x M=>show Pre++[x]++(M++Suf)=_;simp
  rw[e1];exact hS
 clear hS;rintro k ρ w2 ⟨hk1,hkM,h0,h1,h2,h6,hS⟩;refine V3 ?_;by_cases hlt:k<M.length
 ·refine V1 ?_;obtain⟨x,hx⟩:=jz (M.getD k 0);obtain⟨S,hSe⟩:=jz (tf DL (M.take k));obtain⟨R,hR⟩:=jz (M.drop (k+1)++Suf);have hSl:S.length=k:=by rw[hSe,AW,dm];omega
  have hRl:R.length=M.length-(k+1)+Suf.length:=by rw[hR,ax,fk]
  have hdr:M.drop k++Suf=x::R:=by
   rw[dX hlt,hR,hx,ak,aF hlt];rfl
  have hnx:tf DL (M.take (k+1))=Ab DL S x:=by
   rw[lT M k 0 hlt,JH,<-hx,<-hSe]
  rw[<-hSe,hdr]at hS;refine J2 ?_;refine jb ?_;refine kG (λρ w'=>ρ 0= .slice (some ⟨b,0,none⟩) n cp/\ρ 1=iB a/\ρ 2=iB e/\ρ 6=iB ((a:Int)+k)/\St w0 w' ((b,t,(Pre++Ab DL S x++R).flatMap tv++sp)::H)) ?_ ?_
  ·refine ja ?_;refine kF (σ:=List Int×List Int) (λs ρ w'=>S=s.1++s.2/\(∀y∈s.2,DL x y=true)/\ρ 0= .slice (some ⟨b,0,none⟩) n cp/\ρ 1=iB a/\ρ 2=iB e/\ρ 6=iB ((a:Int)+k)/\ρ 7=iB ((a:Int)+s.1.length)/\
     St w0 w' ((b,t,(Pre++s.1++x::(s.2++R)).flatMap tv++sp)::H)) (λs=>s.1.length) (S,[])
    ⟨(aK _).symm,(λy hy=>(by cases hy)),jY,jY,jY,jY,vi rfl (by rw[hSl]),hS⟩ ?_
   clear hS;rintro⟨A,B⟩ ρ w3 ⟨hAB,hB,h0,h1,h2,h6,h7,hS⟩;simp only at hAB hB h7 hS;have hABl:A.length+B.length=k:=by rw[<-ax,<-hAB,hSl]
   have hLl:(Pre++A++x::(B++R)).length=n:=by simp only[ax,aZ];omega
   refine ja ?_;rcases List.eq_nil_or_concat A with hA|⟨A',y,hA⟩
   ·subst hA;refine ja ?_;refine kK [jo 0,jo 1,jo 2,jo 3,jo 4,jo 5,jo 6,ju 7,jo 8,jo 9,jo 10,jo 11,ju 12,jv 13,jo 14] kR kR hS ?_;intro wz1 hS hBz1;refine J4 ?_;refine nh rfl (kg 19 kR rfl (ae (by simp))) (nh rfl (kg 19 kR rfl (ae (by simp))) (nh rfl (kg 19 kR rfl (ae (by simp))) (nh rfl (kg 19 kR rfl (ae (by simp))) (nh rfl (kg 19 kR rfl (ae (by simp))) (nh rfl (kg 19 kR rfl (ae (by simp))) (nh rfl (kg 19 kR rfl (ae (by simp))) (nh rfl (kg 19 kR rfl (ae (by simp))) (nh rfl (kg 19 kR rfl (ae (by simp))) (nh rfl (kg 19 kR rfl (ae (by simp))) (jl rfl (kH (vb rfl (ae (by simp))) rfl ?_)))))))))));refine ja ?_;refine lH rfl (rfl) ?_;refine jt ?_;refine⟨_,rfl,jY,jY,jY,jY,?_⟩;rw[hAB,Hj hB (λy hy=>by cases hy)];simpa using hS
   ·rw[List.concat_eq_append]at hA;subst hA;have hA'l:(A'++[y]).length=A'.length+1:=by simp
    have hg1:(Pre++(A'++[y])++x::(B++R)).getD (a+A'.length+1) 0=x:=by
     rw[show a+A'.length+1=(Pre++(A'++[y])).length by simp[ha];omega];exact KE _ _ _ _
    have hg2:(Pre++(A'++[y])++x::(B++R)).getD (a+A'.length) 0=y:=by
     rw[show Pre++(A'++[y])++x::(B++R)=(Pre++A')++y::(x::(B++R)) by simp,show a+A'.length=(Pre++A').length by simp[ha]];exact KE _ _ _ _
    refine ja ?_;refine kK [jo 0,jo 1,jo 2,jo 3,jo 4,jo 5,jo 6,ju 7,jo 8,jo 9,jo 10,jo 11,ju 12,jv 13,jo 14] kR kR hS ?_;intro wz2 hS hBz2;refine J4 ?_;refine kL rfl (kd 19 kR rfl dT) (kw h0 (kL rfl (kd 19 kR rfl dT) (kw h7 (kL rfl (kd 19 kR rfl dT) (kM (i:=a+A'.length+1) rfl rfl oO dO p7 ?_)))));refine mC rfl (kd 19 kR rfl dT) (Df (k:=0) (i:=a+A'.length+1) (enc:=tv) 0 (λ_=>rfl) rfl mR hS rfl (by first|omega|simp) dO rfl (.inr rfl) ?_);refine kL rfl (kd 19 kR rfl dT) (kw h0 (kL rfl (kd 19 kR rfl dT) (kw h7 (kL rfl (kd 19 kR rfl dT) (sh rfl rfl (ct _ oO) (kL rfl (kd 19 kR rfl dT) (kM (i:=a+A'.length) rfl rfl oO dO p7 ?_)))))));refine mC rfl (kd 19 kR rfl dT) (Df (k:=0) (i:=a+A'.length) (enc:=tv) 0 (λ_=>rfl) rfl mR hS rfl (by first|omega|simp) dO rfl (.inr rfl) ?_);rw[hg1,hg2];refine vB rfl (kd 19 kR rfl dT) (kf Tryz.call191 rfl (Jm x y _) ?_);rintro _ wq3 ⟨rfl,hq3⟩;replace hq3:=hq3.symm;subst hq3;refine⟨Below.refl _ _,?_⟩;refine jl rfl (kH (vb rfl dT) rfl ?_);refine ja ?_;by_cases hcy:x<y
    ·refine lu rfl (ai hcy) ?_;refine ja ?_;refine nk (λρ'=>ρ' 0= .slice (some ⟨b,0,none⟩) n cp/\ρ' 1= .int .i64 a/\ρ' 2= .int .i64 e/\ρ' 6= .int .i64 ((a:Int)+k)/\ρ' 7= .int .i64 ((a:Int)+(A'++[y]).length)/\True) ⟨h0,h1,h2,h6,h7,trivial⟩ ?_;rintro ρk4 ⟨hk4_0,hk4_1,hk4_2,hk4_6,hk4_7,-⟩;have hset:((Pre++(A'++[y])++x::(B++R)).set (a+A'.length+1) y).set (a+A'.length) x=Pre++A'++x::(y::B++R):=by
      rw[show a+A'.length+1=(Pre++(A'++[y])).length by simp[ha];omega,NJ,show Pre++(A'++[y])++y::(B++R)=(Pre++A')++y::(y::(B++R)) by simp,show a+A'.length=(Pre++A').length by simp[ha],NJ];simp
     refine ja ?_;refine kK [jo 0,jo 1,jo 2,jo 3,jo 4,jo 5,jo 6,jo 7,jo 8,ju 9,jo 10,jo 11,jo 12,ju 13,jo 14,jw 15,jo 16,jw 17] kR kR hS ?_;intro wz5 hS hBz5;refine J8 ?_;refine jl rfl (kM (i:=a+A'.length) rfl rfl oO dO p7 ?_);refine jm rfl (Df (k:=0) (i:=a+A'.length) (enc:=tv) (v:= .int .i64 y) 0 (λ_=>rfl) rfl mR hS rfl (by simp) oO (by rw[hg2];rfl) (.inr rfl) ?_);refine J2 ?_;refine jl rfl (kM (i:=a+A'.length+1) rfl rfl oO dO p7 ?_);refine jm rfl (Df (k:=0) (i:=a+A'.length+1) (enc:=tv) (v:= .int .i64 x) 0 (λ_=>rfl) rfl mR hS rfl (by simp) oO (by rw[hg1];rfl) (.inr rfl) ?_);refine jl rfl (kM (i:=a+A'.length+1) rfl rfl oO dO p7 ?_);refine jx rfl (CA (k:=0) (i:=a+A'.length+1) (enc:=tv) y (λ_=>rfl) rfl rfl mR hS rfl (by first|omega|simp) dO rfl rfl ?_);intro wz6 hS;refine jl rfl (kM (i:=a+A'.length) rfl rfl oO dO p7 ?_);refine jx rfl (CA (k:=0) (i:=a+A'.length) (enc:=tv) x (λ_=>rfl) rfl rfl mR hS rfl (by first|omega|simp) dO rfl rfl ?_);intro wz7 hS;refine V3 ?_;replace hS:St w0 _ ((b,t,(((Pre++(A'++[y])++x::(B++R)).set (a+A'.length+1) y).set (a+A'.length) x).flatMap tv++sp)::H):=hS;rw[hset]at hS;exact⟨(A',y::B),_,rfl,⟨by rw[hAB];simp,λz hz=>(bM.1 hz).elim (λe=>by rw[e];exact ai hcy) (hB z),jY,jY,jY,jY,vi rfl (show(a:Int)+((A'++[y]).length:Nat)-1=(a:Int)+(A'.length:Nat) by omega),hS⟩,(show A'.length<(A'++[y]).length by omega)⟩
    ·refine lH rfl (ae hcy) ?_;refine jt ?_;refine⟨_,rfl,jY,jY,jY,jY,?_⟩;rw[hAB,Hj hB (λz hz=>by
      rw[List.getLast?_append,List.getLast?_singleton]at hz;obtain rfl:y=z:=by simpa using hz
      exact ae hcy)]
     simpa using hS
  clear hS;rintro ρ w3 ⟨h0,h1,h2,h6,hS⟩;refine V3 ?_;exact⟨k+1,_,rfl,⟨oO,.inl hlt,jY,jY,jY,vi rfl oO,by rw[hnx,<-hR];exact hS⟩,oO⟩
 ·refine J1 ?_;refine jt ?_;have e1:M.take k=M:=aU oO;have e2:M.drop k=[]:=ff oO;rw[e1,e2]at hS;refine qv rfl ⟨rfl,?_⟩;simpa using hS
end Go.Proofs.YtoeiejliehgopaaGreatDoor
