import Derived.Test.YtoeiejliehgopaaGreatDoorUd8
set_option maxRecDepth 20000
set_option maxHeartbeats 8000000
namespace Go.Proofs.YtoeiejliehgopaaGreatDoor
open Go Go.RowKit Go.Sx
theorem oe {f g:Nat->Rat}:∀ {n:Nat},(∀i,i<n->f i<=g i)->kg f n<=kg g n
 |0,_=>bP
 |n+1,h=>by
  have a:=oe (n:=n) λi hi=>h i oO;have b:=h n oO;show kg f n+f n<=kg g n+g n;grind
theorem ny {f:Nat->Rat} {n:Nat} (h:∀i,i<n->0<=f i):0<=kg f n:=by
 have:=oe (f:=λ_=>0) h;rwa[kW λ_ _=>rfl]at this
theorem n9 (f g:Nat->Rat) (n:Nat):kg (λi=>f i+g i) n=kg f n+kg g n:=by
 have:=mX f g 1 n;rw[dW]at this;rw[<-this];exact km λi _=>by rw[dW]
theorem oA (f g:Nat->Rat) (n:Nat):kg (λi=>f i-g i) n=kg f n-kg g n:=by
 have:=mX f g (-1) n;have e:kg (λi=>f i-g i) n=kg (λi=>f i+ -1*g i) n:=km λi _=>by grind
 rw[e,this];grind
theorem pJ (a:Nat->Nat->Rat) (m:Nat):∀n,kg (λi=>kg (λj=>a i j) m) n=kg (λj=>kg (λi=>a i j) n) m
 |0=>(kW λ_ _=>rfl).symm
 |n+1=>by
  show kg _ n+_=_;rw[pJ a m n,<-n9];rfl
theorem yO {f:Nat->Rat}:∀ {n:Nat},(∀i,i<n->0<=f i)->∀i,i<n->f i<=kg f n
 |n+1,h,i,hi=>by
  have a:=ny (n:=n) λi hi=>h i oO;have b:=h n oO;show f i<=kg f n+f n;by_cases e:i=n
  ·rw[e];grind
  ·have:=yO (n:=n) (λi hi=>h i oO) i oO;grind
theorem AO {f:Nat->Rat} {n:Nat} (h:∀i,i<n->0<=f i) (h0:kg f n<=0):∀i,i<n->f i=0:=λi hi=>by
 have a:=yO h i hi;have b:=h i hi;grind
theorem nt {a b:Rat} (ha:0<=a) (hb:0<=b):0<=a*b:=Rat.mul_nonneg ha hb
theorem CH {a b:Rat} (ha:0<a) (hb:0<b):0<a*b:=Rat.mul_pos ha hb
theorem oI {a b c:Rat} (h:a<=b) (hc:0<=c):c*a<=c*b:=Rat.mul_le_mul_of_nonneg_left h hc
theorem Em {a b:Rat} (h:a*b=0) (hb:0<b):a=0:=by
 rcases fH.1 h with h|h
 ·exact h
 ·exact absurd h (wR hb)
structure Td (M:Mx) (n:Nat):Prop where
 nn:∀i,i<n->∀j,j<n->0<=M i j
 cs:∀j,j<n->ri M j n<=1
section
variable {M : Mx} {n : Nat} {u : Nat → Rat} {F : List Bool}
theorem KE (M:Mx) (n:Nat) (u:Nat->Rat):kg (λi=>mJ M u n i) n=kg (λj=>ri M j n*u j) n:=by
 show kg (λi=>kg (λj=>M i j*u j) n) n=_;rw[pJ];refine km λj _=> ?_;have e:kg (λi=>M i j*u j) n=kg (λi=>u j*M i j) n:=km λi _=>gm _ _;rw[e,qx,gm];rfl
theorem WD (h:Td M n) (hu:∀i,i<n->0<=u i) (hle:∀i,i<n->u i<=mJ M u n i):
  (∀i,i<n->mJ M u n i=u i)/\(∀c,c<n->0<u c->ri M c n=1)/\∀a,a<n->u a=0->∀c,c<n->0<u c->M a c=0:=by
 have e:=KE M n u;have hp:∀i,i<n->0<=mJ M u n i-u i:=λi hi=>by have:=hle i hi;grind
 have hq:∀j,j<n->0<=u j-ri M j n*u j:=λj hj=>by
  have:=nt (hu j hj) (show 0<=1-ri M j n by have:=h.cs j hj;grind);grind
 have e1:=oA (λi=>mJ M u n i) u n;have e2:=oA u (λj=>ri M j n*u j) n;have z1:=AO hp (by have:=ny hq;grind);have z2:=AO hq (by have:=ny hp;grind);refine⟨λi hi=>by have:=z1 i hi;grind,λc hc hc0=> ?_,λa ha h0 c hc hc0=> ?_⟩
 ·have:=z2 c hc;have:=Em (a:=1-ri M c n) (b:=u c) (by grind) hc0;grind
 ·have h1:=z1 a ha;have h2:=AO (f:=λj=>M a j*u j) (n:=n) (λj hj=>nt (h.nn a ha j hj) (hu j hj)) (by
   show mJ M u n a<=0;grind) c hc
  exact Em h2 hc0
theorem Qe {i:Nat} (hi:i<n) (S:Nat->Prop) (h0:S i) (hc:∀a c,a<n->c<n->S c->0<M a c->S a) {k:Nat} (hk:k∈tB M n i):S k:=by
 have h:=(tC.1 hk).2;induction h with
 |base j h=>rw[(EK hi j).1 h];exact h0
 |step a b h1 ha hb hm ih=>exact hc b a hb ha (ih (tC.2 ⟨ha,h1⟩)) hm
theorem Bw:∀ {k:Nat},k<=n->qm M n F k=[]->∀i,i<k->F.getD i false=true->(tB M n i).any (GQ M n)=true
 |k+1,hk,h,i,hi,hF=>by
  unfold qm at h;split at h
  ·exact absurd h (QF oO)
  ·next g=>
   by_cases e:i=k
   ·subst e;cases ha:(tB M n i).any (GQ M n)with
    |true=>rfl
    |false=>exact absurd ⟨hF,ha,.inl h⟩ g
   ·exact Bw oO h i oO hF
theorem Bv:∀ {k:Nat},k<=n->qm M n F k≠ []->∃i,i<k/\qm M n F k=tB M n i/\(tB M n i).any (GQ M n)=false/\∀j,j<k->F.getD j false=true->(tB M n j).any (GQ M n)=false->(qm M n F k).length<=(tB M n j).length
 |0,_,h=>absurd rfl h
 |k+1,hk,h=>by
  unfold qm at h⊢;split at h
  ·next g=>
   rw[aj g];refine⟨k,oO,rfl,g.2.1,λj hj hF ha=> ?_⟩;by_cases e:j=k
   ·rw[e];exact aB _
   ·by_cases e2:qm M n F k=[]
    ·have:=Bw oO e2 j oO hF;rw[this]at ha;cases ha
    ·obtain⟨_,_,_,_,h4⟩:=Bv oO e2;have h5:=h4 j oO hF ha;rcases g.2.2 with g1|g1
     ·exact absurd g1 e2
     ·omega
  ·next g=>
   rw[ah g];obtain⟨i,h1,h2,h3,h4⟩:=Bv oO h;refine⟨i,oO,h2,h3,λj hj hF ha=> ?_⟩;by_cases e:j=k
   ·subst e;have:¬((tB M n j).length<(qm M n F j).length):=λhlt=>g ⟨hF,ha,.inr hlt⟩;omega
   ·exact h4 j oO hF ha
theorem Gp {n i:Nat} (h:i<n):(List.replicate n true).getD i false=true:=by
 rw[ai,gj,aj h];rfl
theorem WC (h:Td M n) (hu:∀i,i<n->0<=u i) (hle:∀i,i<n->u i<=mJ M u n i) {i:Nat} (hi:i<n) (h0:0<u i):(tB M n i).any (GQ M n)=false/\∀k∈tB M n i,k<n/\0<u k:=by
 obtain⟨_,m2,m3⟩:=WD h hu hle;have hc:∀k∈tB M n i,k<n/\0<u k:=λk hk=>Qe hi (λk=>k<n/\0<u k) ⟨hi,h0⟩ (λa c ha hc hS hm=>⟨ha,by
  have h1:=hu a ha;by_cases e:u a=0
  ·have:=m3 a ha e c hc hS.2;rw[this]at hm;exact absurd hm (dw)
  ·grind⟩) hk
 refine⟨?_,hc⟩;rw[gw];intro k hk;obtain⟨a,b⟩:=hc k hk;unfold GQ;rw[m2 k a b];decide
theorem QB (h:Td M n) (hb:qm M n (List.replicate n true) n=[]) (hu:∀i,i<n->0<=u i) (hle:∀i,i<n->u i<=mJ M u n i):∀i,i<n->u i=0:=λi hi=>by
 have h1:=hu i hi;by_cases e:u i=0
 ·exact e
 ·have a:=(WC h hu hle hi (by grind)).1;rw[Bw (aB _) hb i hi (Gp hi)]at a;cases a
theorem Js {p q:Nat->Bool}:∀(l:List Nat),(∀k∈l,p k=true->q k=true)->(l.filter q).length<=(l.filter p).length->∀k∈l,q k=true->p k=true
 | [],_,_=>λ_ h=>by cases h
 |a::l,h,hl=>by
  have h1:∀k∈l,p k=true->q k=true:=λk hk=>h k (aI _ hk);have mono:(l.filter p).length<=(l.filter q).length:=by
   clear hl h;induction l with
   |nil=>exact aB _
   |cons b l ih=>
    have ih:=ih λk hk=>h1 k (aI _ hk);have hb:=h1 b (aJ ..);rw[fB,fB];cases e1:p b<;>cases e2:q b<;>simp_all<;>omega
  have ha:=h a (aJ ..);rw[fB,fB]at hl;intro k hk hq;cases e1:p a
  ·cases e2:q a
   ·rw[e1,e2]at hl;rcases bC.1 hk with rfl|hk
    ·rw[e2]at hq;cases hq
    ·exact Js l h1 hl k hk hq
   ·rw[e1,e2]at hl;simp only[gX,ba]at hl;simp at hl;omega
  ·rw[e1,ha e1]at hl;rcases bC.1 hk with rfl|hk
   ·exact e1
   ·exact Js l h1 (by simpa using hl) k hk hq
theorem UN (h:Td M n) {C:List Nat} (hC:qm M n (List.replicate n true) n=C) (hu:∀i,i∈C->mJ M u n i=u i) (h0:∀i,i∉C->u i=0) {i0:Nat} (hi0:0<u i0):(∀i,i∈C->0<u i)/\∀i,i<n->mJ M u n i=u i:=by
 have hin:∀i,0<u i->i∈C:=λi hi=>by
  by_cases e:i∈C
  ·exact e
  ·rw[h0 i e]at hi;exact absurd hi dw
 have hCn:∀c,c∈C->c<n:=λc hc=>by rw[<-hC]at hc;exact(ym M n _ n).2 c hc
 obtain⟨p,hp⟩:∃p:Nat->Rat,p=λi=>if 0<u i then u i else 0:=⟨_,rfl⟩
 have hp1:∀i,0<=p i/\u i<=p i/\(0<u i->p i=u i)/\(0<p i->0<u i):=λi=>by
  rw[hp];dsimp only;split<;>grind
 have hle:∀i,i<n->p i<=mJ M p n i:=λi hi=>by
  have hnn:0<=mJ M p n i:=ny λj hj=>nt (h.nn i hi j hj) (hp1 j).1;by_cases g:0<u i
  ·rw[(hp1 i).2.2.1 g,<-hu i (hin i g)];exact oe λj hj=>oI (hp1 j).2.1 (h.nn i hi j hj)
  ·have:p i=0:=by rw[hp];exact ah g
   rw[this];exact hnn
 have hpn:∀i,i<n->0<=p i:=λi _=>(hp1 i).1;have hi0n:=hCn i0 (hin i0 hi0);obtain⟨k1,k2⟩:=WC h hpn hle hi0n (by rw[(hp1 i0).2.2.1 hi0];exact hi0);have hne:qm M n (List.replicate n true) n≠ []:=λe=>by
  have:=hin i0 hi0;rw[<-hC,e]at this;cases this
 obtain⟨i1,_,e1,_,h4⟩:=Bv (aB n) hne;have h5:=h4 i0 hi0n (Gp hi0n) k1;rw[e1]at h5 hC;have hpos:∀i,i∈C->0<u i:=λi hi=>by
  have hm:i∈tB M n i0:=by
   have:=Js (p:=λk=>(SU M n (xj n i0)).getD k false) (q:=λk=>(SU M n (xj n i1)).getD k false) (List.range n) (λk hk hkp=> ?_) h5 i (cS.2 (hCn i hi)) ?_
   ·exact u7.2 ⟨hCn i hi,this⟩
   ·have hk1:=k2 k (u7.2 ⟨cS.1 hk,hkp⟩);have:=hin k ((hp1 k).2.2.2 hk1.2);rw[<-hC]at this;exact(u7.1 this).2
   ·rw[<-hC]at hi;exact(u7.1 hi).2
  exact(hp1 i).2.2.2 (k2 i hm).2
 refine⟨hpos,λi hi=> ?_⟩;have ep:p=u:=by
  funext k;by_cases g:0<u k
  ·exact(hp1 k).2.2.1 g
  ·have hz:u k=0:=h0 k λhk=>g (hpos k hk);rw[hp];show(if 0<u k then u k else 0)=u k;rw[hz];exact ah dw
 have:=(WD h hpn hle).1 i hi;rwa[ep]at this
theorem UU (h:Td M n) (hb:qm M n (List.replicate n true) n=[]) {v c:Nat->Rat} (hc:∀i,i<n->0<=c i) (hv:∀i,i<n->v i=mJ M v n i+c i):∀i,i<n->0<=v i:=by
 have hz:=QB (u:=λi=>if v i<0 then-v i else 0) h hb (λi _=>by split<;>grind) (λi hi=>by
  have hnn:0<=mJ M (λi=>if v i<0 then-v i else 0) n i:=ny λj hj=>nt (h.nn i hi j hj) (by dsimp only;split<;>grind);split
  ·have h1:kg (λj=> -(M i j*v j)) n<=mJ M (λi=>if v i<0 then-v i else 0) n i:=oe λj hj=>by
    dsimp only;have:=oI (a:= -v j) (b:=if v j<0 then-v j else 0) (by split<;>grind) (h.nn i hi j hj);grind
   have h2:=oA (λ_=>0) (λj=>M i j*v j) n;rw[kW (f:=λ_=>0) λ_ _=>rfl]at h2;have h3:kg (λi_1=>(0:Rat)-M i i_1*v i_1) n=kg (λj=> -(M i j*v j)) n:=km λj _=>by grind
   have h4:=hv i hi;have h5:=hc i hi;have h6:mJ M v n i=kg (λj=>M i j*v j) n:=rfl;grind
  ·exact hnn)
 intro i hi;have:=hz i hi;split at this<;>grind
end
theorem Fg (n:Nat) (A:Mx):∀c,(lF n A c).d≠0
 |0=>by show(1:Rat)≠0;decide
 |c+1=>by
  by_cases h:pv (lF n A c).M c n (lF n A c).P.length<n
  ·have hp:=(py (lF n A c).M c (rinv n A c).len).2.2.2 h;have ih:=Fg n A c;rw[HA h];intro e;rcases fH.1 e with e|e
   ·split at e
    ·exact ih e
    ·exact ih (by grind)
   ·exact hp e
  ·rw[L8 h];exact Fg n A c
theorem Qi {m:Nat} {A:Mx} (hm:0<m) (h:∀j,j<m->kg (λi=>A i j) m=0):qZ m A=0:=by
 have key:∀k,k<m->qZ m (qy A 0 λj=>kg (λi=>A i j) (k+1))=qZ m A:=by
  intro k;induction k with
  |zero=>
   intro _;refine n6 λi _ j _=> ?_;unfold qy;split
   ·next e=>rw[e];show 0+A 0 j=A 0 j;grind
   ·rfl
  |succ k ih=>
   intro hk;rw[<-ih oO,<-Ku (p:=0) (q:=k+1) hm hk oO (qy A 0 λj=>kg (λi=>A i j) (k+1)) 1];refine n6 λi _ j _=> ?_;by_cases e:i=0
   ·rw[e,l9,l9,l9,nv _ _ oO,dW];rfl
   ·rw[nv _ _ e,nv _ _ e,nv _ _ e]
 rw[<-key (m-1) oO];refine Dc (p:=0) hm λj hj=> ?_;rw[l9,eJ hm,h j hj]
theorem W1 {m:Nat} {A:Mx} (hm:0<m) (h:∀j,j<m->kg (λi=>A i j) m=0):(lF m A m).P.length<m:=by
 have e:=Rq m A;rw[Qi hm h]at e;have hl:=zY m A m;by_cases g:(lF m A m).P.length=m
 ·unfold Us at e;rw[aj g]at e;exact absurd e (Fg m A m)
 ·omega
theorem E5 {C:List Nat} {n:Nat} (hC:C.Nodup) (hn:∀c∈C,c<n) (f:Nat->Rat) (h0:∀i,i∉C->f i=0):kg f n=kg (λb=>f (C.getD b 0)) C.length:=by
 have key:∀k,k<=C.length->kg (λi=>if i∈C.take k then f i else 0) n=kg (λb=>f (C.getD b 0)) k:=by
  intro k;induction k with
  |zero=>exact λ_=>kW λi _=>by simp
  |succ k ih=>
   intro hk;have hm:C.getD k 0∈C:=pf hk;have hnot:C.getD k 0∉C.take k:=λhx=>by
    obtain⟨l,hl,e⟩:=Dv hx;have hlk:l<k:=by rw[cG]at hl;omega
    have e2:(C.take k).getD l 0=C.getD l 0:=by
     rw[ai,ai,jB,aj hlk]
    rw[e2]at e;have a:=vW C hC (k:=l) oO;rw[e,vW C hC hk]at a;omega
   show _=kg _ k+f (C.getD k 0);have hone:kg (λi=>if i=C.getD k 0 then f i else 0) n=f (C.getD k 0):=by
    rw[nF (p:=C.getD k 0) (hn _ hm) λi _ hi=>ah hi];exact aj rfl
   rw[<-ih oO,<-hone,<-n9];refine km λi _=> ?_;have et:C.take (k+1)=C.take k++[C.getD k 0]:=by
    rw[List.take_add_one,ai,aG hk];rfl
   rw[et];by_cases e:i=C.getD k 0
   ·rw[aj e,aj (by rw[e];simp),e,ah hnot];grind
   ·rw[ah e];by_cases e2:i∈C.take k
    ·rw[aj (fM _ e2),aj e2];grind
    ·rw[ah (λh=>(bB.1 h).elim e2 λh=>e (aQ.1 h)),ah e2];grind
 rw[<-key C.length (aB _),bK];refine km λi _=> ?_;split
 ·rfl
 ·next h=>exact h0 i h
theorem Qn {M:Mx} {C:List Nat} {i j:Nat} (hi:i<C.length) (hj:j<C.length):RM (pA M C) i j=sM M C i j:=by
 unfold RM pA;rw[pD _ hi,kw _ _ hj,toQ_ofQ]
theorem F9 {M:Mx} {C:List Nat} (hC:0<C.length):mZ (pA M C)=C.length:=by
 show((pA M C).getD 0 []).length=_;unfold pA;rw[pD _ hC,ka]
theorem Pg {M:Mx} {C:List Nat} (hC:0<C.length) (h16:C.length<=16):ua (pA M C)=0:=by
 have h1:(pA M C).length=C.length:=mQ _ _ _;have h2:=F9 (M:=M) hC;have h3:Bd (pA M C)=true:=by
  unfold Bd;rw[cJ];intro r hr;obtain⟨i,_,rfl⟩:=rD hr;rw[ka,h2];exact ak rfl
 unfold ua;rw[h1,h2,h3,ah oO,ah dD,ah oO]
theorem Ks {n m:Nat} {A B:Mx} {x:Nat->Rat} (h:∀i,i<n->∀j,j<m->A i j=B i j) (hk:Iv n m A x):Iv n m B x:=λi hi=>by
 rw[<-hk i hi];exact km λj hj=>by rw[h i hi j hj]
theorem SB {M:Mx} {C:List Nat} (hC:0<C.length) (h16:C.length<=16) (hc:∀j,j<C.length->kg (λi=>sM M C i j) C.length=0):
  IN (pA M C)≠ []/\(∃f,f<C.length/\f∉(lF C.length (RM (pA M C)) C.length).P/\∀j,j<C.length->MK M C j=kv (lF C.length (RM (pA M C)) C.length).P (lF C.length (RM (pA M C)) C.length).M f j)/\(∃f,f<C.length/\MK M C f=1)/\Iv C.length C.length (sM M C) (MK M C):=by
 have h1:(pA M C).length=C.length:=mQ _ _ _;have h2:=F9 (M:=M) hC;have hs:(lF C.length (RM (pA M C)) C.length).P.length<C.length:=by
  refine W1 hC λj hj=> ?_;rw[<-hc j hj];exact km λi hi=>Qn hi hj
 have I:=rinv C.length (RM (pA M C)) C.length;have ek:IN (pA M C)=(Nf (lF C.length (RM (pA M C)) C.length).P C.length).map (qY (lF C.length (RM (pA M C)) C.length).M (lF C.length (RM (pA M C)) C.length).P C.length):=by
  unfold IN Gm;rw[aj (Pg hC h16),h1,h2]
 have hfc:=B6 I.inc I.lt;have hker:=λx=>Bz C.length C.length (RM (pA M C)) x C.length;have h0:∀j,MK M C j=toQ (((IN (pA M C)).getD 0 []).getD j kP):=λj=>rfl;generalize lF C.length (RM (pA M C)) C.length=s at*;have hfl:Nf s.P C.length=(List.range C.length).filter λf=> !decide (f∈s.P):=rfl;cases hf:Nf s.P C.length with
 |nil=>rw[<-hfl,hf]at hfc;simp at hfc;omega
 |cons f l=>
  have hm:f∈Nf s.P C.length:=by rw[hf];exact aJ ..
  rw[hfl,dS,cS]at hm;have hfP:f∉s.P:=by simpa using hm.2
  have hk0:∀j,j<C.length->MK M C j=kv s.P s.M f j:=λj hj=>by
   rw[h0,ek,hf];show toQ ((qY s.M s.P C.length f).getD j kP)=_;unfold qY;rw[kw _ _ hj,toQ_ofQ]
  refine⟨by rw[ek,hf];simp,⟨f,hm.1,hfP,hk0⟩,⟨f,hm.1,by rw[hk0 f hm.1];exact aj rfl⟩,?_⟩;rw[Nc hk0];exact Ks (λi hi j hj=>Qn hi hj) ((hker _).1 (Kb I hfP hm.1))
theorem Gx {C:List Nat} (hC:C.Nodup) (l:Nat->Rat) {b:Nat} (hb:b<C.length):uI C l C.length (C.getD b 0)=l b:=by
 unfold uI;rw[bK,aj (pf hb),vW C hC hb]
theorem GO {C:List Nat} (l:Nat->Rat) {i:Nat} (h:i∉C):uI C l C.length i=0:=by
 unfold uI;rw[bK,ah h]
theorem Rt {M:Mx} {C:List Nat} {n:Nat} (hC:C.Nodup) (hn:∀c∈C,c<n) (l:Nat->Rat) (i:Nat):mJ M (uI C l C.length) n i=kg (λb=>M i (C.getD b 0)*l b) C.length:=by
 have h:=E5 hC hn (λj=>M i j*uI C l C.length j) λj hj=>by rw[GO l hj,dZ]
 unfold mJ;rw[h];exact km λb hb=>by rw[Gx hC l hb]
theorem KX (M:Mx) {C:List Nat} (l:Nat->Rat) {a:Nat} (ha:a<C.length):mJ (sM M C) l C.length a=kg (λb=>M (C.getD a 0) (C.getD b 0)*l b) C.length-l a:=by
 have e:∀b,sM M C a b*l b=M (C.getD a 0) (C.getD b 0)*l b-(if b=a then l a else 0):=λb=>by
  unfold sM;by_cases h:a=b
  ·rw[aj h,aj h.symm,h];grind
  ·rw[ah h,ah λh2=>h h2.symm];grind
 unfold mJ;rw[km λb _=>e b,oA,nF (f:=λb=>if b=a then l a else 0) ha λb _ hb=>ah hb,aj rfl]
theorem yY {M:Mx} {n:Nat} {C:List Nat} (h:Td M n) (hb:qm M n (List.replicate n true) n=C) (hne:C≠ []) (h16:n<=16):
  IN (pA M C)≠ []/\(∀i,i∈C->0<uw M C i)/\(∀i,i∉C->uw M C i=0)/\(∀i,i<n->mJ M (uw M C) n i=uw M C i)/\(∀c,c∈C->ri M c n=1)/\∃f,f<C.length/\f∉(lF C.length (RM (pA M C)) C.length).P/\∀j,j<C.length->MK M C j=kv (lF C.length (RM (pA M C)) C.length).P (lF C.length (RM (pA M C)) C.length).M f j:=by
 obtain⟨hC,hCn⟩:=ym M n (List.replicate n true) n;have hle:=AN M n (List.replicate n true) n;obtain⟨i0,hi0,e0,lk0,_⟩:=Bv (aB n) (by rw[hb];exact hne);rw[hb]at hC hCn hle e0;have hC0:0<C.length:=fT.2 hne;have hcs:∀c,c∈C->ri M c n=1:=λc hc=>by
  rw[gw]at lk0;rw[e0]at hc;have h1:=lk0 c hc;have h2:=h.cs c (tC.1 hc).1;unfold GQ at h1;have h3:¬ri M c n<1:=λg=>h1 (ak g);grind
 have hz:∀a,a<n->a∉C->∀c,c∈C->M a c=0:=λa ha hna c hc=>by
  have h1:=h.nn a ha c (hCn c hc);by_cases e:M a c=0
  ·exact e
  ·rw[e0]at hc hna;exact absurd (tC.2 ⟨ha,.step c a (tC.1 hc).2 (tC.1 hc).1 ha (by grind)⟩) hna
 have hsub:∀j,j<C.length->kg (λi=>sM M C i j) C.length=0:=λj hj=>by
  have hm:=pf hj;have e:∀i,sM M C i j=M (C.getD i 0) (C.getD j 0)-(if i=j then 1 else 0):=λi=>rfl;rw[km λi _=>e i,oA,nF (f:=λi=>if i=j then(1:Rat)else 0) hj λi _ hi=>ah hi,aj rfl];have hs:=E5 hC hCn (λa=>if a∈C then M a (C.getD j 0)else 0) λa ha=>ah ha;have e2:kg (λa=>if a∈C then M a (C.getD j 0)else 0) n=ri M (C.getD j 0) n:=km λa ha=>by
   split
   ·rfl
   ·next g=>exact(hz a ha g _ hm).symm
  have e3:kg (λb=>if C.getD b 0∈C then M (C.getD b 0) (C.getD j 0)else 0) C.length=kg (λb=>M (C.getD b 0) (C.getD j 0)) C.length:=km λb hb=>aj (pf hb);rw[<-e3,<-hs,e2,hcs _ hm];grind
 obtain⟨k1,k2,⟨f,hf,hf1⟩,hker⟩:=SB hC0 oO hsub;have hdot:∀i,i∈C->mJ M (uw M C) n i=uw M C i:=λi hi=>by
  obtain⟨a,ha,e⟩:=Dv hi;have h1:=hker a ha;rw[KX M _ ha]at h1;unfold uw;rw[Rt hC hCn,<-e,Gx hC _ ha];grind
 obtain⟨p1,p2⟩:=UN h hb hdot (λi hi=>GO _ hi) (i0:=C.getD f 0) (by
  unfold uw;rw[Gx hC _ hf,hf1];decide)
 exact⟨k1,p1,λi hi=>GO _ hi,p2,hcs,k2⟩
theorem ru {n j:Nat} (h:j<n):(List.range n).getD j 0=j:=by
 rw[ai,List.getElem?_range h];rfl
theorem M7 {n:Nat} {A:Mx} (hA:∀x,Iv n n A x->∀i,i<n->x i=0):(lF n A n).P.length=n:=by
 have I:=rinv n A n;have hl:=zY n A n;by_cases e:(lF n A n).P.length=n
 ·exact e
 ·have hfc:=B6 I.inc I.lt;cases hf:(List.range n).filter λf=> !decide (f∈(lF n A n).P)with
  |nil=>rw[hf]at hfc;simp at hfc;omega
  |cons f l=>
   have hm:f∈(List.range n).filter λf=> !decide (f∈(lF n A n).P):=by rw[hf];exact aJ ..
   rw[dS,cS]at hm;have hfP:f∉(lF n A n).P:=by simpa using hm.2
   have h1:=hA _ ((Bz n n A _ n).1 (Kb I hfP hm.1)) f hm.1;have h2:kv (lF n A n).P (lF n A n).M f f=1:=aj rfl;rw[h2]at h1;exact absurd h1 dD
theorem zo {g:mT} {M:Mx} (h:Td M g.n) (hb:qm M g.n (List.replicate g.n true) g.n=[]) (h0:0<g.n) (h16:g.n<=16) (hc:∀i,i<g.n->0<=yJ g i):
  Lc (pA M (List.range g.n)) (z9 g (List.range g.n))=0/\RN (pA M (List.range g.n)) (z9 g (List.range g.n))=ku g.n (λj=>j9 (S2 g M (List.range g.n) j))/\(∀i,i<g.n->0<=qQ g M (List.range g.n) i)/\(∀i,i<g.n->qQ g M (List.range g.n) i=mJ M (qQ g M (List.range g.n)) g.n i+yJ g i)/\
  (NM (pA M (List.range g.n)) (z9 g (List.range g.n))).P.length=g.n/\∀j,j<g.n->qQ g M (List.range g.n) j=(NM (pA M (List.range g.n)) (z9 g (List.range g.n))).M j g.n:=by
 obtain⟨n,hn⟩:=jz g.n;rw[<-hn]at h hb h0 h16 hc⊢;have hl:(List.range n).length=n:=dE;have h1:(pA M (List.range n)).length=n:=by rw[show(pA M (List.range n)).length=(List.range n).length from mQ _ _ _,hl]
 have h2:=F9 (M:=M) (C:=List.range n) oO;have hsh:=Pg (M:=M) (C:=List.range n) oO oO;have hcb:(z9 g (List.range n)).length=n:=by unfold z9;rw[ka,hl]
 have hsq:OA (pA M (List.range n))=0:=by
  unfold OA;rw[hsh,ah dD,ah (by rw[h1,h2,hl];simp)]
 have hsubM:∀i,i<n->∀j,j<n->sM M (List.range n) i j=M i j-(if i=j then 1 else 0):=λi hi j hj=>by
  unfold sM;rw[ru hi,ru hj]
 have hA1:∀i,i<n->∀j,j<n->DJ (pA M (List.range n)) (z9 g (List.range n)) i j=sM M (List.range n) i j:=λi hi j hj=>by
  unfold DJ;rw[h1,aj hj,Qn oO oO]
 have hA2:∀i,i<n->DJ (pA M (List.range n)) (z9 g (List.range n)) i n= -yJ g i:=λi hi=>by
  unfold DJ VX z9;rw[h1,ah oO,aj rfl,kw _ _ oO,toQ_ofQ,ru hi]
 have hdM:∀x i,i<n->mJ (sM M (List.range n)) x n i=mJ M x n i-x i:=λx i hi=>by
  have:=KX M (C:=List.range n) x (a:=i) oO;rw[hl,ru hi]at this;rw[this];congr 1;exact km λb hb=>by rw[ru hb]
 have hinj:∀x,Iv n n (DJ (pA M (List.range n)) (z9 g (List.range n))) x->∀i,i<n->x i=0:=λx hx=>by
  have hx2:Iv n n (sM M (List.range n)) x:=Ks hA1 hx;have hd:∀i,i<n->mJ M x n i=x i:=λi hi=>by
   have:=hx2 i hi;rw[hdM x i hi]at this;grind
  have hz:=QB (u:=λi=>if x i<0 then-x i else x i) h hb (λi _=>by split<;>grind) (λi hi=>by
   have e1:mJ M x n i<=mJ M (λi=>if x i<0 then-x i else x i) n i:=oe λj hj=>by
    dsimp only;exact oI (by split<;>grind) (h.nn i hi j hj)
   have e2:mJ M (λj=> -x j) n i<=mJ M (λi=>if x i<0 then-x i else x i) n i:=oe λj hj=>by
    dsimp only;exact oI (by split<;>grind) (h.nn i hi j hj)
   have e3:mJ M (λj=> -x j) n i= -mJ M x n i:=by
    have:=oA (λ_=>0) (λj=>M i j*x j) n;rw[kW (f:=λ_=>0) λ_ _=>rfl]at this;have h3:kg (λj=>(0:Rat)-M i j*x j) n=mJ M (λj=> -x j) n i:=km λj _=>by grind
    have h4:mJ M x n i=kg (λj=>M i j*x j) n:=rfl;grind
   have:=hd i hi;split<;>grind)
  intro i hi;have:=hz i hi;split at this<;>grind
 have hP:=M7 hinj;have hsd:NM (pA M (List.range n)) (z9 g (List.range n))=lF n (DJ (pA M (List.range n)) (z9 g (List.range n))) n:=by unfold NM;rw[h1]
 have hse:Lc (pA M (List.range n)) (z9 g (List.range n))=0:=by
  unfold Lc;rw[ah (by rw[hsq];decide),ah (by rw[h1,hcb];simp),hsd,h1,aj hP]
 have hsl:RN (pA M (List.range n)) (z9 g (List.range n))=ku n λi=>j9 ((NM (pA M (List.range n)) (z9 g (List.range n))).M i n):=by
  unfold RN;rw[aj hse,h1]
 have hsv:∀j,j<n->S2 g M (List.range n) j=(NM (pA M (List.range n)) (z9 g (List.range n))).M j n:=λj hj=>by
  unfold S2;rw[hsl,kw _ _ hj,toQ_ofQ]
 have hfd:∀j,j<n->qQ g M (List.range n) j=(NM (pA M (List.range n)) (z9 g (List.range n))).M j n:=λj hj=>by
  have:=Gx (C:=List.range n) jT (S2 g M (List.range n)) (b:=j) oO;rw[ru hj]at this;unfold qQ;rw[this,hsv j hj]
 have hv:∀i,i<n->qQ g M (List.range n) i=mJ M (qQ g M (List.range n)) n i+yJ g i:=by
  obtain⟨A,hA⟩:=jz (DJ (pA M (List.range n)) (z9 g (List.range n)));rw[<-hA]at hsd hA1 hA2 hP;have er:=C0 (A:=A) (c:=n) (n:=n) oO 1;have I:=rinv n A (n+1);have hr:=CF (rinv n A n) hP;have hn':n∉(lF n A (n+1)).P:=by rw[er,hr];simp
  have hk:=(Bz n (n+1) A _ (n+1)).1 (Kb I hn' oO);rw[er]at hk;have hkn:kv (lF n A n).P (lF n A n).M n n=1:=aj rfl;have hkj:∀j,j<n->kv (lF n A n).P (lF n A n).M n j= -(lF n A n).M j n:=λj hj=>by
   have:=PQ (P:=(lF n A n).P) (M:=(lF n A n).M) (f:=n) (l:=j) (rinv n A n).inc (by rw[hr];simp) oO;rw[hr]at this⊢;rwa[ru hj]at this
  intro i hi;have h3:=hk i hi;have h4:kg (λj=>A i j*kv (lF n A n).P (lF n A n).M n j) n+A i n*kv (lF n A n).P (lF n A n).M n n=0:=h3;rw[hkn,hA2 i hi]at h4;have h5:kg (λj=>A i j*kv (lF n A n).P (lF n A n).M n j) n= -mJ (sM M (List.range n)) (qQ g M (List.range n)) n i:=by
   have:=oA (λ_=>0) (λj=>sM M (List.range n) i j*qQ g M (List.range n) j) n;rw[kW (f:=λ_=>0) λ_ _=>rfl]at this;have h6:kg (λj=>(0:Rat)-sM M (List.range n) i j*qQ g M (List.range n) j) n=kg (λj=>A i j*kv (lF n A n).P (lF n A n).M n j) n:=km λj hj=>by
    rw[hkj j hj,hA1 i hi j hj,hfd j hj,hsd];grind
   have h7:mJ (sM M (List.range n)) (qQ g M (List.range n)) n i=kg (λj=>sM M (List.range n) i j*qQ g M (List.range n) j) n:=rfl;grind
  have h8:=hdM (qQ g M (List.range n)) i hi;grind
 refine⟨hse,?_,UU h hb hc hv,hv,by rw[hsd];exact hP,hfd⟩;rw[hsl];exact kB λj hj=>by rw[hsv j hj]
def rQ (c:Int):List Pa->Rat
 | []=>0
 |p::l=>(if p.c=c then p.q else 0)+rQ c l
def qs:List Pa->Rat
 | []=>0
 |p::l=>p.q+qs l
structure DM (t:Tr):Prop where
 q:∀p∈t.ps,0<=p.q
 s:t.sm=qs t.ps
def yt (T:List Tr):Prop:=∀t∈T,DM t
theorem Dg (c:Int) (m:List Pa):∀l,rQ c (l++m)=rQ c l+rQ c m
 | []=>by show rQ c m=0+rQ c m;grind
 |p::l=>by show _+rQ c (l++m)=_+rQ c l+rQ c m;rw[Dg c m l];grind
theorem EM (m:List Pa):∀l,qs (l++m)=qs l+qs m
 | []=>by show qs m=0+qs m;grind
 |p::l=>by show _+qs (l++m)=_+qs l+qs m;rw[EM m l];grind
theorem KZ (c:Int) (r:Rat):∀l:List Pa,rQ c (l.map λp=>⟨p.c,p.q*r⟩)=rQ c l*r
 | []=>by show(0:Rat)=0*r;grind
 |p::l=>by
  show(if p.c=c then p.q*r else 0)+rQ c (l.map λp=>⟨p.c,p.q*r⟩)=((if p.c=c then p.q else 0)+rQ c l)*r;rw[KZ c r l];split<;>grind
theorem OQ (r:Rat):∀l:List Pa,qs (l.map λp=>⟨p.c,p.q*r⟩)=qs l*r
 | []=>by show(0:Rat)=0*r;grind
 |p::l=>by
  show p.q*r+qs (l.map λp=>⟨p.c,p.q*r⟩)=(p.q+qs l)*r;rw[OQ r l];grind
theorem F1 (c:Int) (t:Tr) (a:Rat):rQ c (FZ t a)=rQ c t.ps*(a/t.sm):=KZ c _ t.ps
theorem SL (t:Tr) (a:Rat):qs (FZ t a)=qs t.ps*(a/t.sm):=OQ _ t.ps
theorem Pw {c:Int}:∀ {l:List Pa},(∀p∈l,0<=p.q)->0<=rQ c l
 | [],_=>bP
 |p::l,h=>by
  have a:=h p (aJ ..);have b:=Pw (c:=c) λp hp=>h p (aI _ hp);show 0<=(if p.c=c then p.q else 0)+rQ c l;split<;>grind
theorem Tt:∀ {l:List Pa},(∀p∈l,0<=p.q)->0<=qs l
 | [],_=>bP
 |p::l,h=>by
  have a:=h p (aJ ..);have b:=Tt λp hp=>h p (aI _ hp);show 0<=p.q+qs l;grind
theorem Oa {c:Int}:∀ {l:List Pa},(∀p∈l,0<=p.q)->rQ c l<=qs l
 | [],_=>bP
 |p::l,h=>by
  have a:=h p (aJ ..);have b:=Oa (c:=c) λp hp=>h p (aI _ hp);show(if p.c=c then p.q else 0)+rQ c l<=p.q+qs l;split<;>grind
theorem yN {n:Nat}:∀ {l:List Pa},(∀p∈l,yP n p)->kg (λk=>rQ k l) n+rQ (-1) l=qs l
 | [],_=>by
  show kg (λ_=>0) n+0=0;rw[kW λ_ _=>rfl];grind
 |p::l,h=>by
  have ih:=yN (n:=n) λp hp=>h p (aI _ hp);have e:=n9 (λk=>if p.c=(k:Int)then p.q else 0) (λk=>rQ k l) n;show kg (λk:Nat=>(if p.c=(k:Int)then p.q else 0)+rQ k l) n+((if p.c= -1 then p.q else 0)+rQ (-1) l)=p.q+qs l;rw[e];rcases h p (aJ ..)with g|⟨g1,g2⟩
  ·rw[aj g,kW λk _=>ah oO];grind
  ·rw[ah oO,nF (p:=p.c.toNat) oO λk _ hk=>ah oO,aj oO];grind
theorem F7 (k:Nat):∀(l:List Pa) (s:Rs),(qN s l).c k=s.c k+rQ k l
 | [],s=>by show s.c k=s.c k+0;grind
 |p::l,s=>by
  show(qN (C1 s p) l).c k=s.c k+((if p.c=k then p.q else 0)+rQ k l);rw[F7 k l];unfold C1;by_cases e:p.c= -1
  ·rw[aj e,ah (show¬p.c=(k:Int) by omega)];grind
  ·rw[ah e];show(if(k:Int)=p.c then s.c k+p.q else s.c k)+_=_;by_cases e2:p.c=(k:Int)
   ·rw[aj e2,aj e2.symm];grind
   ·rw[ah e2,ah λh=>e2 h.symm];grind
theorem Pu:∀(l:List Pa) (s:Rs),(qN s l).r=s.r+rQ (-1) l
 | [],s=>by show s.r=s.r+0;grind
 |p::l,s=>by
  show(qN (C1 s p) l).r=s.r+((if p.c= -1 then p.q else 0)+rQ (-1) l);rw[Pu l];unfold C1;by_cases e:p.c= -1
  ·rw[aj e,aj e];grind
  ·rw[ah e,ah e];grind
theorem nM (t:Tr) (T:List Tr) (m:Rat):md (t::T) m=if m<t.sm then 0 else md T (m-t.sm)+1:=rfl
theorem EI {t:Tr} {T:List Tr} {m:Rat} (h:¬m<t.sm):rz (t::T) m=rz T (m-t.sm):=by
 unfold rz;rw[nM,ah h,tI];grind
theorem CQ {t:Tr} {T:List Tr} {m:Rat} (h:m<t.sm):rz (t::T) m=m:=by
 unfold rz;rw[nM,aj h];show m-0=m;grind
theorem xP (t:Tr) (T:List Tr) (m:Rat):re (t::T) m=if m<t.sm then FZ t m else t.ps++re T (m-t.sm):=by
 unfold re;rw[nM];by_cases h:m<t.sm
 ·rw[aj h,aj h,CQ h,aj (show 0<(t::T).length from iN _)];rfl
 ·rw[ah h,ah h,EI h,List.take_succ_cons,cw,aF];congr 1;congr 1;by_cases g:md T (m-t.sm)<T.length
  ·rw[aj g,aj (show md T (m-t.sm)+1<(t::T).length by rw[ba];omega)];rfl
  ·rw[ah g,ah (show¬md T (m-t.sm)+1<(t::T).length by rw[ba];omega)]
theorem xC (t:Tr) (T:List Tr) (m r:Rat):qz (t::T) m r=if m<t.sm then FZ t r else qz T (m-t.sm) r:=by
 unfold qz;rw[nM];by_cases h:m<t.sm
 ·rw[aj h,aj h,aj (show 0<(t::T).length from iN _)];rfl
 ·rw[ah h,ah h];by_cases g:md T (m-t.sm)<T.length
  ·rw[aj g,aj (show md T (m-t.sm)+1<(t::T).length by rw[ba];omega)];rfl
  ·rw[ah g,ah (show¬md T (m-t.sm)+1<(t::T).length by rw[ba];omega)]
theorem u3 (t:Tr) (T:List Tr) (m:Rat):rJ (t::T) m=if m<t.sm then t.sm-m else rJ T (m-t.sm):=by
 unfold rJ;by_cases h:m<t.sm
 ·rw[aj h,CQ h,nM,aj h];rfl
 ·rw[ah h,EI h,nM,ah h];rfl
def uB (T:List Tr) (m:Rat) (c:Int):Rat:=rQ c (re T m)
def yd (T:List Tr) (m:Rat) (c:Int):Rat:=rQ c (qz T m 1)
def Sb (T:List Tr) (m:Rat):Rat:=qs (re T m)
theorem qe (t:Tr) (T:List Tr) (m:Rat) (c:Int):uB (t::T) m c=if m<t.sm then rQ c t.ps*(m/t.sm)else rQ c t.ps+uB T (m-t.sm) c:=by
 unfold uB;rw[xP];split
 ·exact F1 _ _ _
 ·exact Dg _ _ _
theorem uS (t:Tr) (T:List Tr) (m:Rat) (c:Int):yd (t::T) m c=if m<t.sm then rQ c t.ps*(1/t.sm)else yd T (m-t.sm) c:=by
 unfold yd;rw[xC];split
 ·exact F1 _ _ _
 ·rfl
theorem z7 (t:Tr) (T:List Tr) (m:Rat):Sb (t::T) m=if m<t.sm then qs t.ps*(m/t.sm)else qs t.ps+Sb T (m-t.sm):=by
 unfold Sb;rw[xP];split
 ·exact SL _ _
 ·exact EM _ _
theorem CM (T:List Tr) (m r:Rat) (c:Int):rQ c (qz T m r)=r*yd T m c:=by
 unfold yd qz;split
 ·rw[F1,F1,bR,bR];grind
 ·show(0:Rat)=r*0;grind
theorem A1 {b:Rat} (h:0<b):0<b⁻¹/\b*b⁻¹ =1:=⟨Rat.inv_pos.2 h,bX _ (wR h)⟩
theorem tO {a b:Rat} (h:0<b):b*(a/b)=a:=by
 have:=(A1 h).2;rw[bR];grind
theorem Fp {a b:Rat} (ha:0<=a) (hb:0<b):0<=a/b:=by rw[bR];exact nt ha (dm (A1 hb).1)
theorem Rr {a b:Rat} (h:a<=b) (hb:0<b):a/b<=1:=by
 obtain⟨h1,h2⟩:=A1 hb;have:=oI h (dm h1);rw[bR];grind
theorem O0 {a b c:Rat} (h:a<=b) (hc:0<c):a/c<=b/c:=by
 have:=oI h (dm (A1 hc).1);rw[bR,bR];grind
section
variable {T : List Tr} {m m' h : Rat} {c : Int}
theorem yt.hd {t:Tr} (hT:yt (t::T)):DM t:=hT t (aJ ..)
theorem yt.tl {t:Tr} (hT:yt (t::T)):yt T:=λx hx=>hT x (aI _ hx)
theorem DM.s0 {t:Tr} (h:DM t):0<=t.sm:=by rw[h.s];exact Tt h.q
theorem DM.a {t:Tr} (h:DM t) (c:Int):0<=rQ c t.ps/\rQ c t.ps<=t.sm:=⟨Pw h.q,by rw[h.s];exact Oa h.q⟩
theorem Ew:∀ {T:List Tr} {m:Rat},yt T->0<=m->0<=uB T m c
 | [],_,_,_=>bP
 |t::T,m,hT,hm=>by
  have a:=(hT.hd.a c).1;rw[qe];split
  ·next g=>exact nt a (Fp hm (by grind))
  ·have:=Ew (T:=T) (m:=m-t.sm) hT.tl (by grind);grind
theorem BQ:∀ {T:List Tr} {m m':Rat},yt T->0<=m->m<=m'->uB T m c<=uB T m' c
 | [],_,_,_,_,_=>bP
 |t::T,m,m',hT,hm,hmm=>by
  have a:=(hT.hd.a c).1;rw[qe,qe];by_cases g:m<t.sm
  ·rw[aj g];by_cases g2:m'<t.sm
   ·rw[aj g2];exact oI (O0 hmm (by grind)) a
   ·rw[ah g2];have h1:=oI (Rr (dm g) (by grind)) a;have h2:=Ew (T:=T) (m:=m'-t.sm) (c:=c) hT.tl (by grind);grind
  ·rw[ah g,ah (by grind)];have:=BQ (T:=T) (m:=m-t.sm) (m':=m'-t.sm) hT.tl (by grind) (by grind);grind
theorem Pp:∀ {T:List Tr} {m:Rat},yt T->0<=m->Sb T m<=m
 | [],_,_,h=>h
 |t::T,m,hT,hm=>by
  have hs:=hT.hd.s;rw[z7];split
  ·next g=>
   rw[<-hs,tO (by grind)];exact bP
  ·have:=Pp (T:=T) (m:=m-t.sm) hT.tl (by grind);grind
theorem NS:∀ {T:List Tr} {m m':Rat},yt T->0<=m->m<=m'->Sb T m'-Sb T m<=m'-m
 | [],m,m',_,_,h=>by show(0:Rat)-0<=_;grind
 |t::T,m,m',hT,hm,hmm=>by
  have hs:=hT.hd.s;have e:∀x,0<=x->x<t.sm->qs t.ps*(x/t.sm)=x:=λx h0 g=>by rw[<-hs,tO (by grind)]
  rw[z7,z7];by_cases g:m<t.sm
  ·rw[aj g,e m hm g];by_cases g2:m'<t.sm
   ·rw[aj g2,e m' (by grind) g2];exact bP
   ·rw[ah g2];have:=Pp (T:=T) (m:=m'-t.sm) hT.tl (by grind);grind
  ·rw[ah g,ah (by grind)];have:=NS (T:=T) (m:=m-t.sm) (m':=m'-t.sm) hT.tl (by grind) (by grind);grind
theorem B0:∀ {T:List Tr},yt T->uB T 0 c=0
 | [],_=>rfl
 |t::T,hT=>by
  have a:=hT.hd.a c;rw[qe];split
  ·rw[bR];grind
  ·have e:t.sm=0:=by have:=hT.hd.s0;grind
   rw[e,show(0:Rat)-0=0 by grind,B0 (T:=T) hT.tl];grind
theorem zu:∀ {T:List Tr} {m:Rat},md T m<T.length->0<rJ T m
 | [],_,h=>absurd h (aS _)
 |t::T,m,h=>by
  rw[u3];rw[nM]at h;split
  ·grind
  ·next g=>
   rw[ah g,ba]at h;exact zu oO
theorem Ji:∀ {T:List Tr} {m:Rat},yt T->0<=m->0<=h->md T m<T.length->h<=rJ T m->uB T (m+h) c=uB T m c+h*yd T m c
 | [],_,_,_,_,hf,_=>absurd hf (aS _)
 |t::T,m,hT,hm,h0,hf,hg=>by
  rw[u3]at hg;rw[qe,qe,uS];by_cases g:m<t.sm
  ·rw[aj g]at hg;have hi:=(A1 (b:=t.sm) (by grind)).2;rw[aj g,aj g];split
   ·rw[bR,bR,bR];grind
   ·have e:m+h-t.sm=0:=by grind
    rw[e,B0 hT.tl,bR,bR];have:m+h=t.sm:=by grind
    grind
  ·rw[nM,ah g,ba]at hf;rw[ah g]at hg;rw[ah g,ah g,ah (by grind),show m+h-t.sm=(m-t.sm)+h by grind,Ji (T:=T) hT.tl (by grind) h0 oO hg];grind
theorem zb:∀ {T:List Tr} {m:Rat},0<=h->¬md T m<T.length->uB T (m+h) c=uB T m c/\yd T m c=0
 | [],_,_,_=>⟨rfl,rfl⟩
 |t::T,m,h0,hf=>by
  rw[nM,ba]at hf;rw[qe,qe,uS];by_cases g:m<t.sm
  ·rw[aj g]at hf;omega
  ·rw[ah g]at hf;obtain⟨e1,e2⟩:=zb (T:=T) (m:=m-t.sm) h0 oO;rw[ah g,ah g,ah (by grind),show m+h-t.sm=(m-t.sm)+h by grind,e1];exact⟨rfl,e2⟩
theorem IC:∀ {T:List Tr} {m:Rat},yt T->0<=m->0<=yd T m c
 | [],_,_,_=>bP
 |t::T,m,hT,hm=>by
  rw[uS];split
  ·next g=>exact nt (hT.hd.a c).1 (Fp dD (by grind))
  ·exact IC hT.tl (by grind)
theorem Xq:∀ {T:List Tr} {m:Rat},yt T->0<=m->qs (qz T m 1)<=1
 | [],_,_,_=>by show(0:Rat)<=1;decide
 |t::T,m,hT,hm=>by
  rw[xC];split
  ·next g=>
   rw[SL,<-hT.hd.s,tO (by grind)];decide
  ·exact Xq hT.tl (by grind)
theorem wT:∀ {T:List Tr} {m m':Rat},m<=m'->md T m<=md T m'
 | [],_,_,_=>aB _
 |t::T,m,m',hm=>by
  rw[nM,nM];by_cases g:m<t.sm
  ·rw[aj g];exact ax _
  ·rw[ah g,ah (by grind)];exact Nat.succ_le_succ (wT (by grind))
theorem GK:∀ {T:List Tr} {m:Rat},md T m<T.length->md T m<md T (m+rJ T m)
 | [],_,hf=>absurd hf (aS _)
 |t::T,m,hf=>by
  have gp:=zu hf;rw[u3]at gp⊢;rw[nM]at hf;rw[nM,nM];by_cases g:m<t.sm
  ·rw[aj g,aj g,ah (by grind)];exact iN _
  ·rw[ah g]at hf gp⊢;rw[ah g,ah (by grind),show m+rJ T (m-t.sm)-t.sm=(m-t.sm)+rJ T (m-t.sm) by grind];rw[ba]at hf;exact Nat.succ_lt_succ (GK oO)
end
def ns {α:Type} (f:α->Rat):List α->Rat
 | []=>0
 |a::l=>f a+ns f l
section
variable {α : Type} {f g : α → Rat}
theorem sk (m:List α):∀l,ns f (l++m)=ns f l+ns f m
 | []=>by show ns f m=0+ns f m;grind
 |a::l=>by show f a+ns f (l++m)=f a+ns f l+ns f m;rw[sk m l];grind
theorem yx:∀ {l:List α},(∀a∈l,f a<=g a)->ns f l<=ns g l
 | [],_=>bP
 |a::l,h=>by
  have h1:=h a (aJ ..);have h2:=yx λa ha=>h a (aI _ ha);show f a+ns f l<=g a+ns g l;grind
theorem nO:∀ {l:List α},(∀a∈l,f a=g a)->ns f l=ns g l
 | [],_=>rfl
 |a::l,h=>by
  show f a+ns f l=g a+ns g l;rw[h a (aJ ..),nO λa ha=>h a (aI _ ha)]
theorem Ak {l:List α} (h:∀a∈l,0<=f a):0<=ns f l:=by
 have h1:=yx (f:=λ_:α=>(0:Rat)) h;have h2:∀l:List α,ns (λ_=>(0:Rat)) l=0:=λl=>by
  induction l with
  |nil=>rfl
  |cons a l ih=>show(0:Rat)+ns (λ_=>0) l=0;rw[ih];grind
 rwa[h2]at h1
theorem tu (f g:α->Rat) (t:Rat):∀l,ns (λa=>f a+t*g a) l=ns f l+t*ns g l
 | []=>by show(0:Rat)=0+t*0;grind
 |a::l=>by show f a+t*g a+ns _ l=f a+ns f l+t*(g a+ns g l);rw[tu f g t l];grind
theorem Mr (f g:α->Rat) (l:List α):ns (λa=>f a-g a) l=ns f l-ns g l:=by
 have:=tu f g (-1) l;have e:ns (λa=>f a-g a) l=ns (λa=>f a+ -1*g a) l:=nO λa _=>by grind
 rw[e,this];grind
theorem yU (a:α->Nat->Rat) (n:Nat):∀l,kg (λk=>ns (λp=>a p k) l) n=ns (λp=>kg (a p) n) l
 | []=>kW λ_ _=>rfl
 |p::l=>by
  show kg (λk=>a p k+ns (λp=>a p k) l) n=_;rw[n9,yU a n l];rfl
end
theorem Ah (f:Nat->Rat):∀n,kg f (n+1)=f 0+kg (λi=>f (i+1)) n
 |0=>by show 0+f 0=f 0+0;grind
 |n+1=>by
  show kg f (n+1)+f (n+1)=f 0+(kg (λi=>f (i+1)) n+f (n+1));rw[Ah f n];grind
theorem KB (f:Nat->Rat):∀l:List Nat,ns f l=kg (λb=>f (l.getD b 0)) l.length
 | []=>rfl
 |a::l=>by
  rw[ba,Ah];show f a+ns f l=f a+kg (λb=>f (l.getD b 0)) l.length;rw[KB f l]
theorem oR (mem:List Nat) (f:Nat->Rat):oq mem f=ns f mem:=by
 have:∀(l:List Nat) (a:Rat),(l.map f).foldl (· + ·) a=a+ns f l:=by
  intro l;induction l with
  |nil=>intro a;show a=a+0;grind
  |cons b l ih=>intro a;show(l.map f).foldl (· + ·) (a+f b)=a+(f b+ns f l);rw[ih];grind
 unfold oq;rw[this];grind
structure pE (y:Ly):Prop where
 rk:yt y.rk
 rp:∀t∈y.rk,∀p∈t.ps,yP y.n p
 ld:∀p∈y.pl,yt p.ld
 lp:∀p∈y.pl,∀t∈p.ld,∀q∈t.ps,yP y.n q
 nd:(y.pl.flatMap Pl.mem).Nodup
 mn:∀p∈y.pl,∀i∈p.mem,i<y.n
def PS (y:Ly) (m:Rat) (p:Pl):Rat:=oq p.mem (lJ y m)
def RS (y:Ly) (m:Rat) (p:Pl):Rat:=oq p.mem (mr y m)
def dC (y:Ly) (m:Rat) (k:Nat):Rat:=(sT y m y.pl.length).c k
def sC (y:Ly) (m:Rat) (k:Nat):Rat:=(sa y m y.pl.length).c k
theorem qA (y:Ly) (m:Rat) (k:Nat):lJ y m k=uB y.rk m k:=by
 unfold lJ;rw[F7];show 0+_=_;unfold uB;grind
theorem tN (y:Ly) (m:Rat) (k:Nat):mr y m k=yd y.rk m k:=by
 unfold mr;rw[F7];show 0+_=_;unfold yd;grind
theorem Cf {L:Pl->List Pa} (k:Nat):∀(l:List Pl) (s:Rs),(l.foldl (λs p=>qN s (L p)) s).c k=s.c k+ns (λp=>rQ k (L p)) l
 | [],s=>by show s.c k=s.c k+0;grind
 |p::l,s=>by
  show(l.foldl (λs p=>qN s (L p)) (qN s (L p))).c k=s.c k+(rQ k (L p)+ns _ l);rw[Cf k l,F7];grind
theorem JX {L:Pl->List Pa}:∀(l:List Pl) (s:Rs),(l.foldl (λs p=>qN s (L p)) s).r=s.r+ns (λp=>rQ (-1) (L p)) l
 | [],s=>by show s.r=s.r+0;grind
 |p::l,s=>by
  show(l.foldl (λs p=>qN s (L p)) (qN s (L p))).r=s.r+(rQ (-1) (L p)+ns _ l);rw[JX l,Pu];grind
theorem yQ (y:Ly) (m:Rat) (k:Nat):dC y m k=qW y (lJ y m) k+ns (λp=>uB p.ld (PS y m p) k) y.pl:=by
 unfold dC sT;rw[bK];exact Cf k _ _
theorem Hy (y:Ly) (m:Rat) (k:Nat):sC y m k=qW y (mr y m) k+ns (λp=>RS y m p*yd p.ld (PS y m p) k) y.pl:=by
 have h:=Cf (L:=λp=>qz p.ld (oq p.mem (lJ y m)) (oq p.mem (mr y m))) k y.pl ⟨qW y (mr y m),0⟩;unfold sC sa;rw[bK];show(y.pl.foldl (λs p=>qN s (qz p.ld (oq p.mem (lJ y m)) (oq p.mem (mr y m)))) ⟨qW y (mr y m),0⟩).c k=_;rw[h];congr 1;exact nO λp _=>CM _ _ _ _
section
variable {y : Ly} {m m' h : Rat} {k : Nat}
theorem pF (y:Ly) (f:Nat->Rat) (k:Nat):qW y f k=if k∈y.pl.flatMap Pl.mem then 0 else f k:=rfl
theorem yK (hy:pE y) (f:Nat->Rat):kg (qW y f) y.n+ns (λp=>oq p.mem f) y.pl=kg f y.n:=by
 have h1:ns (λp=>oq p.mem f) y.pl=ns f (y.pl.flatMap Pl.mem):=by
  have:∀l:List Pl,ns (λp=>oq p.mem f) l=ns f (l.flatMap Pl.mem):=λl=>by
   induction l with
   |nil=>rfl
   |cons p l ih=>rw[cw,sk,<-ih,<-oR];rfl
  exact this _
 have h2:=E5 (C:=y.pl.flatMap Pl.mem) hy.nd (n:=y.n) (λc hc=>by
  obtain⟨p,hp,hc⟩:=du.1 hc;exact hy.mn p hp c hc) (λk=>if k∈y.pl.flatMap Pl.mem then f k else 0) λi hi=>ah hi
 rw[h1,KB f];have h3:kg (λb=>f ((y.pl.flatMap Pl.mem).getD b 0)) (y.pl.flatMap Pl.mem).length=kg (λb=>if(y.pl.flatMap Pl.mem).getD b 0∈y.pl.flatMap Pl.mem then f ((y.pl.flatMap Pl.mem).getD b 0)else 0) (y.pl.flatMap Pl.mem).length:=km λb hb=>(aj (pf hb)).symm;rw[h3,<-h2,<-n9];refine km λi _=> ?_;rw[pF];split<;>grind
theorem zF (hy:pE y) (hm:0<=m):0<=lJ y m k:=by rw[qA];exact Ew hy.rk hm
theorem CA (hy:pE y) (hm:0<=m) (hmm:m<=m'):lJ y m k<=lJ y m' k:=by rw[qA,qA];exact BQ hy.rk hm hmm
theorem zB (hy:pE y) (hm:0<=m):0<=mr y m k:=by rw[tN];exact IC hy.rk hm
theorem sN (hy:pE y) (hm:0<=m) (p:Pl):0<=PS y m p:=by unfold PS;rw[oR];exact Ak λa _=>zF hy hm
theorem BD (hy:pE y) (hm:0<=m) (hmm:m<=m') (p:Pl):PS y m p<=PS y m' p:=by unfold PS;rw[oR,oR];exact yx λa _=>CA hy hm hmm
theorem Ei (hy:pE y) (hm:0<=m) (p:Pl):0<=RS y m p:=by unfold RS;rw[oR];exact Ak λa _=>zB hy hm
theorem Vm (hy:pE y) (hm:0<=m):0<=dC y m k:=by
 rw[yQ,pF];have h1:=zF (k:=k) hy hm;have h2:=Ak (f:=λp=>uB p.ld (PS y m p) k) (l:=y.pl) λp hp=>Ew (hy.ld p hp) (sN hy hm p);split<;>grind
theorem Sp (hy:pE y) (hm:0<=m) (hmm:m<=m'):dC y m k<=dC y m' k:=by
 rw[yQ y m k,yQ y m' k,pF y _ k,pF y _ k];have h1:=CA (k:=k) hy hm hmm;have h2:ns (λp=>uB p.ld (PS y m p) k) y.pl<=ns (λp=>uB p.ld (PS y m' p) k) y.pl:=yx λp hp=>BQ (hy.ld p hp) (sN hy hm p) (BD hy hm hmm p);split<;>grind
theorem Wj (hy:pE y) (hm:0<=m):0<=sC y m k:=by
 rw[Hy,pF];have h1:=zB (k:=k) hy hm;have h2:=Ak (f:=λp=>RS y m p*yd p.ld (PS y m p) k) (l:=y.pl) λp hp=>nt (Ei hy hm p) (IC (hy.ld p hp) (sN hy hm p));split<;>grind
theorem BJ {n:Nat}:∀ {T:List Tr} {m:Rat},(∀t∈T,∀p∈t.ps,yP n p)->∀p∈re T m,yP n p
 | [],_,_,p,hp=>by
  have hp:p∈([]:List Pa):=hp;cases hp
 |t::T,m,hT,p,hp=>by
  rw[xP]at hp;split at hp
  ·obtain⟨q,hq,rfl⟩:=bT.1 hp;exact hT t (aJ ..) q hq
  ·rcases bB.1 hp with hp|hp
   ·exact hT t (aJ ..) p hp
   ·exact BJ (λt ht=>hT t (aI _ ht)) p hp
theorem K1 {n:Nat} {r:Rat}:∀ {T:List Tr} {m:Rat},(∀t∈T,∀p∈t.ps,yP n p)->∀p∈qz T m r,yP n p
 | [],_,_,p,hp=>by
  have hp:p∈([]:List Pa):=hp;cases hp
 |t::T,m,hT,p,hp=>by
  rw[xC]at hp;split at hp
  ·obtain⟨q,hq,rfl⟩:=bT.1 hp;exact hT t (aJ ..) q hq
  ·exact K1 (λt ht=>hT t (aI _ ht)) p hp
theorem Pb {n:Nat} {T:List Tr} (hT:yt T) (hp:∀t∈T,∀p∈t.ps,yP n p) (hm:0<=m) (hmm:m<=m'):kg (λk=>uB T m' k) n-kg (λk=>uB T m k) n<=m'-m:=by
 have h1:=yN (n:=n) (l:=re T m) (BJ hp);have h2:=yN (n:=n) (l:=re T m') (BJ hp);have h3:=NS hT hm hmm;have h4:=BQ (c:= -1) hT hm hmm;unfold Sb at h3;unfold uB at h4;show kg (λk:Nat=>rQ k (re T m')) n-kg (λk:Nat=>rQ k (re T m)) n<=_;grind
theorem Pn {n:Nat} {T:List Tr} (hT:yt T) (hp:∀t∈T,∀p∈t.ps,yP n p) (hm:0<=m):kg (λk=>yd T m k) n<=1:=by
 have h1:=yN (n:=n) (l:=qz T m 1) (K1 hp);have h3:=Xq hT hm;have h4:=IC (c:= -1) hT hm;unfold yd at h4;show kg (λk:Nat=>rQ k (qz T m 1)) n<=_;grind
theorem TZ (hy:pE y) (hm:0<=m) (hmm:m<=m'):kg (dC y m') y.n-kg (dC y m) y.n<=m'-m:=by
 have e:∀m,kg (dC y m) y.n=kg (qW y (lJ y m)) y.n+ns (λp=>kg (λk=>uB p.ld (PS y m p) k) y.n) y.pl:=λm=>by
  rw[<-yU (λp k=>uB p.ld (PS y m p) k),<-n9];exact km λk _=>yQ y m k
 have h1:ns (λp=>kg (λk=>uB p.ld (PS y m' p) k) y.n-kg (λk=>uB p.ld (PS y m p) k) y.n) y.pl<=ns (λp=>PS y m' p-PS y m p) y.pl:=
  yx λp hp=>Pb (hy.ld p hp) (hy.lp p hp) (sN hy hm p) (BD hy hm hmm p)
 rw[Mr,Mr]at h1;have h2:=yK hy (lJ y m);have h3:=yK hy (lJ y m');have h4:=Pb hy.rk hy.rp hm hmm;have h5:∀m,kg (lJ y m) y.n=kg (λk=>uB y.rk m k) y.n:=λm=>km λk _=>qA y m k;have h6:∀m,ns (λp=>oq p.mem (lJ y m)) y.pl=ns (λp=>PS y m p) y.pl:=λm=>rfl;rw[h5,h6]at h2 h3;rw[e,e];grind
theorem UF (hy:pE y) (hm:0<=m):kg (sC y m) y.n<=1:=by
 have e:kg (sC y m) y.n=kg (qW y (mr y m)) y.n+ns (λp=>kg (λk=>RS y m p*yd p.ld (PS y m p) k) y.n) y.pl:=by
  rw[<-yU (λp k=>RS y m p*yd p.ld (PS y m p) k),<-n9];exact km λk _=>Hy y m k
 have h1:ns (λp=>kg (λk=>RS y m p*yd p.ld (PS y m p) k) y.n) y.pl<=ns (λp=>RS y m p) y.pl:=yx λp hp=>by
  rw[qx];have:=oI (Pn (hy.ld p hp) (hy.lp p hp) (sN hy hm p)) (Ei hy hm p);grind
 have h2:=yK hy (mr y m);have h4:=Pn hy.rk hy.rp hm;have h5:kg (mr y m) y.n=kg (λk=>yd y.rk m k) y.n:=km λk _=>tN y m k;have h6:ns (λp=>oq p.mem (mr y m)) y.pl=ns (λp=>RS y m p) y.pl:=rfl;rw[h5,h6]at h2;rw[e];grind
theorem CZ (y:Ly) (m:Rat):∀(l:List Pl) (o:Rat),l.foldl (tD y m) o<=o/\(∀p∈l,zS y m p->l.foldl (tD y m) o<=x6 y m p)/\(l.foldl (tD y m) o=o\/∃p,p∈l/\zS y m p/\l.foldl (tD y m) o=x6 y m p)
 | [],o=>⟨bP,λ_ h=>by(cases h),.inl rfl⟩
 |p::l,o=>by
  obtain⟨h1,h2,h3⟩:=CZ y m l (tD y m o p);have e:tD y m o p<=o/\(zS y m p->tD y m o p<=x6 y m p)/\(tD y m o p=o\/zS y m p/\tD y m o p=x6 y m p):=by
   unfold tD;by_cases g:zS y m p
   ·rw[aj g];unfold zw;split
    ·exact⟨by grind,λ_=>by grind,.inl rfl⟩
    ·exact⟨by grind,λ_=>bP,.inr ⟨g,rfl⟩⟩
   ·rw[ah g];exact⟨bP,λh=>absurd h g,.inl rfl⟩
  show l.foldl (tD y m) (tD y m o p)<=o/\_/\_;refine⟨by grind,λq hq hc=> ?_,?_⟩
  ·rcases bC.1 hq with rfl|hq
   ·have:=e.2.1 hc;show l.foldl (tD y m) (tD y m o q)<=_;grind
   ·exact h2 q hq hc
  ·show l.foldl (tD y m) (tD y m o p)=o\/∃q,q∈p::l/\zS y m q/\l.foldl (tD y m) (tD y m o p)=x6 y m q;rcases h3 with h3|⟨q,hq,hc,h3⟩
   ·rw[h3];rcases e.2.2 with e|⟨e1,e2⟩
    ·exact .inl e
    ·exact .inr ⟨p,aJ ..,e1,e2⟩
   ·exact .inr ⟨q,aI _ hq,hc,h3⟩
def Ce (y:Ly) (m:Rat):Rat:=wK y m y.pl.length
theorem uP (y:Ly) (m:Rat):Ce y m<=rJ y.rk m/\(∀p∈y.pl,zS y m p->Ce y m<=x6 y m p)/\(Ce y m=rJ y.rk m\/∃p,p∈y.pl/\zS y m p/\Ce y m=x6 y m p):=by
 have:=CZ y m y.pl (rJ y.rk m);unfold Ce wK;rw[bK];exact this
theorem He {p:Pl} (hc:zS y m p):x6 y m p*RS y m p=rJ p.ld (PS y m p):=by
 have:=tO (a:=rJ p.ld (PS y m p)) hc.2;rw[gm]at this;exact this
theorem Gg (hf:md y.rk m<y.rk.length):0<Ce y m:=by
 obtain⟨_,_,h⟩:=uP y m;rcases h with h|⟨p,hp,hc,h⟩
 ·rw[h];exact zu hf
 ·rw[h];unfold x6;rw[bR];exact CH (zu hc.1) (A1 hc.2).1
theorem EY (hy:pE y) (hm:0<=m) (h0:0<=h) (hs:md y.rk m<y.rk.length->h<=Ce y m):lJ y (m+h) k=lJ y m k+h*mr y m k:=by
 rw[qA,qA,tN];by_cases hf:md y.rk m<y.rk.length
 ·exact Ji hy.rk hm h0 hf (by have:=(uP y m).1;have:=hs hf;grind)
 ·obtain⟨e1,e2⟩:=zb (c:=k) h0 hf;rw[e1,e2];grind
theorem NV (hy:pE y) (hm:0<=m) (h0:0<=h) (hs:md y.rk m<y.rk.length->h<=Ce y m) (p:Pl):PS y (m+h) p=PS y m p+h*RS y m p:=by
 unfold PS RS;rw[oR,oR,oR,<-tu];exact nO λa _=>EY hy hm h0 hs
theorem LJ (hf:¬md y.rk m<y.rk.length) (p:Pl):RS y m p=0:=by
 unfold RS;rw[oR,nO (g:=λ_=>(0:Rat)+0*0) λa _=> ?_]
 ·rw[tu (λ_=>(0:Rat)) (λ_=>0) 0];have:=tu (λ_:Nat=>(0:Rat)) (λ_=>0) 1 p.mem;have e:ns (λa:Nat=>(0:Rat)+1*0) p.mem=ns (λ_=>0) p.mem:=nO λ_ _=>by grind
  rw[e]at this;grind
 ·rw[tN,(zb (h:=0) (c:=a) dD hf).2];grind
theorem Qm (hy:pE y) (hm:0<=m) (h0:0<=h) (hs:md y.rk m<y.rk.length->h<=Ce y m) {p:Pl} (hp:p∈y.pl) (c:Int):uB p.ld (PS y (m+h) p) c=uB p.ld (PS y m p) c+h*(RS y m p*yd p.ld (PS y m p) c):=by
 have hr:=Ei hy hm p;have hhr:=nt h0 hr;rw[NV hy hm h0 hs];by_cases hl:md p.ld (PS y m p)<p.ld.length
 ·rw[Ji (hy.ld p hp) (sN hy hm p) hhr hl ?_]
  ·grind
  ·have gp:=zu hl;by_cases hr0:0<RS y m p
   ·by_cases hf:md y.rk m<y.rk.length
    ·have hc:zS y m p:=⟨hl,hr0⟩;have h1:=(uP y m).2.1 p hp hc;have h2:=He hc;have h3:=hs hf;have h4:=oI (show h<=x6 y m p by grind) hr;grind
    ·rw[LJ hf]at hr0;exact absurd hr0 dw
   ·have:RS y m p=0:=by grind
    rw[this];grind
 ·obtain⟨e1,e2⟩:=zb (c:=c) hhr hl;rw[e1,e2];grind
theorem Of (hy:pE y) (hm:0<=m) (h0:0<=h) (hs:md y.rk m<y.rk.length->h<=Ce y m):dC y (m+h) k=dC y m k+h*sC y m k:=by
 rw[yQ,yQ,Hy,pF,pF,pF,EY hy hm h0 hs,nO λp hp=>Qm hy hm h0 hs hp k,tu];split<;>grind
theorem Rh (hf:¬md y.rk m<y.rk.length):sC y m k=0:=by
 rw[Hy,pF,tN,(zb (h:=0) (c:=k) dD hf).2];have:ns (λp=>RS y m p*yd p.ld (PS y m p) k) y.pl=ns (λ_=>0) y.pl:=nO λp _=>by rw[LJ hf,fO]
 rw[this];have h1:=tu (λ_:Pl=>(0:Rat)) (λ_=>0) 1 y.pl;have e:ns (λa:Pl=>(0:Rat)+1*0) y.pl=ns (λ_=>0) y.pl:=nO λ_ _=>by grind
 rw[e]at h1;split<;>grind
def wn (y:Ly) (m:Rat):Nat:=(y.rk.length-md y.rk m)+(y.pl.map λp=>p.ld.length-md p.ld (PS y m p)).sum
theorem Ga {f g:Pl->Nat}:∀ {l:List Pl},(∀p∈l,f p<=g p)->(l.map f).sum<=(l.map g).sum/\((∃p,p∈l/\f p<g p)->(l.map f).sum<(l.map g).sum)
 | [],_=>⟨aB _,λ⟨_,h,_⟩=>by cases h⟩
 |a::l,h=>by
  obtain⟨h1,h2⟩:=Ga (l:=l) λp hp=>h p (aI _ hp);have h3:=h a (aJ ..);rw[df,df,iC,iC];refine⟨oO,λ⟨p,hp,hlt⟩=> ?_⟩;rcases bC.1 hp with rfl|hp
  ·omega
  ·have:=h2 ⟨p,hp,hlt⟩;omega
theorem It (hy:pE y) (hm:0<=m) (hmm:m<=m'):wn y m'<=wn y m:=by
 have h1:=wT (T:=y.rk) hmm;have h2:=(Ga (f:=λp=>p.ld.length-md p.ld (PS y m' p)) (g:=λp=>p.ld.length-md p.ld (PS y m p)) (l:=y.pl) λp _=>by
  have:=wT (T:=p.ld) (BD hy hm hmm p);omega).1
 unfold wn;omega
theorem Iy (hy:pE y) (hm:0<=m) (hf:md y.rk m<y.rk.length):wn y (m+Ce y m)<wn y m:=by
 have hp:=Gg hf;have hmm:m<=m+Ce y m:=by grind
 have h1:=wT (T:=y.rk) hmm;have h2:=Ga (f:=λp=>p.ld.length-md p.ld (PS y (m+Ce y m) p)) (g:=λp=>p.ld.length-md p.ld (PS y m p)) (l:=y.pl) λp _=>by
  have:=wT (T:=p.ld) (BD hy hm hmm p);omega
 unfold wn;rcases(uP y m).2.2 with e|⟨p,hp',hc,e⟩
 ·have:=GK hf;rw[<-e]at this;have:=h2.1;have:=tG y.rk (m+Ce y m);omega
 ·have h3:=NV hy hm (dm hp) (λ_=>bP) p;have h4:=He hc;rw[<-e]at h4;rw[h4]at h3;have h5:=GK hc.1;have h6:md p.ld (PS y m p)<md p.ld (PS y (m+Ce y m) p):=by rw[h3];exact h5
  have:=tG p.ld (PS y (m+Ce y m) p);have:=h2.2 ⟨p,hp',by show _-_<_-_;omega⟩;omega
theorem IG (hy:pE y) {m0:Rat} (h0:0<=m0):∀(f:Nat) (m:Rat),m0<=m->(∀k,k<y.n->sC y m k=sC y m0 k)->(∀m'',m0<=m''->m''<=m->∀k,k<y.n->dC y m'' k=dC y m0 k+(m''-m0)*sC y m0 k)->wn y m<f->
  match GU y m0 f m with
  |some z=>m0<z/\wn y z<wn y m0/\∀m'',m0<=m''->m''<=z->∀k,k<y.n->dC y m'' k=dC y m0 k+(m''-m0)*sC y m0 k
  |none=>(∀k,k<y.n->sC y m0 k=0)/\∀m'',m0<=m''->∀k,k<y.n->dC y m'' k=dC y m0 k+(m''-m0)*sC y m0 k
 |0,_,_,_,_,hmu=>absurd hmu (aS _)
 |f+1,m,hmm,hs,hl,hmu=>by
  have hm:0<=m:=by grind
  unfold GU;by_cases hf:md y.rk m<y.rk.length
  ·have hp:=Gg hf;have hst:=Iy hy hm hf;have hmo:=It hy h0 hmm;have hl2:∀m'',m0<=m''->m''<=zX y m->∀k,k<y.n->dC y m'' k=dC y m0 k+(m''-m0)*sC y m0 k:=λm'' h1 h2 k hk=>by
    by_cases g:m''<=m
    ·exact hl m'' h1 g k hk
    ·have h3:m''<=m+Ce y m:=h2;have e:=Of (k:=k) (h:=m''-m) hy hm (by grind) (λ_=>by grind);rw[show m+(m''-m)=m'' by grind,hl m hmm bP k hk,hs k hk]at e;grind
   rw[aj hf];by_cases he:Fz y (zX y m)=Fz y m0/\KI y (zX y m)=KI y m0
   ·rw[aj he];have hmu2:wn y (zX y m)<wn y m:=hst;have hmn:m<zX y m:=by show m<m+Ce y m;grind
    refine IG hy h0 f (zX y m) (by grind) (λk hk=> ?_) hl2 oO;have h1:(KI y (zX y m)).getD k kP=(KI y m0).getD k kP:=by rw[he.2]
    unfold KI at h1;rw[kw _ _ hk,kw _ _ hk]at h1;have h2:=bI toQ h1;rw[toQ_ofQ,toQ_ofQ]at h2;exact h2
   ·rw[ah he];have hmu2:wn y (zX y m)<wn y m:=hst;exact⟨by show m0<m+Ce y m;grind,oO,hl2⟩
  ·rw[ah hf];have hz:∀k,k<y.n->sC y m0 k=0:=λk hk=>by rw[<-hs k hk];exact Rh hf
   refine⟨hz,λm'' h1 k hk=> ?_⟩;by_cases g:m''<=m
   ·exact hl m'' h1 g k hk
   ·have e:=Of (k:=k) (h:=m''-m) hy hm (by grind) (λh=>absurd h hf);rw[show m+(m''-m)=m'' by grind,hl m hmm bP k hk,hs k hk]at e;grind
theorem E4 (hy:pE y) {m0:Rat} (h0:0<=m0) {f:Nat} (hf:wn y m0<f):
  match GU y m0 f m0 with
  |some z=>m0<z/\wn y z<wn y m0/\∀m'',m0<=m''->m''<=z->∀k,k<y.n->dC y m'' k=dC y m0 k+(m''-m0)*sC y m0 k
  |none=>(∀k,k<y.n->sC y m0 k=0)/\∀m'',m0<=m''->∀k,k<y.n->dC y m'' k=dC y m0 k+(m''-m0)*sC y m0 k:=
 IG hy h0 f m0 bP (λ_ _=>rfl) (λm'' h1 h2 k _=>by
  have:m''=m0:=by grind
  rw[this];grind) hf
theorem Mw (hy:pE y):dC y 0 k=0:=by
 have hg:∀a,lJ y 0 a=0:=λa=>by rw[qA];exact B0 hy.rk
 have hP:∀p,PS y 0 p=0:=λp=>by
  unfold PS;rw[oR,nO (g:=λ_=>(0:Rat)) λa _=>hg a];have h1:=tu (λ_:Nat=>(0:Rat)) (λ_=>0) 1 p.mem;have e:ns (λa:Nat=>(0:Rat)+1*0) p.mem=ns (λ_=>0) p.mem:=nO λ_ _=>by grind
  rw[e]at h1;grind
 rw[yQ,pF,hg,nO (g:=λ_=>(0:Rat)) λp hp=>by rw[hP];exact B0 (hy.ld p hp)];have h1:=tu (λ_:Pl=>(0:Rat)) (λ_=>0) 1 y.pl;have e:ns (λa:Pl=>(0:Rat)+1*0) y.pl=ns (λ_=>0) y.pl:=nO λ_ _=>by grind
 rw[e]at h1;split<;>grind
end
section
variable {W h : Rat} {q q' s : Nat → Rat} {n k : Nat}
theorem mK (a:Rat):pQ a=a/\0<=a\/pQ a=0/\a<=0:=by
 unfold pQ DX;split<;>grind
theorem px (hq:∀j,j<k->0<=q j):oc q k=kg q k:=km λj hj=>by
 have:=hq j hj;rcases mK (q j)with h|h<;>grind
theorem qg (W:Rat) (q:Nat->Rat):∀k,wE W q k=pQ (oc q k-pQ W)
 |0=>by
  show 0=pQ (0-pQ W);rcases mK W with h|h<;>rcases mK (0-pQ W)with h2|h2<;>grind
 |k+1=>rfl
theorem tL (W:Rat) (q:Nat->Rat) (hs:∀j,j<k->0<=s j):xU W q s k=(if pQ W<=oc q k then 1 else 0)*kg s k:=by
 cases k with
 |zero=>show(0:Rat)=_*0;grind
 |succ k=>
  show(if pQ W<=oc q (k+1)then oc s (k+1)else 0)=_;rw[px hs];split<;>grind
theorem xL (W:Rat) (q:Nat->Rat):∀n,kg (rR W q) n=wE W q n
 |0=>rfl
 |n+1=>by
  show kg (rR W q) n+(wE W q (n+1)-wE W q n)=_;rw[xL W q n];grind
theorem uf (W:Rat) (q s:Nat->Rat):∀n,kg (Dz W q s) n=xU W q s n
 |0=>rfl
 |n+1=>by
  show kg (Dz W q s) n+(xU W q s (n+1)-xU W q s n)=_;rw[uf W q s n];grind
theorem R2 (h1:∀j,j<n->0<=q j) (h2:∀j,j<n->q j<=q' j) (hk:k<n):rR W q k<=rR W q' k:=by
 have a:=oe (n:=k) λj hj=>h2 j oO;have b:=h2 k hk;have c:=h1 k hk;unfold rR;rw[qg,qg,qg,qg,px λj hj=>h1 j oO,px λj hj=>h1 j oO,px λj hj=>eO (h1 j oO) (h2 j oO),px λj hj=>eO (h1 j oO) (h2 j oO)];have e1:kg q (k+1)=kg q k+q k:=rfl;have e2:kg q' (k+1)=kg q' k+q' k:=rfl;rw[e1,e2];generalize kg q k=x at*;generalize kg q' k=y at*;generalize pQ W=w at*;rcases mK (x+q k-w)with g1|g1<;>rcases mK (x-w)with g2|g2<;>rcases mK (y+q' k-w)with g3|g3<;>rcases mK (y-w)with g4|g4<;>grind
theorem Vt (h1:∀j,j<n->0<=q j) (hk:k<n):0<=rR W q k:=by
 have a:=ny (n:=k) λj hj=>h1 j oO;have c:=h1 k hk;unfold rR;rw[qg,qg,px λj hj=>h1 j oO,px λj hj=>h1 j oO];have e1:kg q (k+1)=kg q k+q k:=rfl;rw[e1];generalize kg q k=x at*;generalize pQ W=w at*;rcases mK (x+q k-w)with g1|g1<;>rcases mK (x-w)with g2|g2<;>grind
def we (W:Rat) (q:Nat->Rat) (n:Nat):Rat:=kg q n-kg (rR W q) n
theorem Mp (h1:∀j,j<n->0<=q j) (h2:∀j,j<n->q j<=q' j):we W q n<=we W q' n:=by
 have a:=oe h2;unfold we;rw[xL,xL,qg,qg,px h1,px λj hj=>eO (h1 j hj) (h2 j hj)];generalize kg q n=x at*;generalize kg q' n=y at*;generalize pQ W=w at*;rcases mK (x-w)with g2|g2<;>rcases mK (y-w)with g4|g4<;>grind
theorem Wm (h1:∀j,j<n->0<=q j):0<=we W q n:=by
 have a:=ny h1;have b:0<=pQ W:=by rcases mK W with g|g<;>grind
 unfold we;rw[xL,qg,px h1];generalize kg q n=x at*;generalize pQ W=w at*;rcases mK (x-w)with g2|g2<;>grind
theorem Wa (h1:∀j,j<n->0<=q j) (hs:∀j,j<n->0<=s j) (hk:k<n):0<=Dz W q s k:=by
 have a:=ny (n:=k) λj hj=>hs j oO;have b:=hs k hk;have c:=h1 k hk;unfold Dz;rw[tL W q λj hj=>hs j oO,tL W q λj hj=>hs j oO,px λj hj=>h1 j oO,px λj hj=>h1 j oO];have e1:kg q (k+1)=kg q k+q k:=rfl;have e2:kg s (k+1)=kg s k+s k:=rfl;rw[e1,e2];generalize kg q k=x at*;generalize kg s k=y at*;generalize pQ W=w at*;by_cases g1:w<=x
 ·rw[aj g1,aj (by grind)];grind
 ·rw[ah g1];split<;>grind
def DE (W:Rat) (q s:Nat->Rat) (n:Nat):Rat:=kg s n-kg (Dz W q s) n
theorem Te (hs:∀j,j<n->0<=s j):0<=DE W q s n:=by
 have a:=ny hs;unfold DE;rw[uf,tL W q hs];split<;>grind
theorem U6 (h1:∀j,j<n->0<=q j) (hs:∀j,j<n->0<=s j) (h0:0<=h) (hl:∀k,k<n->0<pQ W-kg q (k+1)->0<kg s (k+1)->h*kg s (k+1)<=pQ W-kg q (k+1)) (hk:k<=n):
  wE W (λj=>q j+h*s j) k=wE W q k+h*xU W q s k:=by
 have a:=ny (n:=k) λj hj=>hs j oO;rw[qg,qg,tL W q λj hj=>hs j oO,px λj hj=>h1 j oO,px λj hj=>by
  have b:=h1 j oO;have c:=nt h0 (hs j oO);grind,mX]
 have hl2:0<pQ W-kg q k->0<kg s k->h*kg s k<=pQ W-kg q k:=by
  cases k with
  |zero=>intro _ g;exact absurd g dw
  |succ k=>exact hl k oO
 have hha:=nt h0 a;generalize kg q k=x at*;generalize kg s k=y at*;generalize pQ W=w at*;by_cases g1:w<=x
 ·rw[aj g1];rcases mK (x-w)with g2|g2<;>rcases mK (x+h*y-w)with g3|g3<;>grind
 ·rw[ah g1];by_cases g4:0<y
  ·have:=hl2 (by grind) g4;rcases mK (x-w)with g2|g2<;>rcases mK (x+h*y-w)with g3|g3<;>grind
  ·have e:y=0:=by grind
   rw[e];rcases mK (x-w)with g2|g2<;>rcases mK (x+h*0-w)with g3|g3<;>grind
end
theorem tH {α:Type} (f:α->Rat) (r:Nat->List α):∀k,ns f (mL r k)=kg (λi=>ns f (r i)) k
 |0=>rfl
 |k+1=>by rw[oQ,sk,tH f r k];rfl
theorem Iu {α:Type} (f:α->Rat) (d:α):∀l:List α,ns f l=kg (λb=>f (l.getD b d)) l.length
 | []=>rfl
 |a::l=>by
  rw[ba,Ah];show f a+ns f l=f a+kg (λb=>f (l.getD b d)) l.length;rw[Iu f d l]
theorem S3 (a b:Nat):∀(T:List JQ) (M:Mx),T.foldl (λM o=>rA M o.1 o.2.1 o.2.2) M a b=M a b+ns (λo=>if o.1=a/\o.2.1=b then o.2.2 else 0) T
 | [],M=>by show M a b=M a b+0;grind
 |o::T,M=>by
  show T.foldl (λM o=>rA M o.1 o.2.1 o.2.2) (rA M o.1 o.2.1 o.2.2) a b=M a b+((if o.1=a/\o.2.1=b then o.2.2 else 0)+ns _ T);rw[S3 a b T];have:rA M o.1 o.2.1 o.2.2 a b=M a b+if o.1=a/\o.2.1=b then o.2.2 else 0:=by
   unfold rA;by_cases h:a=o.1/\b=o.2.1
   ·rw[aj h,aj ⟨h.1.symm,h.2.symm⟩,h.1,h.2]
   ·rw[ah h,ah λg=>h ⟨g.1.symm,g.2.symm⟩];grind
  rw[this];grind
def oZ (g:mT) (B:Nat->Nat->Bool) (v:Nat->Nat->Rat) (j i:Nat):Rat:=kg (λc=>if(g.c i c).h=(j:Int)/\B i c=false then v i c else 0) (g.cn i)
def oa (g:mT) (d j:Nat) (r:Nat->Rat) (s:Rat):Rat:=kg (λk=>if(g.lg d k).1=j then r k else 0) (lX g d)+if 0<lX g d/\Aa g d=(j:Int)then s else 0
def F0 (g:mT) (B:Nat->Nat->Bool) (dl:Nat->Nat->Rat) (j:Nat):Rat:=
 kg (oZ g B dl j) g.n+kg (λd=>oa g d j (rR (g.d d).W (qD g dl d)) (we (g.d d).W (qD g dl d) (lX g d))) g.ds.length
section
variable {g : mT} {B : Nat → Nat → Bool} {v v' : Nat → Nat → Rat} {j i d : Nat} {r r' : Nat → Rat} {s s' t : Rat}
theorem Hj (g:mT) (B:Nat->Nat->Bool) (v v':Nat->Nat->Rat) (t:Rat) (j i:Nat):oZ g B (λi c=>v i c+t*v' i c) j i=oZ g B v j i+t*oZ g B v' j i:=by
 unfold oZ;rw[<-mX];exact km λc _=>by split<;>grind
theorem RD (h:∀c,c<g.cn i->v i c<=v' i c):oZ g B v j i<=oZ g B v' j i:=oe λc hc=>by
 have:=h c hc;split<;>grind
theorem KP (h:∀c,c<g.cn i->0<=v i c):0<=oZ g B v j i:=ny λc hc=>by
 have:=h c hc;split<;>grind
theorem C5 (g:mT) (d j:Nat) (r r':Nat->Rat) (s s' t:Rat):oa g d j (λk=>r k+t*r' k) (s+t*s')=oa g d j r s+t*oa g d j r' s':=by
 unfold oa;have e:kg (λk=>if(g.lg d k).1=j then r k+t*r' k else 0) (lX g d)=kg (λk=>if(g.lg d k).1=j then r k else 0) (lX g d)+t*kg (λk=>if(g.lg d k).1=j then r' k else 0) (lX g d):=by
  rw[<-mX];exact km λc _=>by split<;>grind
 rw[e];split<;>grind
theorem yD (h:∀k,k<lX g d->r k=r' k):oa g d j r s=oa g d j r' s:=by
 unfold oa;rw[km λk hk=>by rw[h k hk]]
theorem Rl (h:∀k,k<lX g d->r k<=r' k) (hs:s<=s'):oa g d j r s<=oa g d j r' s':=by
 have a:=oe (f:=λk=>if(g.lg d k).1=j then r k else 0) (g:=λk=>if(g.lg d k).1=j then r' k else 0) (n:=lX g d) λk hk=>by
  have:=h k hk;split<;>grind
 unfold oa;split<;>grind
theorem KD (h:∀k,k<lX g d->0<=r k) (hs:0<=s):0<=oa g d j r s:=by
 have a:=ny (f:=λk=>if(g.lg d k).1=j then r k else 0) (n:=lX g d) λk hk=>by
  have:=h k hk;split<;>grind
 unfold oa;split<;>grind
theorem PT {n:Nat} {a:Nat->Rat} (x:Nat) (hx:x<n):kg (λj=>if x=j then a j else 0) n=a x:=by
 rw[nF (p:=x) hx λi _ hi=>ah λe=>hi e.symm,aj rfl]
theorem Mb {n:Nat} {a:Rat} (ha:0<=a) (x:Int) (p:Prop) [Decidable p]:kg (λj=>if x=(j:Int)/\p then a else 0) n<=if p then a else 0:=by
 by_cases hp:p
 ·rw[aj hp];by_cases hx:∃k:Nat,k<n/\x=k
  ·obtain⟨k,hk,e⟩:=hx;rw[nF (p:=k) hk λi _ hi=>ah λh=>hi oO];split
   ·exact bP
   ·exact ha
  ·rw[kW λi hi=>ah λh=>hx ⟨i,hi,h.1⟩];exact ha
 ·rw[ah hp,kW λi _=>ah λh=>hp h.2];exact bP
theorem HD (h:∀c,c<g.cn i->0<=v i c) (n:Nat):kg (λj=>oZ g B v j i) n<=kg (λc=>if B i c=false then v i c else 0) (g.cn i):=by
 unfold oZ;rw[pJ];exact oe λc hc=>Mb (h c hc) _ _
theorem G5 {n:Nat} (hl:∀k,k<lX g d->(g.lg d k).1<n) (hs:0<=s):kg (λj=>oa g d j r s) n<=kg r (lX g d)+s:=by
 have e1:kg (λj=>kg (λk=>if(g.lg d k).1=j then r k else 0) (lX g d)) n=kg r (lX g d):=by
  rw[pJ];exact km λk hk=>PT (a:=λ_=>r k) _ (hl k hk)
 have e2:kg (λj=>if 0<lX g d/\Aa g d=(j:Int)then s else 0) n<=s:=by
  have h1:=Mb (n:=n) hs (Aa g d) (0<lX g d);have h2:kg (λj=>if 0<lX g d/\Aa g d=(j:Int)then s else 0) n=kg (λj=>if Aa g d=(j:Int)/\0<lX g d then s else 0) n:=km λj _=>by simp only[and_comm]
  rw[h2];split at h1<;>grind
 unfold oa;rw[n9,e1];grind
end
def AL (g:mT):List (Nat×Nat):=mL (λd=>(g.d d).legs) g.ds.length
structure nK (g:mT) (Y:Nat->Ly) (B:Nat->Nat->Bool):Prop where
 ly:∀i,i<g.n->pE (Y i)
 yn:∀i,i<g.n->(Y i).n=g.cn i
 cash:∀i,i<g.n->0<=yJ g i
 ho:F4 g
 lg:nV g
 lb:∀i,i<g.n->∀c,c<g.cn i->(B i c=true↔(i,c)∈AL g)
 nd:(AL g).Nodup
theorem Jd {g:mT} {p:Nat×Nat}:p∈AL g↔∃d,d<g.ds.length/\p∈(g.d d).legs:=by
 unfold AL mL;rw[du];constructor
 ·rintro⟨d,h1,h2⟩;exact⟨d,cS.1 h1,h2⟩
 ·rintro⟨d,h1,h2⟩;exact⟨d,cS.2 h1,h2⟩
theorem T5 (g:mT) (f:Nat->Nat->Rat):kg (λd=>kg (λk=>f (g.lg d k).1 (g.lg d k).2) (lX g d)) g.ds.length=ns (λp=>f p.1 p.2) (AL g):=by
 unfold AL;rw[tH];exact km λd _=>(Iu (λp:Nat×Nat=>f p.1 p.2) (0,0) (g.d d).legs).symm
theorem HY (n:Nat) (cn:Nat->Nat) (f:Nat->Nat->Rat):∀ {l:List (Nat×Nat)},l.Nodup->(∀p∈l,p.1<n/\p.2<cn p.1)->ns (λp=>f p.1 p.2) l=kg (λi=>kg (λc=>if(i,c)∈l then f i c else 0) (cn i)) n
 | [],_,_=>(kW λi _=>kW λc _=>by simp).symm
 |p::l,hn,hr=>by
  have hp:=(gT.1 hn).1;obtain⟨h1,h2⟩:=hr p (aJ ..);show f p.1 p.2+ns _ l=_;rw[HY n cn f (gT.1 hn).2 λq hq=>hr q (aI _ hq)];have e1:kg (λi=>kg (λc=>if(i,c)=p then f i c else 0) (cn i)) n=f p.1 p.2:=by
   rw[nF (p:=p.1) h1 λi _ hi=>kW λc _=>ah λe=>hi (by rw[<-e]),nF (p:=p.2) h2 λc _ hc=>ah λe=>hc (by rw[<-e]),aj rfl]
  rw[<-e1,<-n9];refine km λi _=> ?_;rw[<-n9];refine km λc _=> ?_;by_cases e:(i,c)=p
  ·rw[aj e,ah (by rw[e];exact hp),aj (by rw[e];exact aJ ..)];grind
  ·rw[ah e];by_cases e2:(i,c)∈l
   ·rw[aj e2,aj (aI _ e2)];grind
   ·rw[ah e2,ah λh=>(bC.1 h).elim e e2];grind
theorem KO {g:mT} {Y:Nat->Ly} {B:Nat->Nat->Bool} (G:nK g Y B) (f:Nat->Nat->Rat):kg (λd=>kg (λk=>f (g.lg d k).1 (g.lg d k).2) (lX g d)) g.ds.length+kg (λi=>kg (λc=>if B i c=false then f i c else 0) (g.cn i)) g.n=kg (λi=>kg (f i) (g.cn i)) g.n:=by
 rw[T5,HY g.n g.cn f G.nd λp hp=> ?_,<-n9]
 ·refine km λi hi=> ?_;rw[<-n9];refine km λc hc=> ?_;have:=G.lb i hi c hc;by_cases e:(i,c)∈AL g
  ·rw[aj e,this.2 e,ah dD];grind
  ·rw[ah e,aj (by cases hb:B i c with|false=>rfl|true=>exact absurd (this.1 hb) e)];grind
 ·obtain⟨d,hd,hp⟩:=Jd.1 hp;obtain⟨k,hk,e⟩:=eV hp;have h:=G.lg d hd k hk;have e2:g.lg d k=p:=by
   show(g.d d).legs.getD k (0,0)=p;rw[ai,aG hk,e];rfl
  rw[e2]at h;exact h
section
variable {W : Rat} {q : Nat → Rat} {s : Nat → Nat → Rat} {d : Nat → Rat} {n k : Nat}
theorem FG (hs:∀i,i<n->∀j,j<k->0<=s i j) (hd:∀i,i<n->0<=d i):kg (λi=>d i*xU W q (s i) k) n=xU W q (λj=>kg (λi=>d i*s i j) n) k:=by
 rw[tL W q λj hj=>ny λi hi=>nt (hd i hi) (hs i hi j hj),pJ,<-qx];refine km λi hi=> ?_;rw[tL W q (hs i hi),qx];grind
theorem Uv (hs:∀i,i<n->∀j,j<k+1->0<=s i j) (hd:∀i,i<n->0<=d i):kg (λi=>d i*Dz W q (s i) k) n=Dz W q (λj=>kg (λi=>d i*s i j) n) k:=by
 unfold Dz;rw[<-FG hs hd,<-FG (k:=k) (λi hi j hj=>hs i hi j oO) hd,<-oA];exact km λi _=>by grind
theorem TH (hs:∀i,i<n->∀j,j<k->0<=s i j) (hd:∀i,i<n->0<=d i):kg (λi=>d i*DE W q (s i) k) n=DE W q (λj=>kg (λi=>d i*s i j) n) k:=by
 unfold DE;rw[uf,<-FG hs hd,pJ,<-oA];refine km λi _=> ?_;rw[uf,qx];grind
end
section
variable {g : mT} {Y : Nat → Ly} {B : Nat → Nat → Bool} {dl sl dl' sl' : Nat → Nat → Rat}
theorem EN (g:mT) (e j:Nat) (d:Nat->Rat) (r:Nat->Nat->Rat) (s:Nat->Rat):∀n,kg (λi=>d i*oa g e j (r i) (s i)) n=oa g e j (λk=>kg (λi=>d i*r i k) n) (kg (λi=>d i*s i) n)
 |0=>by
  unfold oa;rw[kW (f:=λk=>if(g.lg e k).1=j then kg (λi=>d i*r i k) 0 else 0) λk _=>by split<;>rfl];show(0:Rat)=0+if _ then 0 else 0
  split<;>grind
 |n+1=>by
  show kg _ n+d n*oa g e j (r n) (s n)=oa g e j (λk=>kg (λi=>d i*r i k) n+d n*r n k) (kg (λi=>d i*s i) n+d n*s n);rw[EN g e j d r s n,C5]
def Hb (g:mT) (B:Nat->Nat->Bool) (dl sl:Nat->Nat->Rat) (j i:Nat):Rat:=oZ g B sl j i+kg (λd=>oa g d j (xu g dl sl d i) (DE (g.d d).W (qD g dl d) (rj g sl d i) (lX g d))) g.ds.length
theorem Fx {α:Type} (f:α->Rat) (p:Prop) [Decidable p] (a:α):ns f (if p then [a]else [])=if p then f a else 0:=by
 split
 ·show f a+0=f a;grind
 ·rfl
theorem KG (hho:F4 g) (hl:nV g) {i:Nat} (hi:i<g.n) (j:Nat):zt (JE g B dl sl) j i=Hb g B dl sl j i:=by
 have h0:=S3 j i (JE g B dl sl) λ_ _=>0;have h1:zt (JE g B dl sl) j i=ns (λo=>if o.1=j/\o.2.1=i then o.2.2 else 0) (JE g B dl sl):=by
  unfold zt;rw[h0];grind
 rw[h1];unfold JE Hb;rw[sk,tH,tH];congr 1
 ·rw[nF (p:=i) hi λi' _ hne=> ?_]
  ·unfold Bt oZ;rw[tH];refine km λc hc=> ?_;unfold s9;rw[Fx];by_cases e:(g.c i c).h= -1
   ·rw[ah λh=>h.1 e,ah λh=>oO]
   ·obtain⟨a,_,ea⟩:=hho i hi c hc e;rw[ea];by_cases hb:B i c=false
    ·rw[aj ⟨oO,hb⟩];by_cases e2:a=j
     ·rw[aj ⟨by rw[e2];rfl,rfl⟩,aj ⟨oO,hb⟩]
     ·rw[ah λh=>e2 h.1,ah λh=>e2 oO]
    ·rw[ah λh=>hb h.2,ah λh=>hb h.2]
  ·unfold Bt;rw[tH];refine kW λc _=> ?_;unfold s9;rw[Fx];split
   ·exact ah λh=>hne h.2
   ·rfl
 ·refine km λd hd=> ?_;unfold D5;rw[tH,nF (p:=i) hi λi' _ hne=> ?_]
  ·unfold wG oa;rw[sk,tH];congr 1
   ·refine km λk _=> ?_;show(if(g.lg d k).1=j/\i=i then xu g dl sl d i k else 0)+0=_;by_cases e:(g.lg d k).1=j
    ·rw[aj ⟨e,rfl⟩,aj e];grind
    ·rw[ah λh=>e h.1,ah e];grind
   ·unfold Ae;rw[Fx];by_cases e:0<lX g d
    ·by_cases e2:Aa g d= -1
     ·rw[ah λh=>h.2 e2,ah λh=>oO]
     ·obtain⟨a,_,ea⟩:=hho (g.lg d 0).1 (hl d hd 0 e).1 (g.lg d 0).2 (hl d hd 0 e).2 e2;have ea':Aa g d=a:=ea;rw[aj ⟨e,e2⟩,ea'];by_cases e3:a=j
      ·rw[aj ⟨by rw[e3];rfl,rfl⟩,aj ⟨e,oO⟩];rfl
      ·rw[ah λh=>e3 h.1,ah λh=>e3 oO]
    ·rw[ah λh=>e h.1,ah λh=>e h.1]
  ·unfold wG;rw[sk,tH,kW λk _=> ?_]
   ·unfold Ae;rw[Fx];split
    ·rw[ah λh=>hne h.2];grind
    ·grind
   ·show(if(g.lg d k).1=j/\i'=i then xu g dl sl d i' k else 0)+0=_;rw[ah λh=>hne h.2];grind
structure Br (g:mT) (v:Nat->Nat->Rat):Prop where
 nn:∀i,i<g.n->∀c,c<g.cn i->0<=v i c
theorem Cm (G:nK g Y B) (h:Br g dl) {d:Nat} (hd:d<g.ds.length) {k:Nat} (hk:k<lX g d):0<=qD g dl d k:=h.nn _ (G.lg d hd k hk).1 _ (G.lg d hd k hk).2
theorem CG (G:nK g Y B) (h:Br g sl) {d:Nat} (hd:d<g.ds.length) (i:Nat) {k:Nat} (hk:k<lX g d):0<=rj g sl d i k:=by
 have:=h.nn _ (G.lg d hd k hk).1 _ (G.lg d hd k hk).2;unfold rj;split
 ·exact this
 ·exact bP
theorem Ui (G:nK g Y B) (hd:Br g dl) (hs:Br g sl) {i:Nat} (hi:i<g.n) (j:Nat):0<=Hb g B dl sl j i:=by
 have h1:=KP (g:=g) (B:=B) (v:=sl) (j:=j) (i:=i) λc hc=>hs.nn i hi c hc;have h2:=ny (f:=λd=>oa g d j (xu g dl sl d i) (DE (g.d d).W (qD g dl d) (rj g sl d i) (lX g d))) (n:=g.ds.length) λd hd'=>
  KD (λk hk=>Wa (λk hk=>Cm G hd hd' hk) (λk hk=>CG G hs hd' i hk) hk) (Te λk hk=>CG G hs hd' i hk)
 unfold Hb;grind
theorem KV (G:nK g Y B) (hs:Br g sl) {i:Nat} (hi:i<g.n):kg (λj=>Hb g B dl sl j i) g.n<=kg (sl i) (g.cn i):=by
 have e:kg (λj=>Hb g B dl sl j i) g.n=kg (λj=>oZ g B sl j i) g.n+kg (λd=>kg (λj=>oa g d j (xu g dl sl d i) (DE (g.d d).W (qD g dl d) (rj g sl d i) (lX g d))) g.n) g.ds.length:=by
  rw[<-pJ (λj d=>oa g d j (xu g dl sl d i) (DE (g.d d).W (qD g dl d) (rj g sl d i) (lX g d))),<-n9];rfl
 have h2:=HD (g:=g) (B:=B) (v:=sl) (i:=i) (λc hc=>hs.nn i hi c hc) g.n;have h3:=oe (f:=λd=>kg (λj=>oa g d j (xu g dl sl d i) (DE (g.d d).W (qD g dl d) (rj g sl d i) (lX g d))) g.n) (g:=λd=>kg (rj g sl d i) (lX g d)) (n:=g.ds.length) λd hd'=>by
  have h4:=G5 (g:=g) (d:=d) (r:=xu g dl sl d i) (s:=DE (g.d d).W (qD g dl d) (rj g sl d i) (lX g d)) (n:=g.n) (λk hk=>(G.lg d hd' k hk).1) (Te λk hk=>CG G hs hd' i hk);have h5:DE (g.d d).W (qD g dl d) (rj g sl d i) (lX g d)=kg (rj g sl d i) (lX g d)-kg (xu g dl sl d i) (lX g d):=rfl;grind
 have h6:=KO G λa c=>if a=i then sl a c else 0
 have h7:kg (λd=>kg (λk=>if(g.lg d k).1=i then sl (g.lg d k).1 (g.lg d k).2 else 0) (lX g d)) g.ds.length=kg (λd=>kg (rj g sl d i) (lX g d)) g.ds.length:=rfl;have h8:kg (λa=>kg (λc=>if B a c=false then(if a=i then sl a c else 0)else 0) (g.cn a)) g.n=kg (λc=>if B i c=false then sl i c else 0) (g.cn i):=by
  rw[nF (p:=i) hi λa _ ha=>kW λc _=>by rw[ah ha];split<;>rfl];exact km λc _=>by rw[aj rfl]
 have h9:kg (λa=>kg (λc=>if a=i then sl a c else 0) (g.cn a)) g.n=kg (sl i) (g.cn i):=by
  rw[nF (p:=i) hi λa _ ha=>kW λc _=>ah ha];exact km λc _=>aj rfl
 rw[h7,h8,h9]at h6;rw[e];grind
theorem QU (G:nK g Y B) (h0:Br g dl) (h:∀i,i<g.n->∀c,c<g.cn i->dl i c<=dl' i c) (j:Nat):F0 g B dl j<=F0 g B dl' j:=by
 have h1:=oe (f:=oZ g B dl j) (g:=oZ g B dl' j) (n:=g.n) λi hi=>RD λc hc=>h i hi c hc;have hq:∀d,d<g.ds.length->∀k,k<lX g d->qD g dl d k<=qD g dl' d k:=λd hd k hk=>h _ (G.lg d hd k hk).1 _ (G.lg d hd k hk).2;have h2:=oe (f:=λd=>oa g d j (rR (g.d d).W (qD g dl d)) (we (g.d d).W (qD g dl d) (lX g d))) (g:=λd=>oa g d j (rR (g.d d).W (qD g dl' d)) (we (g.d d).W (qD g dl' d) (lX g d))) (n:=g.ds.length) λd hd=>
  Rl (λk hk=>R2 (λk hk=>Cm G h0 hd hk) (hq d hd) hk) (Mp (λk hk=>Cm G h0 hd hk) (hq d hd))
 unfold F0;grind
theorem Wc (G:nK g Y B) (h0:Br g dl) (j:Nat):0<=F0 g B dl j:=by
 have h1:=ny (f:=oZ g B dl j) (n:=g.n) λi hi=>KP λc hc=>h0.nn i hi c hc;have h2:=ny (f:=λd=>oa g d j (rR (g.d d).W (qD g dl d)) (we (g.d d).W (qD g dl d) (lX g d))) (n:=g.ds.length) λd hd=>
  KD (λk hk=>Vt (λk hk=>Cm G h0 hd hk) hk) (Wm λk hk=>Cm G h0 hd hk)
 unfold F0;grind
theorem T4 (g:mT) (B:Nat->Nat->Bool) (dl dl':Nat->Nat->Rat) (j:Nat):F0 g B dl' j-F0 g B dl j=kg (oZ g B (λi c=>dl' i c+ -1*dl i c) j) g.n+kg (λd=>oa g d j (λk=>rR (g.d d).W (qD g dl' d) k+ -1*rR (g.d d).W (qD g dl d) k) (we (g.d d).W (qD g dl' d) (lX g d)+ -1*we (g.d d).W (qD g dl d) (lX g d))) g.ds.length:=by
 rw[km λi _=>Hj g B dl' dl (-1) j i,km λd _=>C5 g d j (rR (g.d d).W (qD g dl' d)) (rR (g.d d).W (qD g dl d)) (we (g.d d).W (qD g dl' d) (lX g d)) (we (g.d d).W (qD g dl d) (lX g d)) (-1),mX,mX];unfold F0;grind
theorem O6 (G:nK g Y B) (h0:Br g dl) (h:∀i,i<g.n->∀c,c<g.cn i->dl i c<=dl' i c):kg (F0 g B dl') g.n-kg (F0 g B dl) g.n<=kg (λi=>kg (dl' i) (g.cn i)-kg (dl i) (g.cn i)) g.n:=by
 have hq:∀d,d<g.ds.length->∀k,k<lX g d->qD g dl d k<=qD g dl' d k:=λd hd k hk=>h _ (G.lg d hd k hk).1 _ (G.lg d hd k hk).2;rw[<-oA,km λj _=>T4 g B dl dl' j,n9,pJ,pJ (λj d=>oa g d j (λk=>rR (g.d d).W (qD g dl' d) k+ -1*rR (g.d d).W (qD g dl d) k) (we (g.d d).W (qD g dl' d) (lX g d)+ -1*we (g.d d).W (qD g dl d) (lX g d)))];have h1:=oe (f:=λi=>kg (λj=>oZ g B (λi c=>dl' i c+ -1*dl i c) j i) g.n) (g:=λi=>kg (λc=>if B i c=false then dl' i c+ -1*dl i c else 0) (g.cn i)) (n:=g.n) λi hi=>
  HD (λc hc=>by have:=h i hi c hc;grind) g.n
 have h2:=oe (f:=λd=>kg (λj=>oa g d j (λk=>rR (g.d d).W (qD g dl' d) k+ -1*rR (g.d d).W (qD g dl d) k) (we (g.d d).W (qD g dl' d) (lX g d)+ -1*we (g.d d).W (qD g dl d) (lX g d))) g.n) (g:=λd=>kg (λk=>dl' (g.lg d k).1 (g.lg d k).2+ -1*dl (g.lg d k).1 (g.lg d k).2) (lX g d)) (n:=g.ds.length) λd hd=>by
  have h4:=G5 (g:=g) (d:=d) (r:=λk=>rR (g.d d).W (qD g dl' d) k+ -1*rR (g.d d).W (qD g dl d) k) (s:=we (g.d d).W (qD g dl' d) (lX g d)+ -1*we (g.d d).W (qD g dl d) (lX g d)) (n:=g.n) (λk hk=>(G.lg d hd k hk).1) (by
   have:=Mp (W:=(g.d d).W) (λk hk=>Cm G h0 hd hk) (hq d hd);grind)
  rw[mX]at h4;rw[mX];have e1:kg (λk=>dl' (g.lg d k).1 (g.lg d k).2) (lX g d)=kg (qD g dl' d) (lX g d):=rfl;have e2:kg (λk=>dl (g.lg d k).1 (g.lg d k).2) (lX g d)=kg (qD g dl d) (lX g d):=rfl;unfold we at h4⊢;grind
 have h3:=KO G λi c=>dl' i c+ -1*dl i c;have h5:kg (λi=>kg (dl' i) (g.cn i)-kg (dl i) (g.cn i)) g.n=kg (λi=>kg (λc=>dl' i c+ -1*dl i c) (g.cn i)) g.n:=km λi _=>by rw[mX];grind
 rw[h5];grind
def DB (g:mT) (sl:Nat->Nat->Rat) (d:Nat->Rat) (e k:Nat):Rat:=sl (g.lg e k).1 (g.lg e k).2*d (g.lg e k).1
theorem Ua (G:nK g Y B) (h0:Br g dl) (hs:Br g sl) {d:Nat->Rat} (hd:∀i,i<g.n->0<=d i) {h:Rat} (hh:0<=h) (hl:∀i,i<g.n->∀c,c<g.cn i->dl' i c=dl i c+(h*d i)*sl i c)
  (hw:∀e,e<g.ds.length->∀k,k<lX g e->0<pQ (g.d e).W-kg (qD g dl e) (k+1)->0<kg (DB g sl d e) (k+1)->h*kg (DB g sl d e) (k+1)<=pQ (g.d e).W-kg (qD g dl e) (k+1)) (j:Nat):
  F0 g B dl' j=F0 g B dl j+h*mJ (Hb g B dl sl) d g.n j:=by
 have e1:mJ (Hb g B dl sl) d g.n j=kg (oZ g B (λi c=>d i*sl i c) j) g.n+kg (λe=>oa g e j (Dz (g.d e).W (qD g dl e) (DB g sl d e)) (DE (g.d e).W (qD g dl e) (DB g sl d e) (lX g e))) g.ds.length:=by
  have a1:∀i,Hb g B dl sl j i*d i=d i*oZ g B sl j i+kg (λe=>d i*oa g e j (xu g dl sl e i) (DE (g.d e).W (qD g dl e) (rj g sl e i) (lX g e))) g.ds.length:=λi=>by
   unfold Hb;rw[qx];grind
  show kg (λi=>Hb g B dl sl j i*d i) g.n=_;rw[km λi _=>a1 i,n9,pJ];congr 1
  ·refine km λi _=> ?_;unfold oZ;rw[<-qx];exact km λc _=>by split<;>grind
  ·refine km λe he=> ?_;rw[EN];have hS:∀k,k<lX g e->kg (λi=>d i*rj g sl e i k) g.n=DB g sl d e k:=λk hk=>by
    rw[nF (p:=(g.lg e k).1) (G.lg e he k hk).1 λi _ hi=>by unfold rj;rw[ah λh=>hi h.symm,dZ]];unfold rj DB;rw[aj rfl,gm]
   have hn:∀i,i<g.n->∀k,k<lX g e->0<=rj g sl e i k:=λi _ k hk=>CG G hs he i hk;rw[TH hn hd];have c1:DE (g.d e).W (qD g dl e) (λk=>kg (λi=>d i*rj g sl e i k) g.n) (lX g e)=DE (g.d e).W (qD g dl e) (DB g sl d e) (lX g e):=by
    unfold DE;rw[uf,uf,tL _ _ λk hk=>ny λi hi=>nt (hd i hi) (hn i hi k hk),km hS,tL _ _ λk hk=>by rw[<-hS k hk];exact ny λi hi=>nt (hd i hi) (hn i hi k hk)]
   rw[c1];refine yD λk hk=> ?_;have:=Uv (W:=(g.d e).W) (q:=qD g dl e) (s:=rj g sl e) (d:=d) (n:=g.n) (k:=k) (λi hi j hj=>hn i hi j oO) hd;show kg (λi=>d i*Dz (g.d e).W (qD g dl e) (rj g sl e i) k) g.n=_;rw[this];unfold Dz;have hS1:∀m,m<=lX g e->xU (g.d e).W (qD g dl e) (λj=>kg (λi=>d i*rj g sl e i j) g.n) m=xU (g.d e).W (qD g dl e) (DB g sl d e) m:=λm hm=>by
    rw[tL _ _ λk hk=>ny λi hi=>nt (hd i hi) (hn i hi k oO),km λk hk=>hS k oO,tL _ _ λk hk=>by rw[<-hS k oO];exact ny λi hi=>nt (hd i hi) (hn i hi k oO)]
   rw[hS1 _ oO,hS1 _ oO]
 have e2:∀i,i<g.n->oZ g B dl' j i=oZ g B dl j i+h*oZ g B (λi c=>d i*sl i c) j i:=λi hi=>by
  rw[<-Hj];refine km λc hc=> ?_;rw[hl i hi c hc];split<;>grind
 have e3:∀e,e<g.ds.length->oa g e j (rR (g.d e).W (qD g dl' e)) (we (g.d e).W (qD g dl' e) (lX g e))=oa g e j (rR (g.d e).W (qD g dl e)) (we (g.d e).W (qD g dl e) (lX g e))+h*oa g e j (Dz (g.d e).W (qD g dl e) (DB g sl d e)) (DE (g.d e).W (qD g dl e) (DB g sl d e) (lX g e)):=λe he=>by
  have hq:∀k,k<lX g e->qD g dl' e k=qD g dl e k+h*DB g sl d e k:=λk hk=>by
   show dl' _ _=dl _ _+_;rw[hl _ (G.lg e he k hk).1 _ (G.lg e he k hk).2];unfold DB;grind
  have hn:∀k,k<lX g e->0<=qD g dl e k:=λk hk=>Cm G h0 he hk;have hsn:∀k,k<lX g e->0<=DB g sl d e k:=λk hk=>nt (hs.nn _ (G.lg e he k hk).1 _ (G.lg e he k hk).2) (hd _ (G.lg e he k hk).1);have hov:∀k,k<=lX g e->wE (g.d e).W (qD g dl' e) k=wE (g.d e).W (qD g dl e) k+h*xU (g.d e).W (qD g dl e) (DB g sl d e) k:=λk hk=>by
   rw[<-U6 hn hsn hh (hw e he) hk,qg,qg];congr 2;exact km λj hj=>by rw[hq j oO]
  rw[<-C5];have c1:we (g.d e).W (qD g dl' e) (lX g e)=we (g.d e).W (qD g dl e) (lX g e)+h*DE (g.d e).W (qD g dl e) (DB g sl d e) (lX g e):=by
   unfold we DE;rw[xL,xL,uf,hov _ (aB _),km hq,mX];grind
  rw[c1];refine yD λk hk=> ?_;unfold rR Dz;rw[hov _ oO,hov _ oO];grind
 unfold F0;rw[e1,km e2,km e3,mX,mX];grind
end
def Mn (o:Option Rat) (S:Rat->Prop):Prop:=(∀s,S s->∃h,o=some h/\h<=s)/\∀h,o=some h->S h
theorem Mn.add {o:Option Rat} {S:Rat->Prop} (h:Mn o S) (s:Rat):Mn (GC o s) λr=>S r\/r=s:=by
 obtain⟨h1,h2⟩:=h;cases o with
 |none=>exact⟨λr hr=>⟨s,rfl,by
   rcases hr with hr|hr
   ·obtain⟨_,e,_⟩:=h1 r hr;cases e
   ·rw[hr];exact bP⟩,λr e=> .inr (bN e).symm⟩
 |some a=>
  unfold GC;by_cases g:s<a
  ·simp only[aj g];refine⟨λr hr=>⟨s,rfl,?_⟩,λr e=> .inr (bN e).symm⟩;rcases hr with hr|hr
   ·obtain⟨b,e,hb⟩:=h1 r hr;have:=bN e;grind
   ·rw[hr];exact bP
  ·simp only[ah g];refine⟨λr hr=>⟨a,rfl,?_⟩,λr e=> .inl (by rw[<-bN e];exact h2 a rfl)⟩;rcases hr with hr|hr
   ·obtain⟨b,e,hb⟩:=h1 r hr;have:=bN e;grind
   ·grind
theorem Mn.congr {o:Option Rat} {S S':Rat->Prop} (h:Mn o S) (e:∀r,S r↔S' r):Mn o S':=⟨λs hs=>h.1 s ((e s).2 hs),λr hr=>(e r).1 (h.2 r hr)⟩
section
variable (g : mT) (Y : Nat → Ly) (F : Nat → Nat) (dl sl : Nat → Nat → Rat) (x d : Nat → Rat)
def Wg (n:Nat) (r:Rat):Prop:=∃i,i<n/\0<d i/\∃y,We Y F x i=some y/\r=(y-x i)/d i
def WF (e n:Nat) (r:Rat):Prop:=∃k,k<n/\0<AM g dl e (k+1)/\0<BC g sl d e (k+1)/\r=AM g dl e (k+1)/BC g sl d e (k+1)
def Xk (n:Nat) (r:Rat):Prop:=∃e,e<n/\WF g dl sl d e (lX g e) r
def zi (r:Rat):Prop:=Wg Y F x d g.n r\/Xk g dl sl d g.ds.length r
theorem Kj:∀n,Mn (Q6 Y F x d n) (Wg Y F x d n)
 |0=>⟨λ_ ⟨_,h,_⟩=>absurd h (aS _),λ_ h=>by cases h⟩
 |n+1=>by
  have ih:=Kj n;have hold:∀r,Wg Y F x d n r->Wg Y F x d (n+1) r:=λr ⟨i,h1,h2⟩=>⟨i,oO,h2⟩;show Mn (QO Y F x d n (Q6 Y F x d n)) _;unfold QO;by_cases hd:0<d n
  ·rw[aj hd];cases hn:We Y F x n with
   |none=>exact ih.congr λr=>⟨hold r,λ⟨i,h1,h2,y,h3,h4⟩=>by
    by_cases e:i=n
    ·rw[e,hn]at h3;cases h3
    ·exact⟨i,oO,h2,y,h3,h4⟩⟩
   |some y=>exact(ih.add ((y-x n)/d n)).congr λr=>⟨λh=>h.elim (hold r) λh=>⟨n,oO,hd,y,hn,h⟩,λ⟨i,h1,h2,y',h3,h4⟩=>by
    by_cases e:i=n
    ·rw[e,hn]at h3;obtain rfl:=bN h3;exact .inr (by rw[h4,e])
    ·exact .inl ⟨i,oO,h2,y',h3,h4⟩⟩
  ·rw[ah hd];exact ih.congr λr=>⟨hold r,λ⟨i,h1,h2,y,h3,h4⟩=>by
    by_cases e:i=n
    ·rw[e]at h2;exact absurd h2 hd
    ·exact⟨i,oO,h2,y,h3,h4⟩⟩
theorem Ke {e:Nat} {o:Option Rat} {S:Rat->Prop} (h:Mn o S):∀n,Mn (KL g dl sl d e o n) λr=>S r\/WF g dl sl d e n r
 |0=>h.congr λr=>⟨.inl,λh=>h.elim id λ⟨_,h,_⟩=>absurd h (aS _)⟩
 |n+1=>by
  have ih:=Ke (e:=e) h n;have hold:∀r,WF g dl sl d e n r->WF g dl sl d e (n+1) r:=λr ⟨i,h1,h2⟩=>⟨i,oO,h2⟩;unfold KL;by_cases hc:0<AM g dl e (n+1)/\0<BC g sl d e (n+1)
  ·rw[aj hc];refine(ih.add _).congr λr=>⟨λh=> ?_,λh=> ?_⟩
   ·rcases h with(h|h)|h
    ·exact .inl h
    ·exact .inr (hold r h)
    ·exact .inr ⟨n,oO,hc.1,hc.2,h⟩
   ·rcases h with h|⟨i,h1,h2,h3,h4⟩
    ·exact .inl (.inl h)
    ·by_cases e:i=n
     ·exact .inr (by rw[h4,e])
     ·exact .inl (.inr ⟨i,oO,h2,h3,h4⟩)
  ·rw[ah hc];refine ih.congr λr=>⟨λh=>h.elim .inl λh=> .inr (hold r h),λh=> ?_⟩;rcases h with h|⟨i,h1,h2,h3,h4⟩
   ·exact .inl h
   ·by_cases e:i=n
    ·rw[e]at h2 h3;exact absurd ⟨h2,h3⟩ hc
    ·exact .inr ⟨i,oO,h2,h3,h4⟩
theorem I8:∀n,Mn (Tc g Y F dl sl x d n) λr=>Wg Y F x d g.n r\/Xk g dl sl d n r
 |0=>(Kj Y F x d g.n).congr λr=>⟨.inl,λh=>h.elim id λ⟨_,h,_⟩=>absurd h (aS _)⟩
 |n+1=>by
  refine(Ke g dl sl d (e:=n) (I8 n) (lX g n)).congr λr=>⟨λh=> ?_,λh=> ?_⟩
  ·rcases h with(h|⟨e,h1,h2⟩)|h
   ·exact .inl h
   ·exact .inr ⟨e,oO,h2⟩
   ·exact .inr ⟨n,oO,h⟩
  ·rcases h with h|⟨e,h1,h2⟩
   ·exact .inl (.inl h)
   ·by_cases e1:e=n
    ·rw[e1]at h2;exact .inr h2
    ·exact .inl (.inr ⟨e,oO,h2⟩)
theorem Hv:Mn (KW g Y F dl sl x d) (zi g Y F dl sl x d):=I8 g Y F dl sl x d g.ds.length
end
theorem Dn (g:mT) (dl:Nat->Nat->Rat) (e:Nat):∀k,AM g dl e k=pQ (g.d e).W-kg (qD g dl e) k
 |0=>by show pQ _=pQ _-0;grind
 |k+1=>by
  show AM g dl e k-qD g dl e k=pQ _-(kg (qD g dl e) k+qD g dl e k);rw[Dn g dl e k];grind
theorem Cr (g:mT) (sl:Nat->Nat->Rat) (d:Nat->Rat) (e:Nat):∀k,BC g sl d e k=kg (DB g sl d e) k
 |0=>rfl
 |k+1=>by
  show BC g sl d e k+_=kg (DB g sl d e) k+_;rw[Cr g sl d e k];rfl
def Jr (f:Nat->Nat):Nat->Nat
 |0=>0
 |n+1=>Jr f n+f n
theorem vX {f g:Nat->Nat}:∀ {n:Nat},(∀i,i<n->f i<=g i)->Jr f n<=Jr g n
 |0,_=>aB _
 |n+1,h=>Nat.add_le_add (vX λi hi=>h i oO) (h n oO)
theorem Gj {f g:Nat->Nat}:∀ {n:Nat},(∀i,i<n->f i<=g i)->(∃i,i<n/\f i<g i)->Jr f n<Jr g n
 |0,_,⟨_,h,_⟩=>absurd h (aS _)
 |n+1,h,⟨i,h1,h2⟩=>by
  have a:=vX (n:=n) λi hi=>h i oO;have b:=h n oO;show Jr f n+f n<Jr g n+g n;by_cases e:i=n
  ·rw[e]at h2;omega
  ·have:=Gj (n:=n) (λi hi=>h i oO) ⟨i,oO,h2⟩;omega
def G4 (g:mT) (Y:Nat->Ly) (x:Nat->Rat):Nat:=
 Jr (λi=>wn (Y i) (x i)) g.n+Jr (λe=>Jr (λk=>if 0<pQ (g.d e).W-kg (qD g (lH Y x) e) (k+1)then 1 else 0) (lX g e)) g.ds.length
section
variable {g : mT} {Y : Nat → Ly} {B : Nat → Nat → Bool} {x z d : Nat → Rat} {Fu : Nat} {h : Rat}
theorem D8 (G:nK g Y B) (hx:∀i,i<g.n->0<=x i):Br g (lH Y x):=⟨λi hi _ _=>Vm (G.ly i hi) (hx i hi)⟩
theorem Hd (G:nK g Y B) (hx:∀i,i<g.n->0<=x i):Br g (oJ Y x):=⟨λi hi _ _=>Wj (G.ly i hi) (hx i hi)⟩
theorem TR (G:nK g Y B) (hx:∀i,i<g.n->0<=x i) {i:Nat} (hi:i<g.n):kg (oJ Y x i) (g.cn i)<=1:=by
 rw[<-G.yn i hi];exact UF (G.ly i hi) (hx i hi)
theorem B3 (G:nK g Y B) (hx:∀i,i<g.n->0<=x i) (hxz:∀i,i<g.n->x i<=z i):∀i,i<g.n->∀c,c<g.cn i->lH Y x i c<=lH Y z i c:=λi hi _ _=>Sp (G.ly i hi) (hx i hi) (hxz i hi)
theorem Kc (G:nK g Y B) (hx:∀i,i<g.n->0<=x i) (hxz:∀i,i<g.n->x i<=z i) (j:Nat):F0 g B (lH Y x) j<=F0 g B (lH Y z) j:=QU G (D8 G hx) (B3 G hx hxz) j
theorem S8 (G:nK g Y B) (hx:∀i,i<g.n->0<=x i) (hxz:∀i,i<g.n->x i<=z i):kg (F0 g B (lH Y z)) g.n-kg (F0 g B (lH Y x)) g.n<=kg (λi=>z i-x i) g.n:=by
 refine eO (O6 G (D8 G hx) (B3 G hx hxz)) (oe λi hi=> ?_);have:=TZ (G.ly i hi) (hx i hi) (hxz i hi);rw[G.yn i hi]at this;exact this
theorem ya (G:nK g Y B) (hx:∀i,i<g.n->0<=x i):Td (qu g Y B x) g.n:=by
 have e:∀i,i<g.n->∀j,qu g Y B x j i=Hb g B (lH Y x) (oJ Y x) j i:=λi hi j=>KG G.ho G.lg hi j;refine⟨λj _ i hi=>by rw[e i hi];exact Ui G (D8 G hx) (Hd G hx) hi j,λi hi=> ?_⟩;unfold ri;rw[km λj _=>e i hi j];exact eO (KV G (Hd G hx) hi) (TR G hx hi)
theorem TO (G:nK g Y B) (j:Nat):mJ (qu g Y B x) d g.n j=mJ (Hb g B (lH Y x) (oJ Y x)) d g.n j:=km λi hi=>by rw[show qu g Y B x j i=Hb g B (lH Y x) (oJ Y x) j i from KG G.ho G.lg hi j]
structure Wy (g:mT) (Y:Nat->Ly) (B:Nat->Nat->Bool) (x d:Nat->Rat) (h:Rat):Prop where
 lin:∀j,F0 g B (lH Y λi=>x i+h*d i) j=F0 g B (lH Y x) j+h*mJ (qu g Y B x) d g.n j
 mu:G4 g Y (λi=>x i+h*d i)<=G4 g Y x
theorem GL (G:nK g Y B) (hx:∀i,i<g.n->0<=x i) (hd:∀i,i<g.n->0<=d i) (hF:∀i,i<g.n->wn (Y i) (x i)<Fu) (h0:0<=h) (hc:∀r,zi g Y (λ_=>Fu) (lH Y x) (oJ Y x) x d r->h<=r):
  Wy g Y B x d h/\(zi g Y (λ_=>Fu) (lH Y x) (oJ Y x) x d h->G4 g Y (λi=>x i+h*d i)<G4 g Y x):=by
 have HW:∀i,i<g.n->x i<=x i+h*d i:=λi hi=>by have:=nt h0 (hd i hi);grind
 have hl:∀i,i<g.n->∀c,c<g.cn i->lH Y (λi=>x i+h*d i) i c=lH Y x i c+(h*d i)*oJ Y x i c:=λi hi c hc'=>by
  have hn:=E4 (G.ly i hi) (hx i hi) (hF i hi);rw[G.yn i hi]at hn;by_cases hd0:0<d i
  ·have hu:=HW i hi;cases hz:GU (Y i) (x i) Fu (x i)with
   |none=>
    rw[hz]at hn;have:=hn.2 (x i+h*d i) hu c hc';show dC (Y i) (x i+h*d i) c=_;rw[this];show _=dC (Y i) (x i) c+(h*d i)*sC (Y i) (x i) c;grind
   |some y=>
    rw[hz]at hn;have h1:=hc _ (.inl ⟨i,hi,hd0,y,hz,rfl⟩);have h2:=tO (a:=y-x i) hd0;have h3:=oI h1 (dm hd0);have:=hn.2.2 (x i+h*d i) hu (by grind) c hc';show dC (Y i) (x i+h*d i) c=_;rw[this];show _=dC (Y i) (x i) c+(h*d i)*sC (Y i) (x i) c;grind
  ·have e:d i=0:=by have:=hd i hi;grind
   show dC (Y i) (x i+h*d i) c=dC (Y i) (x i) c+(h*d i)*sC (Y i) (x i) c;rw[e,dZ,gY];grind
 have hw:∀e,e<g.ds.length->∀k,k<lX g e->0<pQ (g.d e).W-kg (qD g (lH Y x) e) (k+1)->0<kg (DB g (oJ Y x) d e) (k+1)->h*kg (DB g (oJ Y x) d e) (k+1)<=pQ (g.d e).W-kg (qD g (lH Y x) e) (k+1):=λe he k hk h1 h2=>by
  rw[<-Dn]at h1⊢;rw[<-Cr]at h2⊢;have h3:=hc _ (.inr ⟨e,he,k,hk,h1,h2,rfl⟩);have h4:=tO (a:=AM g (lH Y x) e (k+1)) h2;have h5:=oI h3 (dm h2);grind
 have hqm:∀e,e<g.ds.length->∀k,k<=lX g e->kg (qD g (lH Y x) e) k<=kg (qD g (lH Y λi=>x i+h*d i) e) k:=λe he k hk=>oe λj hj=>
  B3 G hx HW _ (G.lg e he j (show j<lX g e by omega)).1 _ (G.lg e he j (show j<lX g e by omega)).2
 have hm1:∀i,i<g.n->wn (Y i) (x i+h*d i)<=wn (Y i) (x i):=λi hi=>It (G.ly i hi) (hx i hi) (HW i hi);have hm2:∀e,e<g.ds.length->∀k,k<lX g e->(if 0<pQ (g.d e).W-kg (qD g (lH Y λi=>x i+h*d i) e) (k+1)then 1 else 0)<=if 0<pQ (g.d e).W-kg (qD g (lH Y x) e) (k+1)then 1 else 0:=λe he k hk=>by
  have:=hqm e he (k+1) hk;split
  ·rw[aj (by grind)];exact aB _
  ·exact ax _
 refine⟨⟨λj=> ?_,Nat.add_le_add (vX hm1) (vX λe he=>vX (hm2 e he))⟩,λhcd=> ?_⟩
 ·rw[TO G];exact Ua G (D8 G hx) (Hd G hx) hd h0 hl hw j
 ·have b1:=vX hm1;have b2:=vX λe he=>vX (hm2 e he);show Jr (λi=>wn (Y i) (x i+h*d i)) g.n+_<Jr (λi=>wn (Y i) (x i)) g.n+_;rcases hcd with⟨i,hi,hd0,y,hz,e⟩|⟨e,he,k,hk,h1,h2,e1⟩
  ·have hn:=E4 (G.ly i hi) (hx i hi) (hF i hi);have hz':GU (Y i) (x i) Fu (x i)=some y:=hz;rw[hz']at hn;have h2:=tO (a:=y-x i) hd0;rw[<-e]at h2;have h3:x i+h*d i=y:=by grind
   have:=Gj hm1 ⟨i,hi,by rw[h3];exact hn.2.1⟩;omega
  ·have h4:=tO (a:=AM g (lH Y x) e (k+1)) h2;rw[<-e1]at h4;have h3:kg (qD g (lH Y λi=>x i+h*d i) e) (k+1)=kg (qD g (lH Y x) e) (k+1)+h*kg (DB g (oJ Y x) d e) (k+1):=by
    rw[<-mX];refine km λj hj=> ?_;show lH Y _ _ _=lH Y x _ _+_;rw[hl _ (G.lg e he j (show j<lX g e by omega)).1 _ (G.lg e he j (show j<lX g e by omega)).2];unfold DB;grind
   rw[Dn]at h1 h4;rw[Cr]at h2 h4;have:=Gj (λe he=>vX (hm2 e he)) ⟨e,he,Gj (hm2 e he) ⟨k,hk,by
    rw[aj h1,ah (by rw[h3];grind)];exact Nat.zero_lt_one⟩⟩
   omega
theorem C8 (G:nK g Y B) (hx:∀i,i<g.n->0<=x i) (hF:∀i,i<g.n->wn (Y i) (x i)<Fu) {r:Rat} (hc:zi g Y (λ_=>Fu) (lH Y x) (oJ Y x) x d r):0<r:=by
 rcases hc with⟨i,hi,hd0,y,hz,e⟩|⟨e,he,k,hk,h1,h2,e1⟩
 ·have hn:=E4 (G.ly i hi) (hx i hi) (hF i hi);have hz':GU (Y i) (x i) Fu (x i)=some y:=hz;rw[hz']at hn;rw[e,bR];exact CH (by have:=hn.1;grind) (A1 hd0).1
 ·rw[e1,bR];exact CH h1 (A1 h2).1
end
structure Inv (g:mT) (Y:Nat->Ly) (B:Nat->Nat->Bool) (x:Nat->Rat) (t:Rat):Prop where
 nn:∀i,i<g.n->0<=x i
 t0:0<=t
 t1:t<=1
 fx:∀j,j<g.n->x j=t*yJ g j+F0 g B (lH Y x) j
structure Uo (g:mT) (Y:Nat->Ly) (B:Nat->Nat->Bool) (x:Nat->Rat):Prop where
 nn:∀i,i<g.n->0<=x i
 fx:∀j,j<g.n->x j=yJ g j+F0 g B (lH Y x) j
 top:∀y:Nat->Rat,(∀j,j<g.n->0<=y j)->(∀j,j<g.n->y j<=yJ g j+F0 g B (lH Y y) j)->∀j,j<g.n->y j<=x j
section
variable {g : mT} {Y : Nat → Ly} {B : Nat → Nat → Bool} {x : Nat → Rat} {t : Rat} {Fu : Nat}
theorem Er (G:nK g Y B) (hF:∀i,i<g.n->∀m,wn (Y i) m<Fu) (h16:g.n<=16) (I:Inv g Y B x t) (hC:rZ g Y B x≠ []):
  ∃H,RP g Y Fu x (Bq g Y B x)=some H/\0<H/\zi g Y (λ_=>Fu) (lH Y x) (oJ Y x) x (Bq g Y B x) H/\Inv g Y B (MN g Y B Fu x) t/\G4 g Y (MN g Y B Fu x)<G4 g Y x:=by
 obtain⟨_,l2,l3,l4,l5,_⟩:=yY (ya G I.nn) rfl hC h16;have hd:∀i,i<g.n->0<=Bq g Y B x i:=λi _=>by
  by_cases e:i∈rZ g Y B x
  ·exact dm (l2 i e)
  ·have:Bq g Y B x i=0:=l3 i e;rw[this];exact bP
 have hCn:∀c,c∈rZ g Y B x->c<g.n:=λc hc=>(ym (qu g Y B x) g.n (List.replicate g.n true) g.n).2 c hc;have hMn:=Hv g Y (λ_=>Fu) (lH Y x) (oJ Y x) x (Bq g Y B x);obtain⟨c,hc⟩:=List.exists_mem_of_ne_nil _ hC;have hcn:=hCn c hc;have hF':∀i,i<g.n->wn (Y i) (x i)<Fu:=λi hi=>hF i hi _;have hcd:∃r,zi g Y (λ_=>Fu) (lH Y x) (oJ Y x) x (Bq g Y B x) r:=by
  have hn:=E4 (G.ly c hcn) (I.nn c hcn) (hF' c hcn);cases hz:GU (Y c) (x c) Fu (x c)with
  |some y=>exact⟨_,.inl ⟨c,hcn,l2 c hc,y,hz,rfl⟩⟩
  |none=>
   rw[hz,G.yn c hcn]at hn;have h1:=l5 c hc;have h2:ri (qu g Y B x) c g.n<=kg (oJ Y x c) (g.cn c):=by
    unfold ri;rw[km λj _=>show qu g Y B x j c=Hb g B (lH Y x) (oJ Y x) j c from KG G.ho G.lg hcn j];exact KV G (Hd G I.nn) hcn
   have h3:kg (oJ Y x c) (g.cn c)=0:=kW λk hk=>hn.1 k hk;rw[h1,h3]at h2;exact absurd h2 dD
 obtain⟨r,hr⟩:=hcd;obtain⟨H,eH,_⟩:=hMn.1 r hr;have hcH:=hMn.2 H eH;have hH:=C8 G I.nn hF' hcH;obtain⟨s1,s2⟩:=GL G I.nn hd hF' (dm hH) λr hr=>by
  obtain⟨a,ea,ha⟩:=hMn.1 r hr;rw[eH]at ea;rw[bN ea];exact ha
 have eS:RP g Y Fu x (Bq g Y B x)=some H:=eH;have eX:MN g Y B Fu x=λi=>x i+H*Bq g Y B x i:=by
  funext i;unfold MN;rw[eS];rfl
 refine⟨H,eS,hH,hcH,?_,by rw[eX];exact s2 hcH⟩;rw[eX];refine⟨λi hi=> ?_,I.t0,I.t1,λj hj=> ?_⟩
 ·have:=nt (dm hH) (hd i hi);have:=I.nn i hi;grind
 ·have h1:=s1.lin j;have h2:=I.fx j hj;have h3:mJ (qu g Y B x) (Bq g Y B x) g.n j=Bq g Y B x j:=l4 j hj;rw[h1,h3];grind
theorem AG (G:nK g Y B) (hF:∀i,i<g.n->∀m,wn (Y i) m<Fu) (h16:g.n<=16) (hn0:0<g.n) (I:Inv g Y B x t) (hC:rZ g Y B x=[]) (ht:t≠1):
  (∀i,i<g.n->0<=Ag g Y B x i)/\0<yI g Y B Fu x t/\t+yI g Y B Fu x t<=1/\Inv g Y B (GW g Y B Fu x t) (t+yI g Y B Fu x t)/\G4 g Y (GW g Y B Fu x t)+(if t+yI g Y B Fu x t=1 then 0 else 1)<G4 g Y x+1/\
  (yI g Y B Fu x t=1-t\/zi g Y (λ_=>Fu) (lH Y x) (oJ Y x) x (Ag g Y B x) (yI g Y B Fu x t)):=by
 obtain⟨_,_,f3,f4,_⟩:=zo (g:=g) (ya G I.nn) hC hn0 h16 G.cash;have hMn:=Hv g Y (λ_=>Fu) (lH Y x) (oJ Y x) x (Ag g Y B x);have hF':∀i,i<g.n->wn (Y i) (x i)<Fu:=λi hi=>hF i hi _;have htl:t<1:=by have:=I.t1;grind
 have hh:0<yI g Y B Fu x t/\t+yI g Y B Fu x t<=1/\(∀r,zi g Y (λ_=>Fu) (lH Y x) (oJ Y x) x (Ag g Y B x) r->yI g Y B Fu x t<=r)/\(yI g Y B Fu x t=1-t\/zi g Y (λ_=>Fu) (lH Y x) (oJ Y x) x (Ag g Y B x) (yI g Y B Fu x t)):=by
  unfold yI RP;cases hz:KW g Y (λ_=>Fu) (lH Y x) (oJ Y x) x (Ag g Y B x)with
  |none=>
   refine⟨by show 0<1-t;grind,by show t+(1-t)<=1;grind,λr hr=> ?_,.inl rfl⟩;obtain⟨a,ea,_⟩:=hMn.1 r hr;rw[hz]at ea;cases ea
  |some H=>
   have hcH:=hMn.2 H hz;have hH:=C8 G I.nn hF' hcH;have hle:∀r,zi g Y (λ_=>Fu) (lH Y x) (oJ Y x) x (Ag g Y B x) r->H<=r:=λr hr=>by
    obtain⟨a,ea,ha⟩:=hMn.1 r hr;rw[hz]at ea;rw[bN ea];exact ha
   unfold W4;dsimp only;split
   ·exact⟨by grind,by grind,λr hr=>by have:=hle r hr;grind,.inl rfl⟩
   ·exact⟨hH,by grind,hle,.inr hcH⟩
 obtain⟨h1,h2,h3,h4⟩:=hh;obtain⟨s1,s2⟩:=GL (B:=B) G I.nn f3 hF' (dm h1) h3;have eX:GW g Y B Fu x t=λi=>x i+yI g Y B Fu x t*Ag g Y B x i:=rfl;refine⟨f3,h1,h2,?_,?_,h4⟩
 ·rw[eX];refine⟨λi hi=> ?_,by have:=I.t0;grind,h2,λj hj=> ?_⟩
  ·have:=nt (dm h1) (f3 i hi);have:=I.nn i hi;show 0<=x i+yI g Y B Fu x t*qQ g (qu g Y B x) (List.range g.n) i;grind
  ·have e1:=s1.lin j;have e2:=I.fx j hj;have e3:Ag g Y B x j=mJ (qu g Y B x) (Ag g Y B x) g.n j+yJ g j:=f4 j hj;have e4:mJ (qu g Y B x) (qQ g (qu g Y B x) (List.range g.n)) g.n j=mJ (qu g Y B x) (Ag g Y B x) g.n j:=rfl;rw[e4]at e1;have e5:F0 g B (lH Y λi=>x i+yI g Y B Fu x t*Ag g Y B x i) j=F0 g B (lH Y x) j+yI g Y B Fu x t*mJ (qu g Y B x) (Ag g Y B x) g.n j:=e1;show x j+yI g Y B Fu x t*Ag g Y B x j=_;rw[e5,e3];grind
 ·have hmu:G4 g Y (GW g Y B Fu x t)<=G4 g Y x:=s1.mu;rcases h4 with h4|h4
  ·rw[aj (by rw[h4];grind)];omega
  ·have:G4 g Y (GW g Y B Fu x t)<G4 g Y x:=s2 h4;split<;>omega
theorem RK (G:nK g Y B) (hF:∀i,i<g.n->∀m,wn (Y i) m<Fu) (I:Inv g Y B x 1) (hC:rZ g Y B x=[]):Uo g Y B x:=by
 have hfx:∀j,j<g.n->x j=yJ g j+F0 g B (lH Y x) j:=λj hj=>by rw[I.fx j hj,dW]
 refine⟨I.nn,hfx,λy hy0 hy=> ?_⟩;obtain⟨z,hz⟩:∃z:Nat->Rat,z=λi=>if x i<=y i then y i else x i:=⟨_,rfl⟩
 have hxz:∀i,x i<=z i/\y i<=z i/\(z i=x i\/z i=y i):=λi=>by rw[hz];dsimp only;split<;>grind
 obtain⟨w,hw⟩:∃w:Nat->Rat,w=λi=>z i-x i:=⟨_,rfl⟩;have hw0:∀i,0<=w i:=λi=>by rw[hw];have:=(hxz i).1;grind
 have hFz:∀j,j<g.n->w j<=F0 g B (lH Y z) j-F0 g B (lH Y x) j:=λj hj=>by
  have a:=Kc G I.nn (λi _=>(hxz i).1) j;have b:=Kc G hy0 (λi _=>(hxz i).2.1) j;have c:=hfx j hj;have d:=hy j hj;rw[hw];rcases(hxz j).2.2 with e|e<;>dsimp only<;>rw[e]<;>grind
 have hlip:=S8 G I.nn λi _=>(hxz i).1;have hws:kg (λi=>z i-x i) g.n=kg w g.n:=by rw[hw]
 have heq:∀j,j<g.n->F0 g B (lH Y z) j-F0 g B (lH Y x) j=w j:=λj hj=>by
  have:=AO (f:=λj=>F0 g B (lH Y z) j-F0 g B (lH Y x) j-w j) (n:=g.n) (λj hj=>by have:=hFz j hj;grind) (by
   rw[oA,oA];grind) j hj
  grind
 have hF':∀i,i<g.n->wn (Y i) (x i)<Fu:=λi hi=>hF i hi _;have hMn:=Hv g Y (λ_=>Fu) (lH Y x) (oJ Y x) x w;obtain⟨h,hh0,hh1,hhc⟩:∃h,0<h/\h<=1/\∀r,zi g Y (λ_=>Fu) (lH Y x) (oJ Y x) x w r->h<=r:=by
  cases hz:KW g Y (λ_=>Fu) (lH Y x) (oJ Y x) x w with
  |none=>exact⟨1,dD,bP,λr hr=>by
    obtain⟨a,ea,_⟩:=hMn.1 r hr;rw[hz]at ea;cases ea⟩
  |some H=>
   have hH:=C8 G I.nn hF' (hMn.2 H hz);have hle:∀r,zi g Y (λ_=>Fu) (lH Y x) (oJ Y x) x w r->H<=r:=λr hr=>by
    obtain⟨a,ea,ha⟩:=hMn.1 r hr;rw[hz]at ea;rw[bN ea];exact ha
   by_cases g1:H<=1
   ·exact⟨H,hH,g1,hle⟩
   ·exact⟨1,dD,bP,λr hr=>by have:=hle r hr;grind⟩
 obtain⟨s1,_⟩:=GL (B:=B) G I.nn (λi _=>hw0 i) hF' (dm hh0) hhc;have HW:∀i,x i<=x i+h*w i/\x i+h*w i<=z i:=λi=>by
  have a:=nt (dm hh0) (hw0 i);have b:=nt (hw0 i) (show 0<=1-h by grind);have c:w i=z i-x i:=by rw[hw]
  grind
 have hup0:∀i,i<g.n->0<=x i+h*w i:=λi hi=>eO (I.nn i hi) (HW i).1;have hM:=ya (B:=B) G I.nn;have hdnn:∀j,j<g.n->0<=mJ (qu g Y B x) w g.n j:=λj hj=>ny λi hi=>nt (hM.nn j hj i hi) (hw0 i);have hcl:∀a,a<g.n->w a=0->∀c,c<g.n->0<w c->qu g Y B x a c=0:=λa ha hwa c hc hwc=>by
  have e1:=s1.lin a;have e2:=Kc G hup0 (λi _=>(HW i).2) a;have e3:=heq a ha;have e4:h*mJ (qu g Y B x) w g.n a<=0:=by grind
  have e5:=hdnn a ha;have e6:mJ (qu g Y B x) w g.n a=0:=by
   have:=nt (dm hh0) e5;exact Em (b:=h) (by grind) hh0
  have e7:=AO (f:=λi=>qu g Y B x a i*w i) (n:=g.n) (λi hi=>nt (hM.nn a ha i hi) (hw0 i)) (by
   show mJ (qu g Y B x) w g.n a<=0;rw[e6];exact bP) c hc
  exact Em e7 hwc
 have hlk:∀c,c<g.n->0<w c->ri (qu g Y B x) c g.n=1:=λc hc hwc=>by
  have e1:=S8 G hup0 λi _=>(HW i).2;have e2:kg (F0 g B (lH Y λi=>x i+h*w i)) g.n=kg (F0 g B (lH Y x)) g.n+h*kg (λj=>mJ (qu g Y B x) w g.n j) g.n:=by
   rw[<-mX];exact km λj _=>s1.lin j
  have e3:kg (λj=>F0 g B (lH Y z) j-F0 g B (lH Y x) j) g.n=kg w g.n:=km heq;rw[oA]at e3;have e4:kg (λi=>z i-(x i+h*w i)) g.n=(1-h)*kg w g.n:=by
   rw[<-qx];exact km λi _=>by
    have c:w i=z i-x i:=by rw[hw]
    grind
  rw[e2,e4,KE]at e1;have e5:0<=h*(kg (λj=>ri (qu g Y B x) j g.n*w j) g.n-kg w g.n):=by grind
  have e6:∀j,j<g.n->0<=w j-ri (qu g Y B x) j g.n*w j:=λj hj=>by
   have:=nt (hw0 j) (show 0<=1-ri (qu g Y B x) j g.n by have:=hM.cs j hj;grind);grind
  have e7:=ny e6;rw[oA]at e7;have e8:(kg w g.n-kg (λj=>ri (qu g Y B x) j g.n*w j) g.n)=0:=by
   have:=nt (dm hh0) e7;exact Em (b:=h) (by grind) hh0
  have e9:=AO e6 (by rw[oA,e8];exact bP) c hc;have:=Em (a:=1-ri (qu g Y B x) c g.n) (b:=w c) (by grind) hwc;grind
 intro j hj;by_cases e:w j=0
 ·have c:w j=z j-x j:=by rw[hw]
  have:=(hxz j).2.1;grind
 ·have hwj:0<w j:=by have:=hw0 j;grind
  have hc2:∀k∈tB (qu g Y B x) g.n j,k<g.n/\0<w k:=λk hk=>Qe hj (λk=>k<g.n/\0<w k) ⟨hj,hwj⟩ (λa c ha hc hS hm=>⟨ha,by
   by_cases e:w a=0
   ·rw[hcl a ha e c hc hS.2]at hm;exact absurd hm dw
   ·have:=hw0 a;grind⟩) hk
  have h1:=Bw (M:=qu g Y B x) (aB g.n) hC j hj (Gp hj);rw[dA]at h1;obtain⟨k,hk,h2⟩:=h1;obtain⟨a,b⟩:=hc2 k hk;unfold GQ at h2;rw[hlk k a b]at h2;exact absurd h2 dD
theorem GI (G:nK g Y B) (hF:∀i,i<g.n->∀m,wn (Y i) m<Fu) (h16:g.n<=16) (hn0:0<g.n):∀(f:Nat) (x:Nat->Rat) (t:Rat),Inv g Y B x t->G4 g Y x+(if t=1 then 0 else 1)<f->Uo g Y B (NB g Y B Fu f x t)
 |0,_,_,_,h=>absurd h (aS _)
 |f+1,x,t,I,h=>by
  unfold NB;by_cases hC:rZ g Y B x=[]
  ·rw[ah (λh=>h hC)];by_cases ht:t=1
   ·rw[aj ht];subst ht;exact RK G hF I hC
   ·rw[ah ht];obtain⟨_,_,_,I2,hm,_⟩:=AG G hF h16 hn0 I hC ht;rw[ah ht]at h;exact GI G hF h16 hn0 f _ _ I2 oO
  ·rw[aj hC];obtain⟨_,_,_,_,I2,hm⟩:=Er G hF h16 I hC;exact GI G hF h16 hn0 f _ _ I2 oO
theorem UG (G:nK g Y B):Inv g Y B (λ_=>0) 0:=by
 have hd:∀i,i<g.n->∀c,lH Y (λ_=>0) i c=0:=λi hi c=>Mw (G.ly i hi);refine⟨λ_ _=>bP,bP,dD,λj _=> ?_⟩;have h1:kg (oZ g B (lH Y λ_=>0) j) g.n=0:=kW λi hi=>kW λc _=>by
  rw[hd i hi];split<;>rfl
 have h2:kg (λd=>oa g d j (rR (g.d d).W (qD g (lH Y λ_=>0) d)) (we (g.d d).W (qD g (lH Y λ_=>0) d) (lX g d))) g.ds.length=0:=kW λd hd'=>by
  have hq:∀k,k<lX g d->qD g (lH Y λ_=>0) d k=0:=λk hk=>hd _ (G.lg d hd' k hk).1 _;have hov:∀k,k<=lX g d->wE (g.d d).W (qD g (lH Y λ_=>0) d) k=0:=λk hk=>by
   rw[qg,px λj hj=>by rw[hq j oO];exact bP,kW λj hj=>hq j oO];rcases mK (g.d d).W with g1|g1<;>rcases mK (0-pQ (g.d d).W)with g2|g2<;>grind
  have hr:∀k,k<lX g d->rR (g.d d).W (qD g (lH Y λ_=>0) d) k=0:=λk hk=>by
   unfold rR;rw[hov _ oO,hov _ oO];grind
  have hk:we (g.d d).W (qD g (lH Y λ_=>0) d) (lX g d)=0:=by
   unfold we;rw[kW hq,kW hr];grind
  rw[yD (r':=λ_=>0) hr,hk];unfold oa;rw[kW λk _=>by split<;>rfl];split<;>grind
 unfold F0;rw[h1,h2];grind
end
def sz (n:Nat):Nat:=(kG n).size
theorem qR (m n:Nat):sz (m*n)<=sz m+sz n:=lO m n
theorem By {m n:Nat} (h:m<=n):sz m<=sz n:=lT h
theorem Fv:sz 1=1:=pL
def Mu (D:Nat) (q:Rat):Prop:=∃z:Int,q*(D:Rat)=(z:Rat)
section
variable {D E : Nat} {p q : Rat}
theorem Mu.zero:Mu D 0:=⟨0,by rw[fO];rfl⟩
theorem Mu.one:Mu D 1:=⟨D,by rw[dW,dj]⟩
theorem Mu.add (h:Mu D p) (g:Mu D q):Mu D (p+q):=by
 obtain⟨a,ha⟩:=h;obtain⟨b,hb⟩:=g;exact⟨a+b,by rw[Rat.add_mul,ha,hb,Rat.intCast_add]⟩
theorem Mu.sub (h:Mu D p) (g:Mu D q):Mu D (p-q):=by
 obtain⟨a,ha⟩:=h;obtain⟨b,hb⟩:=g;exact⟨a-b,by rw[j0,<-ha,<-hb];grind⟩
theorem Mu.mul (h:Mu D p) (g:Mu E q):Mu (D*E) (p*q):=by
 obtain⟨a,ha⟩:=h;obtain⟨b,hb⟩:=g;exact⟨a*b,by rw[eR,<-ha,<-hb,iQ];grind⟩
theorem Mu.xp (h:Mu D q) (k:Nat):Mu (D*k) q:=by
 have:=h.mul (E:=k) Mu.one;rwa[fp]at this
theorem Mu.dvd (h:Mu D q) (hd:D∣E):Mu E q:=by
 obtain⟨k,rfl⟩:=hd;exact h.xp k
theorem Mu.self (q:Rat):Mu q.den q:=⟨q.num,by
 have h:(q.den:Rat)≠0:=by
  have:=jZ.2 q.den_pos;grind
 have:=Rat.div_mul_cancel (a:=(q.num:Rat)) h;rwa[<-gF,eu]at this⟩
theorem Mu.sum {n:Nat} {f:Nat->Rat} (h:∀i,i<n->Mu D (f i)):Mu D (kg f n):=by
 induction n with
 |zero=>exact Mu.zero
 |succ n ih=>exact(ih λi hi=>h i oO).add (h n oO)
theorem Mu.ns {α:Type} {f:α->Rat}:∀ {l:List α},(∀a∈l,Mu D (f a))->Mu D (ns f l)
 | [],_=>Mu.zero
 |_::_,h=>(h _ (aJ ..)).add (Mu.ns λa ha=>h a (aI _ ha))
theorem Mu.int (hD:0<D) (h:Mu D q) (h0:0<=q) {B:Nat} (hB:q<=(B:Rat)):∃a:Nat,q*(D:Rat)=(a:Rat)/\a<=B*D/\(0<q->0<a):=by
 obtain⟨z,hz⟩:=h;have hD0:(0:Rat)<D:=jZ.2 hD;have hz0:0<=z:=by
  rw[<-Rat.intCast_nonneg,<-hz];exact Rat.mul_nonneg h0 (dm hD0)
 obtain⟨a,rfl⟩:=Int.eq_ofNat_of_zero_le hz0;refine⟨a,by rw[hz,dj],?_,λhq=> ?_⟩
 ·have h1:q*(D:Rat)<=(B:Rat)*(D:Rat):=Rat.mul_le_mul_of_nonneg_right hB (dm hD0);rw[hz,<-iQ,<-dj (B*D),iM]at h1;omega
 ·have h1:0<q*(D:Rat):=Rat.mul_pos hq hD0;rw[hz,Rat.intCast_pos]at h1;omega
theorem Mu.size (hD:0<D) (h:Mu D q) (h0:0<=q) {B:Nat} (hB:q<=(B:Rat)):L q<=sz B+sz D:=by
 obtain⟨a,ha,hb,_⟩:=h.int hD h0 hB;have hD0:(0:Rat)<D:=jZ.2 hD;have e:q=mkRat (a:Int) D:=by
  rw[gF,dj,<-ha,bR,iz,bX _ (by grind),fp]
 rw[e];refine FD _ oO ?_ ?_
 ·rw[ga];exact dt (By hb) (qR _ _)
 ·exact Nat.le_add_left _ _
theorem Mu.quo {a:Nat} (h:Mu (D*E) p) (hq:q≠0) (ha:q*(E:Rat)=(a:Rat)):Mu (D*a) (p/q):=by
 obtain⟨z,hz⟩:=h;refine⟨z,?_⟩;rw[iQ]at hz;rw[iQ,<-ha,<-hz,bR];have:=bX q hq;grind
theorem Mu.dv (h:Mu E p) {s:Rat} {a:Nat} (hs:s≠0) (ha:s*(E:Rat)=(a:Rat)):Mu a (p/s):=by
 have:=Mu.quo (D:=1) (by rwa[dG]) hs ha;rwa[dG]at this
end
abbrev AA:Nat:=65536
abbrev QX:Nat:=67108864
theorem Ns:sz AA<=3/\sz (8*AA)<=3/\sz 1<=1/\sz 7<=1/\sz QX<=4/\sz 469762048<=4/\sz 2147483648<=4:=
 ⟨lN dD,lN dD,lN dD,lN dD,lN dD,lN dD,lN dD⟩
structure IT (D0:Nat) (t:Tr):Prop where
 n:t.ps.length<=8
 q:∀p∈t.ps,Mu D0 p.q/\p.q<=(AA:Rat)
theorem Ry {D0:Nat}:∀ {l:List Pa},(∀p∈l,Mu D0 p.q/\p.q<=(AA:Rat))->Mu D0 (qs l)/\qs l<=((l.length*AA:Nat):Rat)/\∀c,Mu D0 (rQ c l)
 | [],_=>⟨Mu.zero,by show(0:Rat)<=_;rw[fX,fq];exact bP,λ_=>Mu.zero⟩
 |p::l,h=>by
  obtain⟨h1,h2⟩:=h p (aJ ..);obtain⟨a,b,c⟩:=Ry λp hp=>h p (aI _ hp);refine⟨h1.add a,?_,λk=> ?_⟩
  ·show p.q+qs l<=_;rw[ba,bl,dG,gQ];grind
  ·show Mu D0 ((if p.c=k then p.q else 0)+rQ k l);refine Mu.add ?_ (c k);split
   ·exact h1
   ·exact Mu.zero
section
variable {D0 : Nat} {t : Tr} {T : List Tr} {m : Rat} {D : Nat}
theorem IT.s (h:IT D0 t) (ht:DM t):Mu D0 t.sm/\t.sm<=((8*AA:Nat):Rat):=by
 obtain⟨a,b,_⟩:=Ry h.q;rw[ht.s];refine⟨a,eO b ?_⟩;rw[<-dj,<-dj,iM];have:=aH AA h.n;omega
theorem IT.Ls (h:IT D0 t) (ht:DM t) (h0:0<D0) (hs:sz D0<=2):L t.sm<=5:=by
 obtain⟨a,b⟩:=h.s ht;have:=a.size h0 ht.s0 b;have:=Ns.2.1;omega
theorem IT.Lq (h:IT D0 t) (ht:DM t) (h0:0<D0) (hs:sz D0<=2) {p:Pa} (hp:p∈t.ps):L p.q<=5:=by
 obtain⟨a,b⟩:=h.q p hp;have:=a.size h0 (ht.q p hp) b;have:=Ns.1;omega
theorem AI (hT:yt T) (hb:∀t∈T,IT D0 t) (h0:0<D0) (hs:sz D0<=2):xX T<=6*T.length:=by
 induction T with
 |nil=>exact aB _
 |cons t T ih=>
  have a:=(hb t (aJ ..)).Ls hT.hd h0 hs;have b:=ih hT.tl λt ht=>hb t (aI _ ht);rw[zO,ba];omega
theorem JW (h0:0<D0) (hs:sz D0<=2):∀ {T:List Tr} {m:Rat},yt T->(∀t∈T,IT D0 t)->0<=m->Mu D m->D0∣D->∃Z,0<Z/\sz Z<=5/\(∀c,Mu Z (yd T m c))/\∀c,Mu (D*Z) (uB T m c)
 | [],_,_,_,_,_,_=>⟨1,dD,by rw[Fv];decide,λ_=>Mu.zero,λ_=>Mu.zero⟩
 |t::T,m,hT,hb,hm,hD,hd=>by
  have bt:=hb t (aJ ..);obtain⟨a,b⟩:=bt.s hT.hd;have ha:=(Ry bt.q).2.2;by_cases g:m<t.sm
  ·have hsm:0<t.sm:=by grind
   obtain⟨Z,e1,e2,e3⟩:=a.int h0 hT.hd.s0 b;have hm1:∀c,Mu Z (rQ c t.ps/t.sm):=λc=>(ha c).dv (wR hsm) e1;refine⟨Z,e3 hsm,?_,λc=> ?_,λc=> ?_⟩
   ·have:=By e2;have:=qR (8*AA) D0;have:=Ns.2.1;omega
   ·rw[uS,aj g];have e:rQ c t.ps*(1/t.sm)=rQ c t.ps/t.sm:=by rw[bR,bR];grind
    rw[e];exact hm1 c
   ·rw[qe,aj g];have e:rQ c t.ps*(m/t.sm)=m*(rQ c t.ps/t.sm):=by rw[bR,bR];grind
    rw[e];exact hD.mul (hm1 c)
  ·obtain⟨Z,e1,e2,e3,e4⟩:=JW h0 hs (T:=T) (m:=m-t.sm) hT.tl (λt ht=>hb t (aI _ ht)) (by grind) (hD.sub (a.dvd hd)) hd;refine⟨Z,e1,e2,λc=> ?_,λc=> ?_⟩
   ·rw[uS,ah g];exact e3 c
   ·rw[qe,ah g];exact(((ha c).dvd hd).xp Z).add (e4 c)
theorem Ou:∀ {T:List Tr} {m:Rat} {c:Int},yt T->0<=m->uB T m c<=m
 | [],_,_,_,h=>h
 |t::T,m,c,hT,hm=>by
  have a:=hT.hd.a c;rw[qe];split
  ·next g=>
   have h1:=oI a.2 (Fp hm (show 0<t.sm by grind));have h2:=tO (a:=m) (show 0<t.sm by grind);grind
  ·have:=Ou (T:=T) (m:=m-t.sm) (c:=c) hT.tl (by grind);grind
theorem I3:∀ {T:List Tr} {m:Rat} {c:Int},yt T->0<=m->yd T m c<=1
 | [],_,_,_,_=>by show(0:Rat)<=1;decide
 |t::T,m,c,hT,hm=>by
  have a:=hT.hd.a c;rw[uS];split
  ·next g=>
   have h1:=oI a.2 (Fp (show(0:Rat)<=1 by decide) (show 0<t.sm by grind));have h2:=tO (a:=1) (show 0<t.sm by grind);grind
  ·exact I3 (T:=T) (m:=m-t.sm) (c:=c) hT.tl (by grind)
theorem JS (r:Rat) (k:Nat):∀ {l:List Pa},(∀p∈l,L p.q<=5)->L r<=k->Bi (l.map λp=>⟨p.c,p.q*r⟩)<=l.length*(6+k)
 | [],_,_=>ax _
 |p::l,h,hr=>by
  have a:=h p (aJ ..);have b:=JS r k (λp hp=>h p (aI _ hp)) hr;have c:=zK p.q r;rw[df,xi,ba,bl];show L (p.q*r)+1+_<=_;omega
theorem Ti:∀ {l:List Pa},(∀p∈l,L p.q<=5)->Bi l<=l.length*6
 | [],_=>ax _
 |p::l,h=>by
  have a:=h p (aJ ..);have b:=Ti λp hp=>h p (aI _ hp);rw[xi,ba,bl];omega
theorem JL (h0:0<D0) (hs:sz D0<=2) {Q l:Nat} (hl:sz Q+sz D<=l) (hD0:0<D):∀ {T:List Tr} {m:Rat},yt T->(∀t∈T,IT D0 t)->0<=m->m<=(Q:Rat)->Mu D m->D0∣D->Bi (re T m)<=T.length*(8*(l+11))
 | [],_,_,_,_,_,_,_=>ax _
 |t::T,m,hT,hb,hm,hQ,hD,hd=>by
  have bt:=hb t (aJ ..);have hq:∀p∈t.ps,L p.q<=5:=λp hp=>bt.Lq hT.hd h0 hs hp;have hn:=bt.n;rw[xP,ba,bl];split
  ·have h1:=hD.size hD0 hm hQ;have h2:=bt.Ls hT.hd h0 hs;have h3:=z5 m t.sm;have h4:=JS (m/t.sm) (l+5) hq oO;have h5:=aH (6+(l+5)) hn;show Bi (t.ps.map λp=>⟨p.c,p.q*(m/t.sm)⟩)<=_;omega
  ·have h1:=Ti hq;have h2:=hT.hd.s0;have h3:=JL h0 hs hl hD0 (T:=T) (m:=m-t.sm) hT.tl (λt ht=>hb t (aI _ ht)) (by grind) (by grind) (hD.sub (((bt.s hT.hd).1).dvd hd)) hd;rw[Cg];omega
theorem Jj (h0:0<D0) (hs:sz D0<=2) {r:Rat} {k:Nat} (hr:L r<=k):∀ {T:List Tr} {m:Rat},yt T->(∀t∈T,IT D0 t)->Bi (qz T m r)<=8*(k+11)
 | [],_,_,_=>ax _
 |t::T,m,hT,hb=>by
  have bt:=hb t (aJ ..);rw[xC];split
  ·have h2:=bt.Ls hT.hd h0 hs;have h3:=z5 r t.sm;have h4:=JS (r/t.sm) (k+5) (λp hp=>bt.Lq hT.hd h0 hs hp) oO;have h5:=aH (6+(k+5)) bt.n;show Bi (t.ps.map λp=>⟨p.c,p.q*(r/t.sm)⟩)<=_;omega
  ·exact Jj h0 hs hr hT.tl λt ht=>hb t (aI _ ht)
def QQ:List Tr->Rat
 | []=>0
 |t::T=>t.sm+QQ T
theorem JH:∀ {T:List Tr},yt T->0<=QQ T
 | [],_=>bP
 |t::T,hT=>by
  have a:=hT.hd.s0;have b:=JH hT.tl;show 0<=t.sm+QQ T;grind
theorem KR:∀ {T:List Tr} {m:Rat},yt T->md T m<T.length->m+rJ T m<=QQ T
 | [],_,_,h=>absurd h (aS _)
 |t::T,m,hT,h=>by
  rw[nM]at h;rw[u3];have b:=JH hT.tl;show _<=t.sm+QQ T;split
  ·grind
  ·next g=>
   rw[ah g,ba]at h;have:=KR (T:=T) (m:=m-t.sm) hT.tl oO;grind
theorem N9:∀ {T:List Tr} {m:Rat},yt T->0<=m->Sb T m<=QQ T
 | [],_,_,_=>bP
 |t::T,m,hT,hm=>by
  have hs:=hT.hd.s;have b:=JH hT.tl;rw[z7];show _<=t.sm+QQ T;split
  ·rw[<-hs,tO (by grind)];grind
  ·have:=N9 (T:=T) (m:=m-t.sm) hT.tl (by grind);grind
theorem PN:∀ {T:List Tr},yt T->(∀t∈T,IT D0 t)->QQ T<=((T.length*(8*AA):Nat):Rat)
 | [],_,_=>by show(0:Rat)<=_;rw[fX,fq];exact bP
 |t::T,hT,hb=>by
  have a:=((hb t (aJ ..)).s hT.hd).2;have b:=PN hT.tl λt ht=>hb t (aI _ ht);show t.sm+QQ T<=_;rw[ba,bl,dG,gQ];grind
theorem Kk:∀ {T:List Tr} {m:Rat},yt T->(∀t∈T,IT D0 t)->Mu D m->D0∣D->Mu D (rJ T m)
 | [],m,_,_,hD,_=>by
  show Mu D (0-(m-0));exact Mu.zero.sub (hD.sub Mu.zero)
 |t::T,m,hT,hb,hD,hd=>by
  have a:=(((hb t (aJ ..)).s hT.hd).1).dvd hd;rw[u3];split
  ·exact a.sub hD
  ·exact Kk hT.tl (λt ht=>hb t (aI _ ht)) (hD.sub a) hd
end
structure Kh (D0:Nat) (y:Ly):Prop where
 n:y.n<=7
 rl:y.rk.length<=8
 pn:y.pl.length<=2
 ml:∀p∈y.pl,p.mem.length<=7
 ll:∀p∈y.pl,p.ld.length<=4
 rm:∀t∈y.rk,IT D0 t
 lm:∀p∈y.pl,∀t∈p.ld,IT D0 t
structure NJ (D0 D:Nat) (m:Rat):Prop where
 d0:0<D0
 s0:sz D0<=2
 Dp:0<D
 dv:D0∣D
 nn:0<=m
 le:m<=(QX:Rat)
 mu:Mu D m
 zz:200*(sz D+100)<=MX
theorem Le {f:Nat->Rat} {b:Rat}:∀ {l:List Nat},(∀a∈l,f a<=b)->ns f l<=(l.length:Rat)*b
 | [],_=>by show(0:Rat)<=((0:Nat):Rat)*b;rw[show((0:Nat):Rat)=0 from rfl];grind
 |a::l,h=>by
  have h1:=h a (aJ ..);have h2:=Le λa ha=>h a (aI _ ha);show f a+ns f l<=_;rw[ba,gQ,show((1:Nat):Rat)=1 from rfl];grind
theorem yC {a b:Nat} (h:a<=b):(a:Rat)<=(b:Rat):=by
 rw[<-dj,<-dj,iM];omega
theorem Vw {f:Nat->Rat} {b:Rat} (hb:0<=b) {l:List Nat} (hl:l.length<=7) (h:∀a∈l,f a<=b):ns f l<=7*b:=by
 have h1:=Le h;have h2:=yC hl;rw[show((7:Nat):Rat)=7 from rfl]at h2;have:=oI h2 hb;grind
theorem Jm {f:Nat->Rat} {k:Nat}:∀ {l:List Nat},(∀a∈l,L (f a)<=k)->GP l f<=l.length*(k+1)
 | [],_=>ax _
 |a::l,h=>by
  have h1:=h a (aJ ..);have h2:=Jm λa ha=>h a (aI _ ha);show L (f a)+1+GP l f<=_;rw[ba,bl];omega
section
variable {D0 D : Nat} {y : Ly} {m : Rat}
theorem M2 (y:Ly) (m:Rat) (i k:Nat):(sT y m i).c k=qW y (lJ y m) k+ns (λp=>uB p.ld (PS y m p) k) (y.pl.take i):=Cf (L:=λp=>re p.ld (PS y m p)) k _ _
theorem Jp (y:Ly) (m:Rat) (i:Nat):(sT y m i).r=0+ns (λp=>uB p.ld (PS y m p) (-1)) (y.pl.take i):=JX (L:=λp=>re p.ld (PS y m p)) _ _
theorem M9 (y:Ly) (m:Rat) (i k:Nat):(sa y m i).c k=qW y (mr y m) k+ns (λp=>RS y m p*yd p.ld (PS y m p) k) (y.pl.take i):=by
 have h:=Cf (L:=λp=>qz p.ld (PS y m p) (RS y m p)) k (y.pl.take i) ⟨qW y (mr y m),0⟩;have e:ns (λp=>rQ k (qz p.ld (PS y m p) (RS y m p))) (y.pl.take i)=ns (λp=>RS y m p*yd p.ld (PS y m p) k) (y.pl.take i):=nO λp _=>CM _ _ _ _;rw[e]at h;exact h
theorem Jg (y:Ly) (m:Rat) (i:Nat):(sa y m i).r=0+ns (λp=>RS y m p*yd p.ld (PS y m p) (-1)) (y.pl.take i):=by
 have h:=JX (L:=λp=>qz p.ld (PS y m p) (RS y m p)) (y.pl.take i) ⟨qW y (mr y m),0⟩;have e:ns (λp=>rQ (-1) (qz p.ld (PS y m p) (RS y m p))) (y.pl.take i)=ns (λp=>RS y m p*yd p.ld (PS y m p) (-1)) (y.pl.take i):=nO λp _=>CM _ _ _ _;rw[e]at h;exact h
structure Xv (y:Ly) (m:Rat) (D E:Nat):Prop where
 pos:0<E
 ez:sz E<=16
 rt:∀k,Mu E (mr y m k)
 gr:∀k,Mu (D*E) (lJ y m k)
 ps:∀p∈y.pl,Mu (D*E) (PS y m p)/\Mu E (RS y m p)
 pl:∀p∈y.pl,∀c,Mu E (RS y m p*yd p.ld (PS y m p) c)/\Mu (D*E) (uB p.ld (PS y m p) c)
theorem Gk (hy:pE y) (hb:Kh D0 y) (hm:NJ D0 D m):∃E,Xv y m D E:=by
 obtain⟨Z0,z1,z2,z3,z4⟩:=JW hm.d0 hm.s0 hy.rk hb.rm hm.nn hm.mu hm.dv;have hg:∀k,Mu (D*Z0) (lJ y m k):=λk=>by rw[qA];exact z4 _
 have hr:∀k,Mu Z0 (mr y m k):=λk=>by rw[tN];exact z3 _
 have hP:∀p,Mu (D*Z0) (PS y m p):=λp=>by unfold PS;rw[oR];exact Mu.ns λa _=>hg a
 have hR:∀p,Mu Z0 (RS y m p):=λp=>by unfold RS;rw[oR];exact Mu.ns λa _=>hr a
 have key:∀l:List Pl,(∀p∈l,p∈y.pl)->∃Z,0<Z/\sz Z<=1+5*l.length/\∀p∈l,∀c,Mu Z (yd p.ld (PS y m p) c)/\Mu (D*Z0*Z) (uB p.ld (PS y m p) c):=by
  intro l;induction l with
  |nil=>exact λ_=>⟨1,dD,by rw[Fv];exact aB _,λ_ h=>by cases h⟩
  |cons p l ih=>
   intro h;obtain⟨Z,a1,a2,a3⟩:=ih λq hq=>h q (aI _ hq);have hp:=h p (aJ ..);obtain⟨Z2,b1,b2,b3,b4⟩:=JW hm.d0 hm.s0 (D:=D*Z0) (hy.ld p hp) (hb.lm p hp) (sN hy hm.nn p) (hP p) (eo hm.dv ⟨Z0,rfl⟩);refine⟨Z2*Z,dH b1 a1,?_,λq hq c=> ?_⟩
   ·have:=qR Z2 Z;rw[ba];omega
   ·rcases bC.1 hq with rfl|hq
    ·exact⟨(b3 c).xp Z,by rw[<-bf];exact(b4 c).xp Z⟩
    ·obtain⟨c1,c2⟩:=a3 q hq c;exact⟨c1.dvd ⟨Z2,bF _ _⟩,c2.dvd ⟨Z2,by rw[bF Z2 Z,<-bf]⟩⟩
 obtain⟨Z,a1,a2,a3⟩:=key y.pl λ_ h=>h;have hpn:=hb.pn;refine⟨Z0*Z,dH z1 a1,?_,λk=>(hr k).xp Z,λk=> ?_,λp _=>⟨?_,(hR p).xp Z⟩,λp hp c=> ?_⟩
 ·have:=qR Z0 Z;omega
 ·rw[<-bf];exact(hg k).xp Z
 ·rw[<-bf];exact(hP p).xp Z
 ·obtain⟨c1,c2⟩:=a3 p hp c;exact⟨(hR p).mul c1,by rw[<-bf];exact c2⟩
theorem Cj (hy:pE y) (hm:0<=m) (k:Nat):lJ y m k<=m:=by rw[qA];exact Ou hy.rk hm
theorem CT (hy:pE y) (hm:0<=m) (k:Nat):mr y m k<=1:=by rw[tN];exact I3 hy.rk hm
theorem P9 (hy:pE y) (hb:Kh D0 y) (hm:0<=m) {p:Pl} (hp:p∈y.pl):PS y m p<=7*m:=by
 unfold PS;rw[oR];exact Vw hm (hb.ml p hp) λa _=>Cj hy hm a
theorem NQ (hy:pE y) (hb:Kh D0 y) (hm:0<=m) {p:Pl} (hp:p∈y.pl):RS y m p<=7:=by
 have:=Vw (f:=mr y m) (b:=1) dD (hb.ml p hp) λa _=>CT hy hm a;unfold RS;rw[oR];grind
theorem Vh {f:Pl->Rat} {b:Rat} (h0:0<=b):∀ {l:List Pl},l.length<=2->(∀a∈l,f a<=b)->ns f l<=2*b
 | [],_,_=>by show(0:Rat)<=_;grind
 | [p],_,h=>by
  have h1:=h p (aJ ..);show f p+0<=_;grind
 | [p,q],_,h=>by
  have h1:=h p (aJ ..);have h2:=h q (aI _ (aJ ..));show f p+(f q+0)<=_;grind
 |_::_::_::_,hl,_=>by simp only[ba]at hl;omega
theorem Kw {f:Nat->Rat} {b:Rat} (k:Nat) (h0:0<=b) (h:∀k,0<=f k/\f k<=b):0<=qW y f k/\qW y f k<=b:=by
 rw[pF];split
 ·exact⟨bP,h0⟩
 ·exact h k
theorem zr {f:Nat->Rat} (k:Nat) (h:∀k,Mu D (f k)):Mu D (qW y f k):=by
 rw[pF];split
 ·exact Mu.zero
 ·exact h k
structure XG (y:Ly) (m:Rat) (l:Nat):Prop where
 lm:L m<=l
 gr:∀k,L (lJ y m k)<=l
 rt:∀k,L (mr y m k)<=20
 ps:∀p∈y.pl,L (PS y m p)<=l
 rs:∀p∈y.pl,L (RS y m p)<=20
 dl:∀i k,L ((sT y m i).c k)<=l
 dr:∀i,L (sT y m i).r<=l
 sl:∀i k,L ((sa y m i).c k)<=20
 sr:∀i,L (sa y m i).r<=20
theorem HV:((QX:Nat):Rat)=67108864:=rfl
theorem MQ (hy:pE y) (hb:Kh D0 y) (hm:NJ D0 D m):XG y m (sz D+20):=by
 obtain⟨E,e⟩:=Gk hy hb hm;have hDE:=qR D E;have hE:=e.ez;have hle:=hm.le;have hDE0:0<D*E:=dH hm.Dp e.pos;obtain⟨_,_,s1,s7,sQ,s7Q,sB⟩:=Ns;have h0:=hm.nn;rw[HV]at hle;have hk:∀ {a b:Rat},0<=a->a<=7*m->a<=((469762048:Nat):Rat):=λ_ h=>by
  rw[show((469762048:Nat):Rat)=469762048 from rfl];grind
 have hsub:∀i,∀p∈y.pl.take i,p∈y.pl:=λi p hp=>gP hp;have hlen:∀i,(y.pl.take i).length<=2:=λi=>by have:=hb.pn;rw[cG];omega
 have hpy:∀p∈y.pl,∀c,0<=uB p.ld (PS y m p) c/\uB p.ld (PS y m p) c<=7*m:=λp hp c=>⟨Ew (hy.ld p hp) (sN hy h0 p),eO (Ou (hy.ld p hp) (sN hy h0 p)) (P9 hy hb h0 hp)⟩;have hsp:∀p∈y.pl,∀c,0<=RS y m p*yd p.ld (PS y m p) c/\RS y m p*yd p.ld (PS y m p) c<=7:=λp hp c=>by
  have a1:=IC (c:=c) (hy.ld p hp) (sN hy h0 p);have a2:=I3 (c:=c) (hy.ld p hp) (sN hy h0 p);have a3:=Ei hy h0 p;have a4:=NQ hy hb h0 hp;have a5:=oI a2 a3;exact⟨nt a3 a1,by grind⟩
 have bpy:∀i (c:Int),0<=ns (λp=>uB p.ld (PS y m p) c) (y.pl.take i)/\ns (λp=>uB p.ld (PS y m p) c) (y.pl.take i)<=2*(7*m):=λi c=>⟨Ak λp hp=>(hpy p (hsub i p hp) c).1,Vh (by grind) (hlen i) λp hp=>(hpy p (hsub i p hp) c).2⟩;have bsp:∀i (c:Int),0<=ns (λp=>RS y m p*yd p.ld (PS y m p) c) (y.pl.take i)/\ns (λp=>RS y m p*yd p.ld (PS y m p) c) (y.pl.take i)<=2*7:=λi c=>⟨Ak λp hp=>(hsp p (hsub i p hp) c).1,Vh dD (hlen i) λp hp=>(hsp p (hsub i p hp) c).2⟩;have b31:∀ {a:Rat},a<=15*m->a<=((2147483648:Nat):Rat):=λh=>by
  rw[show((2147483648:Nat):Rat)=2147483648 from rfl];grind
 refine⟨?_,λk=> ?_,λk=> ?_,λp hp=> ?_,λp hp=> ?_,λi k=> ?_,λi=> ?_,λi k=> ?_,λi=> ?_⟩
 ·have:=hm.mu.size hm.Dp h0 hm.le;omega
 ·have:=(e.gr k).size hDE0 (zF hy h0) (eO (Cj hy h0 k) hm.le);omega
 ·have:=(e.rt k).size e.pos (zB hy h0) (B:=1) (CT hy h0 k);omega
 ·have:=(e.ps p hp).1.size hDE0 (sN hy h0 p) (B:=469762048) (hk (b:=0) (sN hy h0 p) (P9 hy hb h0 hp));omega
 ·have:=(e.ps p hp).2.size e.pos (Ei hy h0 p) (B:=7) (NQ hy hb h0 hp);omega
 ·have a:=Kw (y:=y) (f:=lJ y m) k h0 λk=>⟨zF hy h0,Cj hy h0 k⟩;have b:=bpy i k;rw[M2];have:=((zr (y:=y) k e.gr).add (Mu.ns λp hp=>(e.pl p (hsub i p hp) k).2)).size hDE0 (by grind) (B:=2147483648) (b31 (by grind));omega
 ·have b:=bpy i (-1);rw[Jp];have:=(Mu.zero.add (Mu.ns λp hp=>(e.pl p (hsub i p hp) (-1)).2)).size hDE0 (by grind) (B:=2147483648) (b31 (by grind));omega
 ·have a:=Kw (y:=y) (f:=mr y m) (b:=1) k dD λk=>⟨zB hy h0,CT hy h0 k⟩;have b:=bsp i k;rw[M9];have:=((zr (y:=y) k e.rt).add (Mu.ns λp hp=>(e.pl p (hsub i p hp) k).1)).size e.pos (by grind) (B:=QX) (by rw[HV];grind);omega
 ·have b:=bsp i (-1);rw[Jg];have:=(Mu.zero.add (Mu.ns λp hp=>(e.pl p (hsub i p hp) (-1)).1)).size e.pos (by grind) (B:=QX) (by rw[HV];grind);omega
theorem SG {n:Nat} {T:List Tr} (hT:yt T) (hp:∀t∈T,∀p∈t.ps,yP n p):JA n T:=⟨hp,λt ht=>(hT t ht).s0⟩
theorem VR (hy:pE y) (hb:Kh D0 y) (hm:NJ D0 D m) {E:Nat} (e:Xv y m D E) {p:Pl} (hp:p∈y.pl):Bi (re p.ld (PS y m p))<=32*(sz D+31):=by
 obtain⟨_,_,s1,s7,sQ,s7Q,sB⟩:=Ns;have hDE:=qR D E;have hE:=e.ez;have hle:=hm.le;rw[HV]at hle;have h1:=JL hm.d0 hm.s0 (Q:=469762048) (D:=D*E) (l:=sz D+20) oO (dH hm.Dp e.pos) (hy.ld p hp) (hb.lm p hp) (sN hy hm.nn p) (by
  have:=P9 hy hb hm.nn hp;rw[show((469762048:Nat):Rat)=469762048 from rfl];grind) (e.ps p hp).1 (eo hm.dv ⟨E,rfl⟩)
 have h2:=aH (8*(sz D+20+11)) (hb.ll p hp);omega
theorem SM (hy:pE y) (hb:Kh D0 y) (hm:NJ D0 D m):Oy y m:=by
 obtain⟨E,e⟩:=Gk hy hb hm;have l:=MQ hy hb hm;have hsz:=hm.zz;have hL0:=n8;have hsT:=AI hy.rk hb.rm hm.d0 hm.s0;have hrl:=hb.rl;have hlm:=l.lm;have hwr:Bi (re y.rk m)<=64*(sz D+31):=by
  have h1:=JL hm.d0 hm.s0 (Q:=QX) (D:=D) (l:=sz D+20) (by have:=Ns.2.2.2.2.1;omega) hm.Dp hy.rk hb.rm hm.nn hm.le hm.mu hm.dv;have h2:=aH (8*(sz D+20+11)) hb.rl;omega
 have hsl:∀p∈y.pl,xX p.ld<=24:=λp hp=>by
  have h1:=AI (hy.ld p hp) (hb.lm p hp) hm.d0 hm.s0;have:=hb.ll p hp;omega
 refine⟨by have:=hb.n;omega,SG hy.rk hy.rp,hm.nn,oO,⟨λk _=> ?_,?_⟩,λt ht p hp=> ?_,hy.mn,λp hp=>SG (hy.ld p hp) (hy.lp p hp),λp hp=> ?_,λp hp=>sN hy hm.nn p,λp hp=> ?_,λi hi=> ?_,λp hp t ht q hq=> ?_⟩
 ·show L (0:Rat)+_<=MX;omega
 ·show L (0:Rat)+_<=MX;omega
 ·have:=(hb.rm t ht).Lq (hy.rk t ht) hm.d0 hm.s0 hp;omega
 ·have h1:=Jm (l:=p.mem) (f:=lJ y m) λa _=>l.gr a;have h2:=aH (sz D+20+1) (hb.ml p hp);omega
 ·have h1:=l.ps p hp;have:=hsl p hp;show 2*(L (PS y m p)+xX p.ld+2)<=MX;omega
 ·have hp:y.pl.getD i wC∈y.pl:=kH _ _ _ hi;have h1:=VR hy hb hm e hp;have h3:=l.dr i;refine⟨λk _=> ?_,?_⟩
  ·have h2:=l.dl i k;show _+Bi (re (y.pl.getD i wC).ld (PS y m (y.pl.getD i wC)))<=MX;omega
  ·show _+Bi (re (y.pl.getD i wC).ld (PS y m (y.pl.getD i wC)))<=MX;omega
 ·have h1:=l.ps p hp;have:=hsl p hp;have:=(hb.lm p hp t ht).Lq (hy.ld p hp t ht) hm.d0 hm.s0 hq;show _+L (PS y m p)+_+2<=MX;omega
theorem Ll (hy:pE y) (hb:Kh D0 y) (hm:NJ D0 D m):ID y m:=by
 have l:=MQ hy hb hm;have hsz:=hm.zz;have hL0:=n8;have hL1:=Hm;have hsT:=AI hy.rk hb.rm hm.d0 hm.s0;have hrl:=hb.rl;have hwr:=Jj hm.d0 hm.s0 (r:=1) (k:=1) (m:=m) oO hy.rk hb.rm;have hsl:∀p∈y.pl,xX p.ld<=24:=λp hp=>by
  have h1:=AI (hy.ld p hp) (hb.lm p hp) hm.d0 hm.s0;have:=hb.ll p hp;omega
 refine⟨SM hy hb hm,⟨λk _=> ?_,?_⟩,λt ht p hp=> ?_,λp hp=> ?_,λi hi=> ?_,λp hp=> ?_,λp hp t ht q hq=> ?_⟩
 ·show L (0:Rat)+_<=MX;omega
 ·show L (0:Rat)+_<=MX;omega
 ·have:=(hb.rm t ht).Lq (hy.rk t ht) hm.d0 hm.s0 hp;omega
 ·have h1:=Jm (l:=p.mem) (f:=mr y m) λa _=>l.rt a;have h2:=aH (20+1) (hb.ml p hp);omega
 ·have hp:y.pl.getD i wC∈y.pl:=kH _ _ _ hi;have h1:=Jj hm.d0 hm.s0 (r:=RS y m (y.pl.getD i wC)) (k:=20) (m:=PS y m (y.pl.getD i wC)) (l.rs _ hp) (hy.ld _ hp) (hb.lm _ hp);have h3:=l.sr i;refine⟨λk _=> ?_,?_⟩
  ·have h2:=l.sl i k;show _+Bi (qz (y.pl.getD i wC).ld (PS y m (y.pl.getD i wC)) (RS y m (y.pl.getD i wC)))<=MX;omega
  ·show _+Bi (qz (y.pl.getD i wC).ld (PS y m (y.pl.getD i wC)) (RS y m (y.pl.getD i wC)))<=MX;omega
 ·have h1:=l.rs p hp;have:=hsl p hp;show L (RS y m p)+_<=MX;omega
 ·have h1:=l.rs p hp;have:=hsl p hp;have:=(hb.lm p hp t ht).Lq (hy.ld p hp t ht) hm.d0 hm.s0 hq;show _+L (RS y m p)+_+2<=MX;omega
end
section
variable {D0 D : Nat} {y : Ly} {m : Rat}
theorem Tg {T:List Tr} (hT:yt T) (hb:∀t∈T,IT D0 t) (h0:0<D0) (hs:sz D0<=2) (m:Rat):L (rJ T m)<=L m+xX T+8:=by
 have h1:=GF T m (tG T m);have h2:=tV (T.getD (md T m) r6).sm (rz T m);have h3:L (T.getD (md T m) r6).sm<=5:=by
  by_cases g:md T m<T.length
  ·have hm:=kH T _ r6 g;exact(hb _ hm).Ls (hT _ hm) h0 hs
  ·rw[ai,dg oO];have:=n8;show L (0:Rat)<=5;omega
 show L ((T.getD (md T m) r6).sm-rz T m)<=_;have h4:L (rz T m)<=L m+xX T+2:=h1;omega
theorem S6 (hy:pE y) (hb:Kh D0 y) (hm:NJ D0 D m):(∀p∈y.pl,L (rJ p.ld (PS y m p))<=sz D+60/\L (x6 y m p)<=sz D+90)/\∀i,L (wK y m i)<=sz D+90:=by
 have l:=MQ hy hb hm;have hlm:=l.lm;have h1:∀p∈y.pl,L (rJ p.ld (PS y m p))<=sz D+60/\L (x6 y m p)<=sz D+90:=λp hp=>by
  have a:=Tg (hy.ld p hp) (hb.lm p hp) hm.d0 hm.s0 (PS y m p);have b:=AI (hy.ld p hp) (hb.lm p hp) hm.d0 hm.s0;have c:=hb.ll p hp;have d:=l.ps p hp;have e:=l.rs p hp;have f:L (x6 y m p)<=_:=z5 (rJ p.ld (PS y m p)) (RS y m p);exact⟨oO,oO⟩
 refine⟨h1,λi=> ?_⟩;rcases(CZ y m (y.pl.take i) (rJ y.rk m)).2.2 with e|⟨p,hp,_,e⟩
 ·have a:=Tg hy.rk hb.rm hm.d0 hm.s0 m;have b:=AI hy.rk hb.rm hm.d0 hm.s0;have c:=hb.rl;show L ((y.pl.take i).foldl (tD y m) (rJ y.rk m))<=_;rw[e];omega
 ·show L ((y.pl.take i).foldl (tD y m) (rJ y.rk m))<=_;rw[e];exact(h1 p (gP hp)).2
theorem VN (hy:pE y) (hb:Kh D0 y) (hm:NJ D0 D m):Up y m:=by
 obtain⟨h1,h2⟩:=S6 hy hb hm;have l:=MQ hy hb hm;have:=hm.zz;refine⟨Ll hy hb hm,λp hp=> ?_,λi hi=> ?_⟩
 ·have a:=(h1 p hp).1;have b:=l.rs p hp;show L (rJ p.ld (PS y m p))+L (RS y m p)<=MX;omega
 ·have a:=h2 i;have b:=(h1 _ (kH y.pl i wC hi)).2;omega
theorem Tq (hy:pE y) (hb:Kh D0 y) (hm:NJ D0 D m) (hf:md y.rk m<y.rk.length):∃D',0<D'/\D∣D'/\sz D'<=sz D+30/\Mu D' (zX y m)/\0<=zX y m/\zX y m<=(QX:Rat):=by
 obtain⟨E,e⟩:=Gk hy hb hm;have hp:=Gg hf;have h0:=hm.nn;have hle:zX y m<=(QX:Rat):=by
  have a:=(uP y m).1;have b:=KR hy.rk hf;have c:=PN hy.rk hb.rm;have d:=yC (show y.rk.length*(8*AA)<=QX by have:=hb.rl;show y.rk.length*524288<=67108864;omega);show m+Ce y m<=_;grind
 have hnn:0<=zX y m:=by show 0<=m+Ce y m;grind
 rcases(uP y m).2.2 with g|⟨p,hp',hc,g⟩
 ·refine⟨D,hm.Dp,⟨1,(eC _).symm⟩,oO,?_,hnn,hle⟩;show Mu D (m+Ce y m);rw[g];exact hm.mu.add (Kk hy.rk hb.rm hm.mu hm.dv)
 ·obtain⟨r,r1,r2,r3⟩:=(e.ps p hp').2.int e.pos (Ei hy h0 p) (B:=7) (NQ hy hb h0 hp');have hR:0<RS y m p:=hc.2;refine⟨D*r,dH hm.Dp (r3 hR),⟨r,rfl⟩,?_,?_,hnn,hle⟩
  ·have:=qR D r;have:=By r2;have:=qR 7 E;have:=Ns.2.2.2.1;have:=e.ez;omega
  ·show Mu (D*r) (m+Ce y m);rw[g];exact(hm.mu.xp r).add (Mu.quo (Kk (hy.ld p hp') (hb.lm p hp') (e.ps p hp').1 (eo hm.dv ⟨E,rfl⟩)) (wR hR) r1)
theorem Wn (hy:pE y) (hb:Kh D0 y) (m0:Rat):∀(f:Nat) (m:Rat) (D:Nat),NJ D0 D m->wn y m<f->200*(sz D+30*f+100)<=MX->VY y m0 f m
 |0,_,_,_,h,_=>absurd h (aS _)
 |f+1,m,D,hm,hmu,hs=>by
  obtain⟨h1,h2⟩:=S6 hy hb hm;have l:=MQ hy hb hm;refine⟨VN hy hb hm,λhf=> ?_⟩;obtain⟨D',d1,d2,d3,d4,d5,d6⟩:=Tq hy hb hm hf;have hm':NJ D0 D' (zX y m):=⟨hm.d0,hm.s0,d1,eo hm.dv d2,d5,d6,d4,oO⟩;have hst:wn y (zX y m)<wn y m:=Iy hy hm.nn hf;refine⟨?_,Ll hy hb hm',λ_=>Wn hy hb m0 f _ D' hm' oO oO⟩;have:=h2 y.pl.length;have:=l.lm;omega
theorem Ow (hy:pE y) (hb:Kh D0 y) (m0:Rat):∀(f:Nat) (m:Rat) (D:Nat),NJ D0 D m->200*(sz D+30*f+100)<=MX->∀z,GU y m0 f m=some z->∃D',0<D'/\D∣D'/\sz D'<=sz D+30*f/\Mu D' z/\0<=z/\z<=(QX:Rat)
 |0,_,_,_,_,_,h=>by cases h
 |f+1,m,D,hm,hs,z,h=>by
  unfold GU at h;by_cases hf:md y.rk m<y.rk.length
  ·obtain⟨D',d1,d2,d3,d4,d5,d6⟩:=Tq hy hb hm hf;rw[aj hf]at h;split at h
   ·obtain⟨D2,e1,e2,e3,e4⟩:=Ow hy hb m0 f _ D' ⟨hm.d0,hm.s0,d1,eo hm.dv d2,d5,d6,d4,oO⟩ oO z h;exact⟨D2,e1,eo d2 e2,oO,e4⟩
   ·obtain rfl:=bN h;exact⟨D',d1,d2,oO,d4,d5,d6⟩
  ·rw[ah hf]at h;cases h
theorem OV (hb:Kh D0 y) (m:Rat):wn y m<=16:=by
 have h1:=hb.rl;have h2:∀l:List Pl,(∀p∈l,p.ld.length<=4)->(l.map λp=>p.ld.length-md p.ld (PS y m p)).sum<=4*l.length:=λl=>by
  induction l with
  |nil=>exact λ_=>aB _
  |cons p l ih=>
   intro h;have a:=h p (aJ ..);have b:=ih λp hp=>h p (aI _ hp);rw[df,iC,ba];omega
 have h3:=h2 y.pl hb.ll;have h4:=hb.pn;unfold wn;omega
end
theorem Al {f:Nat->Rat} {k:Nat}:∀ {n:Nat},(∀i,i<n->L (f i)<=k)->L (kg f n)<=n*(k+1)+1
 |0,_=>by rw[show kg f 0=0 from rfl,n8];omega
 |n+1,h=>by
  have a:=Al (n:=n) λi hi=>h i oO;have b:=h n oO;have c:=Bc (kg f n) (f n);show L (kg f n+f n)<=_;rw[bl];omega
theorem KM {f:Nat->Rat} {K:Nat}:∀ {n:Nat},(∀i,i<n->L (f i)<=K)->∃D:Nat,0<D/\sz D<=n*K+1/\∀i,i<n->Mu D (f i)
 |0,_=>⟨1,dD,by rw[Fv];omega,λ_ h=>absurd h (aS _)⟩
 |n+1,h=>by
  obtain⟨D,h1,h2,h3⟩:=KM (n:=n) λi hi=>h i oO;have hn:=h n oO;have hd:sz (f n).den<=K:=dt (to _) hn;refine⟨D*(f n).den,dH h1 (f n).den_pos,?_,λi hi=> ?_⟩
  ·have:=qR D (f n).den;rw[bl];omega
  ·by_cases e:i=n
   ·rw[e];exact(Mu.self _).dvd ⟨D,bF _ _⟩
   ·exact(h3 i oO).xp _
theorem TI {q:Rat} (h:0<=q):q<=((q.num.natAbs:Nat):Rat):=by
 obtain⟨a,ha⟩:∃a:Rat,a=(q.den:Rat):=⟨_,rfl⟩;have h1:(1:Rat)<=a:=by rw[ha];exact yC q.den_pos
 have h2:q*a=(q.num:Rat):=by
  obtain⟨z,hz⟩:=Mu.self q;have h3:=Rat.div_mul_cancel (a:=(q.num:Rat)) (b:=(q.den:Rat)) (by rw[<-ha];grind);rw[<-gF,eu]at h3;rw[ha];exact h3
 have h4:=oI h1 h;have h5:0<=q.num:=Rat.num_nonneg.2 h;rw[<-dj,Int.natAbs_of_nonneg h5,<-h2];grind
theorem whole {q:Rat} {E K:Nat} (hq:0<q) (hE:0<E) (h:Mu E q) (hL:L q<=K):∃r:Nat,q*(E:Rat)=(r:Rat)/\0<r/\sz r<=K+sz E:=by
 obtain⟨r,r1,r2,r3⟩:=h.int hE (dm hq) (TI (dm hq));refine⟨r,r1,r3 hq,?_⟩;have h1:=By r2;have h2:=qR q.num.natAbs E;have h3:sz q.num.natAbs<=L q:=tU q;omega
structure wP (D0:Nat) (g:mT) (Y:Nat->Ly):Prop where
 d0:0<D0
 s0:sz D0<=2
 n0:0<g.n
 n:g.n<=8
 dn:g.ds.length<=6
 ln:∀d,d<g.ds.length->lX g d<=4
 ly:∀i,i<g.n->Kh D0 (Y i)
 cash:∀i,i<g.n->Mu D0 (yJ g i)/\yJ g i<=(AA:Rat)
 W:∀d,d<g.ds.length->0<=(g.d d).W/\Mu D0 (g.d d).W/\(g.d d).W<=(AA:Rat)
 tot:∀i,i<g.n->L (Y i).tot<=20
structure z8 (D0 D:Nat) (g:mT) (x:Nat->Rat):Prop where
 Dp:0<D
 dv:D0∣D
 mu:∀i,i<g.n->Mu D (x i)
 nn:∀i,i<g.n->0<=x i
 le:∀i,i<g.n->x i<=(QX:Rat)
 zz:200*(sz D+700)<=MX
section
variable {D0 D : Nat} {g : mT} {Y : Nat → Ly} {B : Nat → Nat → Bool} {x d : Nat → Rat}
theorem z8.mo (X:z8 D0 D g x) (b:wP D0 g Y) {i:Nat} (hi:i<g.n):NJ D0 D (x i):=⟨b.d0,b.s0,X.Dp,X.dv,X.nn i hi,X.le i hi,X.mu i hi,by have:=X.zz;omega⟩
theorem XL (G:nK g Y B) (b:wP D0 g Y) {i:Nat} (hi:i<g.n):g.cn i<=7:=by have:=(b.ly i hi).n;rw[G.yn i hi]at this;exact this
theorem HP (G:nK g Y B) (b:wP D0 g Y) (X:z8 D0 D g x):(∀i,i<g.n->∀c,L (lH Y x i c)<=sz D+20/\L (oJ Y x i c)<=20):=λi hi c=>by
 have l:=MQ (G.ly i hi) (b.ly i hi) (X.mo b hi);exact⟨l.dl _ c,l.sl _ c⟩
theorem WL (b:wP D0 g Y) {d:Nat} (hd:d<g.ds.length):L (g.d d).W<=5:=by
 obtain⟨h1,h2,h3⟩:=b.W d hd;have:=h2.size b.d0 h1 h3;have:=Ns.1;have:=b.s0;omega
theorem Rf (q:Rat):L (pQ q)<=L q+1:=Hf q
theorem SI (G:nK g Y B) (b:wP D0 g Y) (X:z8 D0 D g x) {i:Nat} (hi:i<g.n):∃E,0<E/\sz E<=16/\(∀c,Mu E (oJ Y x i c))/\∀c,Mu (D*E) (lH Y x i c):=by
 obtain⟨E,e⟩:=Gk (G.ly i hi) (b.ly i hi) (X.mo b hi);refine⟨E,e.pos,e.ez,λc=> ?_,λc=> ?_⟩
 ·show Mu E (sC (Y i) (x i) c);rw[Hy];exact(zr c e.rt).add (Mu.ns λp hp=>(e.pl p hp c).1)
 ·show Mu (D*E) (dC (Y i) (x i) c);rw[yQ];exact(zr c e.gr).add (Mu.ns λp hp=>(e.pl p hp c).2)
theorem TU (G:nK g Y B) (b:wP D0 g Y) (X:z8 D0 D g x):∃E,0<E/\sz E<=129/\∀i,i<g.n->(∀c,Mu E (oJ Y x i c))/\∀c,Mu (D*E) (lH Y x i c):=by
 have key:∀n,n<=g.n->∃E,0<E/\sz E<=16*n+1/\∀i,i<n->(∀c,Mu E (oJ Y x i c))/\∀c,Mu (D*E) (lH Y x i c):=by
  intro n;induction n with
  |zero=>exact λ_=>⟨1,dD,by rw[Fv];omega,λ_ h=>absurd h (aS _)⟩
  |succ n ih=>
   intro hn;obtain⟨E,h1,h2,h3⟩:=ih oO;obtain⟨F,f1,f2,f3,f4⟩:=SI G b X (i:=n) oO;refine⟨E*F,dH h1 f1,by have:=qR E F;omega,λi hi=> ?_⟩;by_cases e:i=n
   ·rw[e];exact⟨λc=>(f3 c).dvd ⟨E,bF _ _⟩,λc=>(f4 c).dvd ⟨E,by rw[bF E F,bf]⟩⟩
   ·obtain⟨a,c⟩:=h3 i oO;exact⟨λk=>(a k).xp F,λk=>by rw[<-bf];exact(c k).xp F⟩
 obtain⟨E,h1,h2,h3⟩:=key g.n (aB _);have:=b.n;exact⟨E,h1,oO,h3⟩
theorem Ff {q:Nat->Rat} {k n:Nat} (hn:n<=4) (h:∀j,j<n->L (q j)<=k):L (oc q n)<=4*(k+2)+1:=by
 have h1:=Al (f:=λj=>pQ (q j)) (k:=k+1) (n:=n) λj hj=>by have:=h j hj;have:=Rf (q j);omega
 have h2:=aH (k+1+1) hn;show L (kg (λj=>pQ (q j)) n)<=_;omega
theorem Mg (G:nK g Y B) (b:wP D0 g Y) (X:z8 D0 D g x) {i j:Nat} (hi:i<g.n) (hj:j<g.n):L (qu g Y B x j i)<=17:=by
 obtain⟨E,h1,h2,h3,_⟩:=SI G b X hi;have hM:=ya (B:=B) G X.nn;have e:qu g Y B x j i=Hb g B (lH Y x) (oJ Y x) j i:=KG G.ho G.lg hi j;have how:∀d,d<g.ds.length->∀k,Mu E (rj g (oJ Y x) d i k):=λd hd k=>by
  unfold rj;split
  ·next g1=>rw[g1];exact h3 _
  ·exact Mu.zero
 have hov:∀d,d<g.ds.length->∀k,k<=lX g d->Mu E (xU (g.d d).W (qD g (lH Y x) d) (rj g (oJ Y x) d i) k):=λd hd k hk=>by
  rw[tL _ _ λj hj=>CG G (Hd G X.nn) hd i oO];have hs:Mu E (kg (rj g (oJ Y x) d i) k):=Mu.sum λj _=>how d hd j;split
  ·rw[dW];exact hs
  ·rw[fO];exact Mu.zero
 have hmu:Mu E (qu g Y B x j i):=by
  rw[e];unfold Hb oZ;refine Mu.add (Mu.sum λc _=> ?_) (Mu.sum λd hd=> ?_)
  ·split
   ·exact h3 c
   ·exact Mu.zero
  ·unfold oa;refine Mu.add (Mu.sum λk hk=> ?_) ?_
   ·split
    ·show Mu E (xU _ _ _ (k+1)-xU _ _ _ k);exact(hov d hd (k+1) hk).sub (hov d hd k oO)
    ·exact Mu.zero
   ·split
    ·unfold DE;rw[uf];exact(Mu.sum λk _=>how d hd k).sub (hov d hd _ (aB _))
    ·exact Mu.zero
 have hle:qu g Y B x j i<=((1:Nat):Rat):=eO (yO (f:=λj=>qu g Y B x j i) (λj hj=>hM.nn j hj i hi) j hj) (hM.cs i hi);have:=hmu.size h1 (hM.nn j hj i hi) hle;have:=Ns.2.2.1;omega
theorem zn {α:Type} {f:Nat->List α} {k:Nat} {o:α}:o∈mL f k↔∃i,i<k/\o∈f i:=by
 unfold mL;rw[du];constructor
 ·rintro⟨i,h1,h2⟩;exact⟨i,cS.1 h1,h2⟩
 ·rintro⟨i,h1,h2⟩;exact⟨i,cS.2 h1,h2⟩
theorem xA {α:Type} {f:Nat->List α} {b:Nat}:∀ {k:Nat},(∀i,i<k->(f i).length<=b)->(mL f k).length<=k*b
 |0,_=>by show 0<=_;omega
 |k+1,h=>by
  have a:=xA (k:=k) λi hi=>h i oO;have c:=h k oO;rw[oQ,aw,bl];omega
theorem NX (G:nK g Y B) (b:wP D0 g Y) (X:z8 D0 D g x) {d:Nat} (hd:d<g.ds.length) (i:Nat) {k:Nat} (hk:k<lX g d):L (rj g (oJ Y x) d i k)<=20:=by
 unfold rj;split
 ·exact(HP G b X _ (G.lg d hd k hk).1 _).2
 ·have:=n8;omega
theorem TP (G:nK g Y B) (b:wP D0 g Y) (X:z8 D0 D g x) {d:Nat} (hd:d<g.ds.length) (i:Nat) {k:Nat} (hk:k<lX g d):L (xu g (lH Y x) (oJ Y x) d i k)<=200:=by
 have hl:=b.ln d hd;have h:∀k,k<=lX g d->L (xU (g.d d).W (qD g (lH Y x) d) (rj g (oJ Y x) d i) k)<=89:=λk hk=>by
  cases k with
  |zero=>have:=n8;show L (0:Rat)<=_;omega
  |succ k=>
   show L (if _ then _ else _)<=_;split
   ·exact Ff (k:=20) oO λj hj=>NX G b X hd i oO
   ·have:=n8;omega
 have h1:=h (k+1) hk;have h2:=h k oO;have h3:=tV (xU (g.d d).W (qD g (lH Y x) d) (rj g (oJ Y x) d i) (k+1)) (xU (g.d d).W (qD g (lH Y x) d) (rj g (oJ Y x) d i) k);show L (xU _ _ _ (k+1)-xU _ _ _ k)<=200;omega
theorem VF (G:nK g Y B) (b:wP D0 g Y) (X:z8 D0 D g x) {d:Nat} (hd:d<g.ds.length) (i:Nat):L (kg (rj g (oJ Y x) d i) (lX g d))<=85/\L (kg (xu g (lH Y x) (oJ Y x) d i) (lX g d))<=805:=by
 have hl:=b.ln d hd;have h1:=Al (f:=rj g (oJ Y x) d i) (k:=20) (n:=lX g d) λk hk=>NX G b X hd i hk;have h2:=Al (f:=xu g (lH Y x) (oJ Y x) d i) (k:=200) (n:=lX g d) λk hk=>TP G b X hd i hk;have h3:=aH (20+1) hl;have h4:=aH (200+1) hl;exact⟨oO,oO⟩
theorem TE (G:nK g Y B) (b:wP D0 g Y) (X:z8 D0 D g x):(JE g B (lH Y x) (oJ Y x)).length<=300/\∀o∈JE g B (lH Y x) (oJ Y x),o.1<g.n/\o.2.1<g.n/\L o.2.2<=1000:=by
 refine⟨?_,λo ho=> ?_⟩
 ·have h1:=xA (f:=Bt g B (oJ Y x)) (b:=7) (k:=g.n) λi hi=>by
   have h:=xA (f:=s9 g B (oJ Y x) i) (b:=1) (k:=g.cn i) λc _=>by unfold s9;split<;>simp
   have:=XL G b hi;unfold Bt;omega
  have h2:=xA (f:=D5 g (lH Y x) (oJ Y x)) (b:=40) (k:=g.ds.length) λd hd=>by
   have h:=xA (f:=wG g (lH Y x) (oJ Y x) d) (b:=5) (k:=g.n) λi _=>by
    have h:=xA (f:=x7 g (lH Y x) (oJ Y x) d i) (b:=1) (k:=lX g d) λj _=>aB _;have h4:=b.ln d hd;have h5:(Ae g (lH Y x) (oJ Y x) d i).length<=1:=by unfold Ae;split<;>simp
    unfold wG;rw[aw];omega
   have:=b.n;unfold D5;omega
  have:=b.n;have:=b.dn;unfold JE;rw[aw];omega
 ·unfold JE at ho;rcases bB.1 ho with ho|ho
  ·obtain⟨i,hi,ho⟩:=zn.1 ho;obtain⟨c,hc,ho⟩:=zn.1 ho;unfold s9 at ho;split at ho
   ·next g1=>
    obtain rfl:=aQ.1 ho;obtain⟨a,ha,ea⟩:=G.ho i hi c hc g1.1;refine⟨?_,hi,?_⟩
    ·show(g.c i c).h.toNat<g.n;rw[ea];omega
    ·have:=(HP G b X i hi c).2;show L (oJ Y x i c)<=1000;omega
   ·cases ho
  ·obtain⟨d,hd,ho⟩:=zn.1 ho;obtain⟨i,hi,ho⟩:=zn.1 ho;rcases bB.1 ho with ho|ho
   ·obtain⟨k,hk,ho⟩:=zn.1 ho;obtain rfl:=aQ.1 ho;refine⟨(G.lg d hd k hk).1,hi,?_⟩;have:=TP G b X hd i hk;show L (xu g (lH Y x) (oJ Y x) d i k)<=1000;omega
   ·unfold Ae at ho;split at ho
    ·next g1=>
     obtain rfl:=aQ.1 ho;obtain⟨a,ha,ea⟩:=G.ho (g.lg d 0).1 (G.lg d hd 0 g1.1).1 (g.lg d 0).2 (G.lg d hd 0 g1.1).2 g1.2;have ea':Aa g d=a:=ea;refine⟨?_,hi,?_⟩
     ·show(Aa g d).toNat<g.n;rw[ea'];omega
     ·obtain⟨h1,h2⟩:=VF G b X hd i;have:=tV (kg (rj g (oJ Y x) d i) (lX g d)) (kg (xu g (lH Y x) (oJ Y x) d i) (lX g d));show L (kg (rj g (oJ Y x) d i) (lX g d)-kg (xu g (lH Y x) (oJ Y x) d i) (lX g d))<=1000;omega
    ·cases ho
theorem Vu {k:Nat} (a c:Nat):∀(T:List JQ) (M:Mx),L (M a c)<=k->(∀o∈T,L o.2.2<=1000)->L (T.foldl (λM o=>rA M o.1 o.2.1 o.2.2) M a c)<=k+1001*T.length
 | [],_,h,_=>h
 |o::T,M,h,hT=>by
  have h1:=hT o (aJ ..);have h2:L (rA M o.1 o.2.1 o.2.2 a c)<=k+1001:=by
   unfold rA;split
   ·next e=>
    have:=Bc (M o.1 o.2.1) o.2.2;rw[e.1,e.2]at h;omega
   ·omega
  have:=Vu a c T (rA M o.1 o.2.1 o.2.2) h2 λo ho=>hT o (aI _ ho);show L (T.foldl _ (rA M o.1 o.2.1 o.2.2) a c)<=_;rw[ba];omega
abbrev Tp:Nat:=30000000000
theorem Vx (G:nK g Y B) (b:wP D0 g Y) (X:z8 D0 D g x):W9 g B (lH Y x) (oJ Y x) Tp:=by
 have hz:=X.zz;have hMX:MX=1099511627776:=rfl;have hK2:Tp=30000000000:=rfl;obtain⟨g1,g2⟩:=TE G b X;have hq:∀d,d<g.ds.length->∀j,j<lX g d->L (qD g (lH Y x) d j)<=sz D+20:=λd hd j hj=>(HP G b X _ (G.lg d hd j hj).1 _).1;refine⟨λP o hP=> ?_,λd hd=> ?_,λd hd j hj=>⟨?_,λi _=> ?_⟩,λd hd j hj=>⟨?_,λi _=> ?_⟩,dD,λd hd i _=> ?_,λd hd=>by have:=b.ln d hd;omega⟩
 ·have hmem:∀o'∈P++[o],o'∈JE g B (lH Y x) (oJ Y x):=λo' ho'=>hP.subset ho';obtain⟨o1,o2,o3⟩:=g2 o (hmem o (iX _ (aQ.2 rfl)));refine⟨o1,o2,?_⟩;have hl:=hP.length_le;rw[aw]at hl;have h0:=n8;have:=Vu (k:=1) o.1 o.2.1 P (λ_ _=>0) (by show L (0:Rat)<=1;omega) λo' ho'=>(g2 o' (hmem o' (fM _ ho'))).2.2;show L (P.foldl (λM o=>rA M o.1 o.2.1 o.2.2) (λ_ _=>0) o.1 o.2.1)+_<=MX;omega
 ·have:=WL b hd;omega
 ·have:=hq d hd j hj;omega
 ·have:=NX G b X hd i hj;omega
 ·have:=Ff (q:=qD g (lH Y x) d) (k:=sz D+20) (n:=j) (by have:=b.ln d hd;omega) λk hk=>hq d hd k oO;omega
 ·have:=Ff (q:=rj g (oJ Y x) d i) (k:=20) (n:=j) (by have:=b.ln d hd;omega) λk hk=>NX G b X hd i oO;omega
 ·have hl:=b.ln d hd;obtain⟨h1,h2⟩:=VF G b X hd i;have hs:∀(f:Nat->Rat) (k n:Nat),(∀j,j<n->L (f j)<=k)->x5 (ku n λj=>j9 (f j))<=n*(k+1):=λf k n h=>by
   induction n with
   |zero=>exact ax _
   |succ n ih=>
    have a:=ih λj hj=>h j oO;have c:=h n oO;rw[nZ,bl,uj];show x5 (ku n λj=>j9 (f j))+(Lr (j9 (f n))+1+0)<=_;rw[Lr_ofQ];omega
  have e1:=hs (rj g (oJ Y x) d i) 20 (lX g d) λj hj=>NX G b X hd i hj;have e2:=hs (xu g (lH Y x) (oJ Y x) d i) 200 (lX g d) λj hj=>TP G b X hd i hj;have h3:=aH (20+1) hl;have h4:=aH (200+1) hl;exact⟨oO,oO,oO⟩
theorem WZ (G:nK g Y B) (b:wP D0 g Y) (X:z8 D0 D g x) {c:Nat} (hc:c<g.n):M8 (qu g Y B x) g.n c:=by
 have hMX:MX=1099511627776:=rfl;have h:∀i,i<=g.n->L (ri (qu g Y B x) c i)<=8*18+1:=λi hi=>by
  have h1:=Al (f:=λi=>qu g Y B x i c) (k:=17) (n:=i) λj hj=>Mg G b X hc oO;have h2:=aH (17+1) (show i<=8 by have:=b.n;omega);show L (kg (λi=>qu g Y B x i c) i)<=_;omega
 refine⟨λi hi=> ?_,?_⟩
 ·have:=h i oO;have:=Mg G b X hc hi;omega
 ·have:=h g.n (aB _);omega
end
def LB:Nat:=1376256
theorem WA:BB 20 8=LB:=dD
theorem Oz {f:Nat->Rat} {k n:Nat} (hn:n<=4) (h:∀i,i<n->L (f i)<=k):L (kg f n)<=4*(k+1)+1:=by
 have h1:=Al h;have h2:=aH (k+1) hn;omega
theorem W3 {r:Nat} (h:r<=8):BB 20 r<=LB:=by rw[<-WA];exact BE 20 h
section
variable {D0 D : Nat} {g : mT} {Y : Nat → Ly} {B : Nat → Nat → Bool} {x d : Nat → Rat} {t : Rat}
theorem B4 (G:nK g Y B) (b:wP D0 g Y) (X:z8 D0 D g x) {C:List Nat} (hC:∀c∈C,c<g.n):Nq 20 (pA (qu g Y B x) C):=λa ha r hr=>by
 obtain⟨i,hi,rfl⟩:=rD ha;obtain⟨j,hj,rfl⟩:=rD hr;show Lr (j9 (sM (qu g Y B x) C i j))<=20;rw[Lr_ofQ];have h1:=Mg G b X (hC _ (pf hj)) (hC _ (pf hi));have h2:=tV (qu g Y B x (C.getD i 0) (C.getD j 0)) (if i=j then 1 else 0);have h3:L (if i=j then 1 else 0:Rat)<=1:=by
  have:=Hm;have:=n8;split<;>omega
 show L (qu g Y B x (C.getD i 0) (C.getD j 0)-if i=j then 1 else 0)<=20;omega
theorem Uw (G:nK g Y B) (b:wP D0 g Y) (X:z8 D0 D g x) (hC:rZ g Y B x≠ []):∀i,L (Bq g Y B x i)<=LB:=by
 have hn8:=b.n;obtain⟨_,_,l3,_,_,f,hf,hfP,hk⟩:=yY (C:=rZ g Y B x) (ya G X.nn) rfl hC oO;have hCn:∀c∈rZ g Y B x,c<g.n:=λc hc=>(ym (qu g Y B x) g.n (List.replicate g.n true) g.n).2 c hc;have hCl:(rZ g Y B x).length<=g.n:=AN _ _ _ _;have hr:=B4 G b X hCn;intro i;have h0:=n8;have h1:=Hm;show L (uI (rZ g Y B x) (MK (qu g Y B x) (rZ g Y B x)) (rZ g Y B x).length i)<=LB;unfold uI;rw[bK];split
 ·next hi=>
  have hj:=List.idxOf_lt_length_of_mem hi;generalize (rZ g Y B x).idxOf i=j at hj;have hk':MK (qu g Y B x) (rZ g Y B x) j=_:=hk j hj;rw[hk'];have hL:=(IF (n:=(rZ g Y B x).length) (m:=(rZ g Y B x).length) (M:=RM (pA (qu g Y B x) (rZ g Y B x))) (K:=20) (λa ha c hc=>ME hr (by rw[show(pA (qu g Y B x) (rZ g Y B x)).length=(rZ g Y B x).length from mQ _ _ _];exact ha) (by unfold pA;rw[pD _ ha,ka];exact hc)) (rZ g Y B x).length (aB _)).1;have I:=rinv (rZ g Y B x).length (RM (pA (qu g Y B x) (rZ g Y B x))) (rZ g Y B x).length;have hP:=zY (rZ g Y B x).length (RM (pA (qu g Y B x) (rZ g Y B x))) (rZ g Y B x).length;have hB:=W3 (r:=(lF (rZ g Y B x).length (RM (pA (qu g Y B x) (rZ g Y B x))) (rZ g Y B x).length).P.length) oO;have hLB:LB=1376256:=rfl;have hf':f<(rZ g Y B x).length:=hf;unfold kv;split
  ·omega
  ·split
   ·next hm=>
    have h2:=List.idxOf_lt_length_of_mem hm;rw[C3];have:=hL ((lF (rZ g Y B x).length (RM (pA (qu g Y B x) (rZ g Y B x))) (rZ g Y B x).length).P.idxOf j) oO f hf';omega
   ·omega
 ·show L (0:Rat)<=LB;have hLB:LB=1376256:=rfl;omega
theorem S9 (b:wP D0 g Y) (G:nK g Y B) {i:Nat} (hi:i<g.n):L (yJ g i)<=5:=by
 obtain⟨h1,h2⟩:=b.cash i hi;have:=h1.size b.d0 (G.cash i hi) h2;have:=Ns.1;have:=b.s0;omega
theorem VT (b:wP D0 g Y) (G:nK g Y B):RB 20 (z9 g (List.range g.n)):=λr hr=>by
 obtain⟨k,hk,rfl⟩:=rD hr;rw[dE]at hk;rw[Lr_ofQ,C3,ru hk];have:=S9 b G hk;omega
theorem Uh (G:nK g Y B) (b:wP D0 g Y) (X:z8 D0 D g x) (hC:rZ g Y B x=[]) {i:Nat} (hi:i<g.n):L (Ag g Y B x i)<=LB:=by
 have hn8:=b.n;obtain⟨_,_,_,_,hP,hf⟩:=zo (g:=g) (ya G X.nn) hC b.n0 oO G.cash;have hr:=B4 (C:=List.range g.n) G b X λc hc=>cS.1 hc;have hl:(pA (qu g Y B x) (List.range g.n)).length=g.n:=by rw[show(pA (qu g Y B x) (List.range g.n)).length=(List.range g.n).length from mQ _ _ _,dE]
 have e:Ag g Y B x i=_:=hf i hi;rw[e];have hL:=(IF (n:=g.n) (m:=g.n+1) (M:=DJ (pA (qu g Y B x) (List.range g.n)) (z9 g (List.range g.n))) (K:=20) (λa ha c hc=>by
  unfold DJ;rw[hl];split
  ·next h=>exact ME hr (by rw[hl];exact ha) (by unfold pA;rw[pD _ (by rw[dE];exact ha),ka,dE];exact h)
  ·rw[aj oO];unfold VX z9;rw[kw _ _ (by rw[dE];exact ha),toQ_ofQ,C3,ru ha];have:=S9 b G ha;omega) g.n oO).1 i hi g.n oO
 unfold NM at hP⊢;rw[hl]at hP⊢;rw[hP]at hL;have:=W3 hn8;omega
structure Iw (g:mT) (d:Nat->Rat):Prop where
 nn:∀i,i<g.n->0<=d i
 L:∀i,i<g.n->L (d i)<=LB
def FU:Nat:=17
theorem Tu (b:wP D0 g Y) {i:Nat} (hi:i<g.n) (m:Rat):wn (Y i) m<FU:=Nat.lt_succ_of_le (OV (b.ly i hi) m)
theorem UH (G:nK g Y B) (b:wP D0 g Y) (X:z8 D0 D g x) {e k:Nat} (he:e<g.ds.length) (hk:k<=lX g e):L (AM g (lH Y x) e k)<=4*sz D+200:=by
 have hl:=b.ln e he;have h1:=Oz (f:=qD g (lH Y x) e) (k:=sz D+20) (n:=k) oO λj hj=>(HP G b X _ (G.lg e he j (show j<lX g e by omega)).1 _).1;have h3:=tV (pQ (g.d e).W) (kg (qD g (lH Y x) e) k);have h4:=Rf (g.d e).W;have h5:=WL b he;rw[Dn];omega
theorem L7 (G:nK g Y B) (b:wP D0 g Y) (X:z8 D0 D g x) (hd:Iw g d) {e k:Nat} (he:e<g.ds.length) (hk:k<=lX g e):L (BC g (oJ Y x) d e k)<=4*LB+200:=by
 have hl:=b.ln e he;have h1:=Oz (f:=DB g (oJ Y x) d e) (k:=20+LB) (n:=k) oO λj hj=>by
  have a:=(HP G b X _ (G.lg e he j (show j<lX g e by omega)).1 (g.lg e j).2).2;have c:=hd.L _ (G.lg e he j (show j<lX g e by omega)).1;have:=zK (oJ Y x (g.lg e j).1 (g.lg e j).2) (d (g.lg e j).1);show L (oJ Y x (g.lg e j).1 (g.lg e j).2*d (g.lg e j).1)<=_;omega
 rw[Cr];omega
theorem Og (G:nK g Y B) (b:wP D0 g Y) (X:z8 D0 D g x) {i:Nat} (hi:i<g.n) {y:Rat} (h:GU (Y i) (x i) FU (x i)=some y):∃D',0<D'/\D∣D'/\sz D'<=sz D+510/\Mu D' y/\L y<=sz D+520:=by
 have hFU:FU=17:=rfl;obtain⟨D',h1,h2,h3,h4,h5,h6⟩:=Ow (G.ly i hi) (b.ly i hi) (x i) FU (x i) D (X.mo b hi) (by have:=X.zz;omega) y h;refine⟨D',h1,h2,oO,h4,?_⟩;have:=h4.size h1 h5 h6;have:=Ns.2.2.2.2.1;omega
theorem WP (X:z8 D0 D g x) {i:Nat} (hi:i<g.n):L (x i)<=sz D+4:=by
 have:=(X.mu i hi).size X.Dp (X.nn i hi) (X.le i hi);have:=Ns.2.2.2.2.1;omega
theorem IY (G:nK g Y B) (b:wP D0 g Y) (X:z8 D0 D g x) (hd:Iw g d) {r:Rat} (hc:zi g Y (λ_=>FU) (lH Y x) (oJ Y x) x d r):L r<=4*sz D+4*LB+1600:=by
 rcases hc with⟨i,hi,hd0,y,hz,e⟩|⟨e,he,k,hk,h1,h2,e1⟩
 ·obtain⟨_,_,_,_,_,hy⟩:=Og G b X hi hz;have h1:=WP X hi;have h2:=hd.L i hi;have h3:=tV y (x i);have h4:=z5 (y-x i) (d i);rw[e];omega
 ·have h3:=UH G b X he (k:=k+1) oO;have h4:=L7 G b X hd he (k:=k+1) oO;have h5:=z5 (AM g (lH Y x) e (k+1)) (BC g (oJ Y x) d e (k+1));rw[e1];omega
theorem KC {o:Option Rat} {S:Rat->Prop} {k:Nat} (h:Mn o S) (hS:∀r,S r->L r<=k) (hk:1<=k):L (o.getD 0)<=k:=by
 cases o with
 |none=>have:=n8;show L (0:Rat)<=k;omega
 |some r=>exact hS r (h.2 r rfl)
theorem VK (G:nK g Y B) (b:wP D0 g Y) (X:z8 D0 D g x) (hd:Iw g d):Vl g Y (λ_=>FU) (lH Y x) (oJ Y x) x d:=by
 have hz:=X.zz;have hMX:MX=1099511627776:=rfl;have hLB:LB=1376256:=rfl;have hFU:FU=17:=rfl;have hcL:=λr=>IY (r:=r) G b X hd;refine⟨λi hi=>by have:=hd.L i hi;omega,λi hi hd0=>⟨Ll (G.ly i hi) (b.ly i hi) (X.mo b hi),Wn (G.ly i hi) (b.ly i hi) (x i) FU (x i) D (X.mo b hi) (Tu b hi _) oO,λy hy=> ?_⟩,λe he=>by have:=WL b he;omega,λe he k hk=> ?_⟩
 ·obtain⟨_,_,_,_,_,hyL⟩:=Og G b X hi hy;have h1:=WP X hi;have h2:=hd.L i hi;have h3:=tV y (x i);have h4:=hcL _ (.inl ⟨i,hi,hd0,y,hy,rfl⟩);have h5:=KC (Kj Y (λ_=>FU) x d i) (k:=4*sz D+4*LB+1600) (λr ⟨a,ha,hr⟩=>hcL r (.inl ⟨a,oO,hr⟩)) oO;exact⟨oO,oO,oO⟩
 ·have a1:=UH G b X he (k:=k) oO;have a2:=UH G b X he (k:=k+1) hk;have a3:=L7 G b X hd he (k:=k) oO;have a4:=L7 G b X hd he (k:=k+1) hk;obtain⟨g1,g2⟩:=G.lg e he k hk;have b1:=HP G b X _ g1 (g.lg e k).2;have b2:=hd.L _ g1;have b3:=zK (oJ Y x (g.lg e k).1 (g.lg e k).2) (d (g.lg e k).1);have b4:L (qD g (lH Y x) e k)<=sz D+20:=b1.1;refine⟨oO,oO,oO,oO,oO,λc1 c2=>⟨oO,?_⟩⟩;have h4:=hcL _ (.inr ⟨e,he,k,hk,c1,c2,rfl⟩);have h5:=KC (Ke g (lH Y x) (oJ Y x) d (e:=e) (I8 g Y (λ_=>FU) (lH Y x) (oJ Y x) x d e) k) (k:=4*sz D+4*LB+1600) (λr hr=>by
   rcases hr with(hr|⟨e',he',hr⟩)|⟨j,hj,hr⟩
   ·exact hcL r (.inl hr)
   ·exact hcL r (.inr ⟨e',oO,hr⟩)
   ·exact hcL r (.inr ⟨e,he,j,oO,hr⟩)) oO
  omega
def QT:Nat:=28905000
theorem Mf (G:nK g Y B) (b:wP D0 g Y) (X:z8 D0 D g x) (hd:Iw g d) (ht:Mu D t) {h:Rat} (hc:h=1-t\/zi g Y (λ_=>FU) (lH Y x) (oJ Y x) x d h):
  ∃D',0<D'/\D0∣D'/\sz D'<=sz D+QT/\(∀i,i<g.n->Mu D' (x i+h*d i))/\Mu D' (t+h)/\Mu D' t:=by
 have hLB:LB=1376256:=rfl;have hGS:QT=28905000:=rfl;have hn8:=b.n;obtain⟨Dd,d1,d2,d3⟩:=KM (f:=d) (K:=LB) (n:=g.n) λi hi=>hd.L i hi;have d4:sz Dd<=8*LB+1:=by have:=aH LB hn8;omega
 have fin:∀E:Nat,0<E->D∣E->sz E<=sz D+12*LB+1000->Mu E h->∃D',0<D'/\D0∣D'/\sz D'<=sz D+QT/\(∀i,i<g.n->Mu D' (x i+h*d i))/\Mu D' (t+h)/\Mu D' t:=λE e1 e2 e3 e4=>by
  refine⟨E*Dd,dH e1 d1,eo X.dv (eo e2 ⟨Dd,rfl⟩),?_,λi hi=> ?_,(((ht.dvd e2).add e4).xp Dd),(ht.dvd e2).xp Dd⟩
  ·have:=qR E Dd;omega
  ·exact(((X.mu i hi).dvd e2).xp Dd).add (e4.mul (d3 i hi))
 rcases hc with hc|⟨i,hi,hd0,y,hz,e⟩|⟨e,he,k,hk,h1,h2,e1⟩
 ·exact fin D X.Dp ⟨1,(eC _).symm⟩ oO (by rw[hc];exact Mu.one.sub ht)
 ·obtain⟨D',p1,p2,p3,p4,_⟩:=Og G b X hi hz;obtain⟨r,r1,r2,r3⟩:=whole hd0 d1 (d3 i hi) (hd.L i hi);refine fin (D'*r) (dH p1 r2) (eo p2 ⟨r,rfl⟩) ?_ ?_
  ·have:=qR D' r;omega
  ·rw[e];exact Mu.quo ((p4.sub ((X.mu i hi).dvd p2)).xp Dd) (wR hd0) r1
 ·obtain⟨E,q1,q2,q3⟩:=TU (B:=B) G b X;have hrt:Mu (E*Dd) (BC g (oJ Y x) d e (k+1)):=by
   rw[Cr];exact Mu.sum λj hj=>((q3 _ (G.lg e he j (show j<lX g e by omega)).1).1 _).mul (d3 _ (G.lg e he j (show j<lX g e by omega)).1)
  have hlf:Mu (D*(E*Dd)) (AM g (lH Y x) e (k+1)):=by
   rw[Dn,<-bf];refine Mu.xp (Mu.sub ?_ (Mu.sum λj hj=>(q3 _ (G.lg e he j (show j<lX g e by omega)).1).2 _)) Dd;have hW:Mu D0 (pQ (g.d e).W):=by
    rcases mK (g.d e).W with c|c
    ·rw[c.1];exact(b.W e he).2.1
    ·rw[c.1];exact Mu.zero
   exact hW.dvd (eo X.dv ⟨E,rfl⟩)
  obtain⟨r,r1,r2,r3⟩:=whole h2 (dH q1 d1) hrt (L7 G b X hd he (k:=k+1) hk);refine fin (D*r) (dH X.Dp r2) ⟨r,rfl⟩ ?_ ?_
  ·have:=qR D r;have:=qR E Dd;omega
  ·rw[e1];exact Mu.quo hlf (wR h2) r1
end
theorem Uq {y:Ly} {m:Rat} (hy:pE y) (hm:0<=m):kg (dC y m) y.n<=QQ y.rk:=by
 have e:kg (dC y m) y.n=kg (qW y (lJ y m)) y.n+ns (λp=>kg (λk=>uB p.ld (PS y m p) k) y.n) y.pl:=by
  rw[<-yU (λp k=>uB p.ld (PS y m p) k),<-n9];exact km λk _=>yQ y m k
 have hq:∀ {T:List Tr} {m:Rat},yt T->(∀t∈T,∀p∈t.ps,yP y.n p)->0<=m->kg (λk=>uB T m k) y.n<=Sb T m:=fun {T m} hT hp hm=>by
  have h1:=yN (n:=y.n) (l:=re T m) (BJ hp);have h2:=Ew (c:= -1) hT hm;unfold uB at h2;show kg (λk:Nat=>rQ k (re T m)) y.n<=qs (re T m);grind
 have h1:ns (λp=>kg (λk=>uB p.ld (PS y m p) k) y.n) y.pl<=ns (λp=>PS y m p) y.pl:=yx λp hp=>eO (hq (hy.ld p hp) (hy.lp p hp) (sN hy hm p)) (Pp (hy.ld p hp) (sN hy hm p));have h2:=yK hy (lJ y m);have h4:=hq hy.rk hy.rp hm;have h5:kg (lJ y m) y.n=kg (λk=>uB y.rk m k) y.n:=km λk _=>qA y m k;have h6:ns (λp=>oq p.mem (lJ y m)) y.pl=ns (λp=>PS y m p) y.pl:=rfl;have h7:=N9 hy.rk hm;rw[h5,h6]at h2;rw[e];grind
section
variable {D0 D : Nat} {g : mT} {Y : Nat → Ly} {B : Nat → Nat → Bool} {x : Nat → Rat} {t : Rat}
theorem Ww (G:nK g Y B) (b:wP D0 g Y) (hx:∀i,i<g.n->0<=x i) {j:Nat} (hj:j<g.n):F0 g B (lH Y x) j<=33554432:=by
 have hz:∀i,i<g.n->(λ_:Nat=>(0:Rat)) i<=x i:=hx;have h0:∀i,i<g.n->0<=(λ_:Nat=>(0:Rat)) i:=λ_ _=>bP;have h1:=O6 (B:=B) G (D8 G h0) (B3 G h0 hz);have h2:kg (F0 g B (lH Y λ_=>0)) g.n=0:=kW λj hj=>by
  have:=(UG (B:=B) G).fx j hj;grind
 have h3:kg (λi=>kg (lH Y x i) (g.cn i)-kg (lH Y (λ_=>0) i) (g.cn i)) g.n<=kg (λ_=>4194304) g.n:=oe λi hi=>by
  have a:=Uq (G.ly i hi) (hx i hi);rw[G.yn i hi]at a;have c:=PN (G.ly i hi).rk (b.ly i hi).rm;have d:=yC (show(Y i).rk.length*(8*AA)<=4194304 by have:=(b.ly i hi).rl;show(Y i).rk.length*524288<=4194304;omega);rw[show((4194304:Nat):Rat)=4194304 from rfl]at d;have e:kg (lH Y (λ_=>0) i) (g.cn i)=0:=kW λc _=>Mw (G.ly i hi);have f:kg (lH Y x i) (g.cn i)=kg (dC (Y i) (x i)) (g.cn i):=rfl;rw[e,f];grind
 have h4:∀n:Nat,n<=8->kg (λ_=>(4194304:Rat)) n<=33554432:=λn hn=>by
  have:∀n:Nat,kg (λ_=>(4194304:Rat)) n=(n:Rat)*4194304:=λn=>by
   induction n with
   |zero=>show(0:Rat)=((0:Nat):Rat)*_;rw[show((0:Nat):Rat)=0 from rfl];grind
   |succ n ih=>show kg _ n+_=_;rw[ih,gQ,show((1:Nat):Rat)=1 from rfl];grind
  rw[this];have:=yC hn;rw[show((8:Nat):Rat)=8 from rfl]at this;grind
 have h5:=yO (f:=F0 g B (lH Y x)) (λj _=>Wc G (D8 G hx) j) j hj;have h6:=h4 g.n b.n;grind
theorem Xd (G:nK g Y B) (b:wP D0 g Y) (I:Inv g Y B x t) {j:Nat} (hj:j<g.n):x j<=(QX:Rat):=by
 have h1:=Ww G b I.nn hj;have h2:=I.fx j hj;have h3:=(b.cash j hj).2;rw[show((AA:Nat):Rat)=65536 from rfl]at h3;have h4:=oI I.t1 (G.cash j hj);rw[HV,h2];grind
theorem TF (b:wP D0 g Y) (x:Nat->Rat):G4 g Y x<=152:=by
 have hs:∀(f:Nat->Nat) (k n:Nat),(∀i,i<n->f i<=k)->Jr f n<=n*k:=λf k n h=>by
  induction n with
  |zero=>exact ax _
  |succ n ih=>
   have a:=ih λi hi=>h i oO;have c:=h n oO;show Jr f n+f n<=_;rw[bl];omega
 have h1:=hs (λi=>wn (Y i) (x i)) 16 g.n λi hi=>OV (b.ly i hi) _;have h2:=hs (λe=>Jr (λk=>if 0<pQ (g.d e).W-kg (qD g (lH Y x) e) (k+1)then 1 else 0) (lX g e)) 4 g.ds.length λe he=>by
  have:=hs (λk=>if 0<pQ (g.d e).W-kg (qD g (lH Y x) e) (k+1)then 1 else 0) 1 (lX g e) λk _=>by split<;>omega
  have:=b.ln e he;omega
 have:=b.n;have:=b.dn;unfold G4;omega
def XK (D0:Nat) (g:mT) (k:Nat) (x:Nat->Rat) (t:Rat):Prop:=∃D,0<D/\D0∣D/\sz D<=k/\(∀i,i<g.n->Mu D (x i))/\Mu D t
def TW (k f:Nat):Prop:=200*(k+QT*f+700)<=MX
theorem TW.step {k f:Nat} (h:TW k (f+1)):TW (k+QT) f/\200*(k+700)<=MX:=by
 unfold TW at h⊢;have e:QT*(f+1)=QT*f+QT:=rfl;rw[e]at h;omega
theorem WT (G:nK g Y B) (b:wP D0 g Y):∀(f:Nat) (x:Nat->Rat) (t:Rat) (k:Nat),Inv g Y B x t->XK D0 g k x t->G4 g Y x+(if t=1 then 0 else 1)<f->TW k f->
  T6 g Y B FU 20 Tp f x t/\∃D,z8 D0 D g (NB g Y B FU f x t):=by
 intro f;induction f with
 |zero=>exact λ_ _ _ _ _ h _=>absurd h (aS _)
 |succ f ih=>
  rintro x t k I ⟨D,s1,s2,s3,s4,s5⟩ hm hk;have hMX:MX=1099511627776:=rfl;have hLB:LB=1376256:=rfl;have hn8:=b.n;obtain⟨hk2,hk⟩:=hk.step;have X:z8 D0 D g x:=⟨s1,s2,s4,I.nn,λi hi=>Xd G b I hi,dt (bn 200 (Nat.add_le_add_right s3 700)) hk⟩;have hF:∀i,i<g.n->∀m,wn (Y i) m<FU:=λi hi m=>Tu b hi m;have hz:=X.zz;have hLt:L t<=sz D+1:=by
   have:=s5.size s1 I.t0 (B:=1) I.t1;have:=Ns.2.2.1;omega
  have hL1:=Hm;have hxL:=λi hi=>WP (i:=i) X hi;have hSt:∀(h1:rZ g Y B x≠ []->Iw g (Bq g Y B x)) (h2:rZ g Y B x=[]->Iw g (Ag g Y B x)),Xj g Y B FU 20 Tp x t:=λh1 h2=>by
   refine⟨λi hi=>Ll (G.ly i hi) (b.ly i hi) (X.mo b hi),Vx G b X,λc hc=>WZ G b X hc,λi hi j hj=>by have:=Mg G b X hj hi;omega,λhC=> ?_,λhC ht=> ?_⟩
   ·have hd:=h1 hC;have hcL:=λr=>IY (r:=r) G b X hd;have hH:=KC (Hv g Y (λ_=>FU) (lH Y x) (oJ Y x) x (Bq g Y B x)) (k:=4*sz D+4*LB+1600) hcL oO;have hCl:(rZ g Y B x).length<=g.n:=AN _ _ _ _;refine⟨B4 G b X λc hc=>(ym (qu g Y B x) g.n (List.replicate g.n true) g.n).2 c hc,by have:=W3 (r:=(rZ g Y B x).length) oO;omega,(yY (C:=rZ g Y B x) (ya G I.nn) rfl hC oO).1,VK G b X hd,λi hi=> ?_⟩;have a1:=hxL i hi;have a2:=hd.L i hi;show L (x i)+L ((KW g Y (λ_=>FU) (lH Y x) (oJ Y x) x (Bq g Y B x)).getD 0)+_+2<=MX;omega
   ·have hd:=h2 hC;have hcL:=λr=>IY (r:=r) G b X hd;have hH:=KC (Hv g Y (λ_=>FU) (lH Y x) (oJ Y x) x (Ag g Y B x)) (k:=4*sz D+4*LB+1600) hcL oO;obtain⟨_,_,_,_,_,f6⟩:=AG G hF oO b.n0 I hC ht;have hLs:=tV 1 t;have hfh:L (yI g Y B FU x t)<=4*sz D+4*LB+1600:=by
     rcases f6 with f6|f6
     ·rw[f6];omega
     ·exact hcL _ f6
    refine⟨B4 G b X λc hc=>cS.1 hc,VT b G,dD,λ_=>(zo (g:=g) (ya G I.nn) hC b.n0 oO G.cash).2.1,VK G b X hd,oO,?_,oO,λi hi=> ?_⟩
    ·show L ((KW g Y (λ_=>FU) (lH Y x) (oJ Y x) x (Ag g Y B x)).getD 0)+_<=MX;omega
    ·have a1:=hxL i hi;have a2:=hd.L i hi;omega
  have hd1:rZ g Y B x≠ []->Iw g (Bq g Y B x):=λhC=>by
   obtain⟨_,l2,l3,_⟩:=yY (C:=rZ g Y B x) (ya G I.nn) rfl hC oO;refine⟨λi _=> ?_,λi _=>Uw G b X hC i⟩;by_cases e:i∈rZ g Y B x
   ·exact dm (l2 i e)
   ·have:Bq g Y B x i=0:=l3 i e;rw[this];exact bP
  have hd2:rZ g Y B x=[]->Iw g (Ag g Y B x):=λhC=>⟨(zo (g:=g) (ya G I.nn) hC b.n0 oO G.cash).2.2.1,λi hi=>Uh G b X hC hi⟩;unfold T6 NB;by_cases hC:rZ g Y B x=[]
  ·rw[ah (λh=>h hC),ah (λh=>h hC)];by_cases ht:t=1
   ·rw[aj ht];exact⟨⟨hSt hd1 hd2,.inl ht⟩,D,X⟩
   ·rw[ah ht];obtain⟨_,f2,f3,I2,hm2,f6⟩:=AG G hF oO b.n0 I hC ht;rw[ah ht]at hm;obtain⟨D',p1,p2,p3,p4,p5,_⟩:=Mf G b X (hd2 hC) s5 f6;obtain⟨r1,r2⟩:=ih (GW g Y B FU x t) (t+yI g Y B FU x t) (k+QT) I2 ⟨D',p1,p2,oO,p4,p5⟩ oO hk2;exact⟨⟨hSt hd1 hd2,.inr r1⟩,r2⟩
  ·rw[aj hC,aj hC];obtain⟨H,eS,h1,h2,I2,hm2⟩:=Er G hF oO I hC;obtain⟨D',p1,p2,p3,p4,_,p6⟩:=Mf G b X (hd1 hC) s5 (.inr h2);have eX:MN g Y B FU x=λi=>x i+H*Bq g Y B x i:=by
    funext i;unfold MN;rw[eS];rfl
   obtain⟨r1,r2⟩:=ih (MN g Y B FU x) t (k+QT) I2 ⟨D',p1,p2,oO,by rw[eX];exact p4,p6⟩ oO hk2;exact⟨⟨hSt hd1 hd2,r1⟩,r2⟩
noncomputable def Q4 (g:mT) (Y:Nat->Ly) (B:Nat->Nat->Bool):Nat->Rat:=NB g Y B FU 154 (λ_=>0) 0
theorem Tm (G:nK g Y B) (b:wP D0 g Y):T6 g Y B FU 20 Tp 154 (λ_=>0) 0/\Uo g Y B (Q4 g Y B)/\∃D,z8 D0 D g (Q4 g Y B):=by
 have hm:=TF b λ_=>0;have hm2:G4 g Y (λ_=>0)+(if(0:Rat)=1 then 0 else 1)<154:=by split<;>omega
 have hn8:=b.n;obtain⟨h1,h2⟩:=WT G b 154 (λ_=>0) 0 2 (UG G) ⟨D0,b.d0,⟨1,(eC _).symm⟩,b.s0,λ_ _=>Mu.zero,Mu.zero⟩ hm2 (show TW 2 154 from by unfold TW;decide);exact⟨h1,GI G (λi hi m=>Tu b hi m) oO b.n0 154 _ _ (UG G) hm2,h2⟩
theorem WW (G:nK g Y B) (b:wP D0 g Y) (X:z8 D0 D g x) {d:Nat} (hd:d<g.ds.length) {k:Nat} (hk:k<lX g d):L (rR (g.d d).W (qD g (lH Y x) d) k)<=8*sz D+500:=by
 have hl:=b.ln d hd;have h:∀k,k<=lX g d->L (wE (g.d d).W (qD g (lH Y x) d) k)<=4*sz D+200:=λk hk=>by
  have h1:=Ff (q:=qD g (lH Y x) d) (k:=sz D+20) (n:=k) oO λj hj=>(HP G b X _ (G.lg d hd j (show j<lX g d by omega)).1 _).1;have h2:=Rf (g.d d).W;have h3:=WL b hd;have h4:=tV (oc (qD g (lH Y x) d) k) (pQ (g.d d).W);have h5:=Rf (oc (qD g (lH Y x) d) k-pQ (g.d d).W);rw[qg];omega
 have h1:=h (k+1) hk;have h2:=h k oO;have h3:=tV (wE (g.d d).W (qD g (lH Y x) d) (k+1)) (wE (g.d d).W (qD g (lH Y x) d) k);show L (wE _ _ (k+1)-wE _ _ k)<=_;omega
theorem SE (G:nK g Y B) (b:wP D0 g Y) (X:z8 D0 D g x):∀d,d<=g.ds.length->∀i c,L (y8 g (lH Y x) d i c)<=8*sz D+500
 |0,_,i,c=>by have:=n8;show L (0:Rat)<=_;omega
 |d+1,hd,i,c=>by
  have ih:=SE G b X d oO;have key:∀k,k<=lX g d->∀i c,L (Bj g (lH Y x) d (y8 g (lH Y x) d) k i c)<=8*sz D+500:=by
   intro k;induction k with
   |zero=>exact λ_=>ih
   |succ k ih2=>
    intro hk i c;show L (xe _ _ _ _ i c)<=_;unfold xe;split
    ·exact WW G b X oO hk
    ·exact ih2 oO i c
  exact key (lX g d) (aB _) i c
theorem QN (G:nK g Y B) (b:wP D0 g Y) (X:z8 D0 D g x):(∀i,i<g.n->Oy (Y i) (x i))/\(∀i,i<g.n->L (x i)+L (Y i).tot+3<=MX)/\Xh g (lH Y x) Tp/\∀i,i<g.n->∀c,c<g.cn i->L (lH Y x i c)+L (y8 g (lH Y x) g.ds.length i c)<=MX:=by
 have hMX:MX=1099511627776:=rfl;have hz:=X.zz;have m:=Vx G b X;refine⟨λi hi=>SM (G.ly i hi) (b.ly i hi) (X.mo b hi),λi hi=> ?_,⟨m.W,λd hd j hj=>(m.q d hd j hj).1,λd hd j hj=>(m.s d hd j hj).1,m.k,m.ln⟩,λi hi c _=> ?_⟩
 ·have:=WP X hi;have:=b.tot i hi;omega
 ·have:=(HP G b X i hi c).1;have:=SE G b X g.ds.length (aB _) i c;omega
end
def Dy (x y:Int):Bool:=decide (x<y)
theorem KY {α:Type} (A B:List α) (x d:α):(A++x::B).getD A.length d=x:=by
 rw[ai,bV (aB _),dU];rfl
theorem O1 {α:Type} (A B:List α) (x y:α):(A++x::B).set A.length y=A++y::B:=by
 rw[gA _ _ (aB _),dU];rfl
theorem Ov (x:Int) (w:World):lW Tryz.prog 207 #[.int .i64 x] w λv w'=>v= .bool false/\w'=w:=by
 refine enter Tryz.func207 rfl Tryz.ntmps207 rfl ?_;refine J5 ?_;refine jt ?_;refine kD rfl rfl ?_;exact⟨bI Value.bool (ae (λh=>h rfl)),rfl⟩
theorem JB (x y:Int) (w:World):lW Tryz.prog 191 #[.int .i64 x,.int .i64 y] w λv w'=>v= .bool (decide (x<y))/\w'=w:=by
 refine enter Tryz.func191 rfl Tryz.ntmps191 rfl ?_;refine J2 ?_;refine jh (j7 Tryz.call207 rfl (Ov x _) ?_);rintro _ wq1 ⟨rfl,hq1⟩;replace hq1:=hq1.symm;subst hq1;refine J1 ?_;refine kN (kb 7 kR rfl rfl) (kN (kb 7 kR rfl rfl) (kN (kb 7 kR rfl rfl) (jp (kC (vb rfl rfl) rfl ?_))));refine J1 ?_;refine kf (j8 12 kR rfl rfl) (ks rfl (kf (j8 12 kR rfl rfl) (ks rfl (kf (j8 12 kR rfl rfl) (wm rfl rfl (jp (kC (vb rfl rfl) rfl ?_)))))));refine J1 ?_;refine jt ?_;refine kD rfl rfl ?_;exact⟨rfl,rfl⟩
theorem DZ (v:Value) (w:World):lW Tryz.prog 185 #[v,.int .i64 0,.int .i64 0] w λr w'=>r= .tuple #[]/\w'=w:=by
 refine enter Tryz.func185 rfl Tryz.ntmps185 rfl ?_;refine V3 ?_;refine kx (σ:=Unit) (λ_ ρ w'=>ρ 2=iB 0/\ρ 6=iB 1/\w'=w) (λ_=>0) () ⟨rfl,vi rfl oO,rfl⟩ ?_;rintro _ ρ w2 ⟨h2,h6,rfl⟩;refine J4 ?_;refine jt ?_;exact qf rfl ⟨rfl,rfl⟩
theorem HS {w0:World} {b:Nat} {t:TypeId} {H:List kV} (Pre M Suf:List Int) (sp:List Value) (n cp a e:Nat)
  (hn:Pre.length+M.length+Suf.length=n) (ha:a=Pre.length) (he:e=Pre.length+M.length) (hmax:n<=1000000) (w:World) (hS:St w0 w ((b,t,(Pre++M++Suf).flatMap tg++sp)::H)):
  lW Tryz.prog 185 #[.slice (some ⟨b,0,none⟩) n cp,.int .i64 a,.int .i64 e] w λv w'=>v= .tuple #[]/\St w0 w' ((b,t,(Pre++sJ Dy M++Suf).flatMap tg++sp)::H):=by
 refine enter Tryz.func185 rfl Tryz.ntmps185 rfl ?_;refine V3 ?_;refine kx (σ:=Nat) (λk ρ w'=>1<=k/\(k<=M.length\/M.length=0)/\ρ 0= .slice (some ⟨b,0,none⟩) n cp/\ρ 1=iB a/\ρ 2=iB e/\ρ 6=iB ((a:Int)+k)/\
   St w0 w' ((b,t,(Pre++sJ Dy (M.take k)++(M.drop k++Suf)).flatMap tg++sp)::H)) (λk=>M.length+1-k) 1
  ⟨aB _,oO,rfl,rfl,rfl,rfl,?_⟩ ?_
 ·have e1:Pre++sJ Dy (M.take 1)++(M.drop 1++Suf)=Pre++M++Suf:=by
   cases M with
   |nil=>rfl
   |cons x M=>show Pre++[x]++(M++Suf)=_;simp
  rw[e1];exact hS
 clear hS;rintro k ρ w2 ⟨hk1,hkM,h0,h1,h2,h6,hS⟩;refine V3 ?_;by_cases hlt:k<M.length
 ·refine V1 ?_;obtain⟨x,hx⟩:=jz (M.getD k 0);obtain⟨S,hSe⟩:=jz (sJ Dy (M.take k));obtain⟨R,hR⟩:=jz (M.drop (k+1)++Suf);have hSl:S.length=k:=by rw[hSe,Aj,cG];omega
  have hRl:R.length=M.length-(k+1)+Suf.length:=by rw[hR,aw,eN]
  have hdr:M.drop k++Suf=x::R:=by
   rw[dJ hlt,hR,hx,ai,aG hlt];rfl
  have hnx:sJ Dy (M.take (k+1))=zH Dy S x:=by
   rw[lC M k 0 hlt,JG,<-hx,<-hSe]
  rw[<-hSe,hdr]at hS;refine J2 ?_;refine jb ?_;refine kz (λρ w'=>ρ 0= .slice (some ⟨b,0,none⟩) n cp/\ρ 1=iB a/\ρ 2=iB e/\ρ 6=iB ((a:Int)+k)/\St w0 w' ((b,t,(Pre++zH Dy S x++R).flatMap tg++sp)::H)) ?_ ?_
  ·refine ja ?_;refine kx (σ:=List Int×List Int) (λs ρ w'=>S=s.1++s.2/\(∀y∈s.2,Dy x y=true)/\ρ 0= .slice (some ⟨b,0,none⟩) n cp/\ρ 1=iB a/\ρ 2=iB e/\ρ 6=iB ((a:Int)+k)/\ρ 7=iB ((a:Int)+s.1.length)/\
     St w0 w' ((b,t,(Pre++s.1++x::(s.2++R)).flatMap tg++sp)::H)) (λs=>s.1.length) (S,[])
    ⟨(aK _).symm,(λy hy=>(by cases hy)),jY,jY,jY,jY,vi rfl (by rw[hSl]),hS⟩ ?_
   clear hS;rintro⟨A,B⟩ ρ w3 ⟨hAB,hB,h0,h1,h2,h6,h7,hS⟩;simp only at hAB hB h7 hS;have hABl:A.length+B.length=k:=by rw[<-aw,<-hAB,hSl]
   have hLl:(Pre++A++x::(B++R)).length=n:=by simp only[aw,ba];omega
   refine ja ?_;rcases List.eq_nil_or_concat A with hA|⟨A',y,hA⟩
   ·subst hA;refine ja ?_;refine kE [jo 0,jo 1,jo 2,jo 3,jo 4,jo 5,jo 6,ju 7,jo 8,jo 9,jo 10,jo 11,ju 12,jv 13,jo 14] kR kR hS ?_;intro wz1 hS hBz1;refine J4 ?_;refine nU rfl (kb 19 kR rfl (ae (by simp))) (nU rfl (kb 19 kR rfl (ae (by simp))) (nU rfl (kb 19 kR rfl (ae (by simp))) (nU rfl (kb 19 kR rfl (ae (by simp))) (nU rfl (kb 19 kR rfl (ae (by simp))) (nU rfl (kb 19 kR rfl (ae (by simp))) (nU rfl (kb 19 kR rfl (ae (by simp))) (nU rfl (kb 19 kR rfl (ae (by simp))) (nU rfl (kb 19 kR rfl (ae (by simp))) (nU rfl (kb 19 kR rfl (ae (by simp))) (jl rfl (kC (vb rfl (ae (by simp))) rfl ?_)))))))))));refine ja ?_;refine lx rfl (rfl) ?_;refine jt ?_;refine⟨_,rfl,jY,jY,jY,jY,?_⟩;rw[hAB,Io hB (λy hy=>by cases hy)];simpa using hS
   ·rw[List.concat_eq_append]at hA;subst hA;have hA'l:(A'++[y]).length=A'.length+1:=by simp
    have hg1:(Pre++(A'++[y])++x::(B++R)).getD (a+A'.length+1) 0=x:=by
     rw[show a+A'.length+1=(Pre++(A'++[y])).length by simp[ha];omega];exact KY _ _ _ _
    have hg2:(Pre++(A'++[y])++x::(B++R)).getD (a+A'.length) 0=y:=by
     rw[show Pre++(A'++[y])++x::(B++R)=(Pre++A')++y::(x::(B++R)) by simp,show a+A'.length=(Pre++A').length by simp[ha]];exact KY _ _ _ _
    refine ja ?_;refine kE [jo 0,jo 1,jo 2,jo 3,jo 4,jo 5,jo 6,ju 7,jo 8,jo 9,jo 10,jo 11,ju 12,jv 13,jo 14] kR kR hS ?_;intro wz2 hS hBz2;refine J4 ?_;refine kU rfl (j8 19 kR rfl dT) (ks h0 (kU rfl (j8 19 kR rfl dT) (ks h7 (kU rfl (j8 19 kR rfl dT) (kF (i:=a+A'.length+1) rfl rfl oO dO pH ?_)))));refine nl rfl (j8 19 kR rfl dT) (Ci (k:=0) (i:=a+A'.length+1) (enc:=tg) 0 (λ_=>rfl) rfl ni hS rfl (by first|omega|simp) dO rfl (.inr rfl) ?_);refine kU rfl (j8 19 kR rfl dT) (ks h0 (kU rfl (j8 19 kR rfl dT) (ks h7 (kU rfl (j8 19 kR rfl dT) (sG rfl rfl (cx _ oO) (kU rfl (j8 19 kR rfl dT) (kF (i:=a+A'.length) rfl rfl oO dO pH ?_)))))));refine nl rfl (j8 19 kR rfl dT) (Ci (k:=0) (i:=a+A'.length) (enc:=tg) 0 (λ_=>rfl) rfl ni hS rfl (by first|omega|simp) dO rfl (.inr rfl) ?_);rw[hg1,hg2];refine Ac rfl (j8 19 kR rfl dT) (j7 Tryz.call191 rfl (JB x y _) ?_);rintro _ wq3 ⟨rfl,hq3⟩;replace hq3:=hq3.symm;subst hq3;refine⟨Below.refl _ _,?_⟩;refine jl rfl (kC (vb rfl dT) rfl ?_);refine ja ?_;by_cases hcy:x<y
    ·refine k9 rfl (ak hcy) ?_;refine ja ?_;refine nb (λρ'=>ρ' 0= .slice (some ⟨b,0,none⟩) n cp/\ρ' 1= .int .i64 a/\ρ' 2= .int .i64 e/\ρ' 6= .int .i64 ((a:Int)+k)/\ρ' 7= .int .i64 ((a:Int)+(A'++[y]).length)/\True) ⟨h0,h1,h2,h6,h7,trivial⟩ ?_;rintro ρk4 ⟨hk4_0,hk4_1,hk4_2,hk4_6,hk4_7,-⟩;have hset:((Pre++(A'++[y])++x::(B++R)).set (a+A'.length+1) y).set (a+A'.length) x=Pre++A'++x::(y::B++R):=by
      rw[show a+A'.length+1=(Pre++(A'++[y])).length by simp[ha];omega,O1,show Pre++(A'++[y])++y::(B++R)=(Pre++A')++y::(y::(B++R)) by simp,show a+A'.length=(Pre++A').length by simp[ha],O1];simp
     refine ja ?_;refine kE [jo 0,jo 1,jo 2,jo 3,jo 4,jo 5,jo 6,jo 7,jo 8,ju 9,jo 10,jo 11,jo 12,ju 13,jo 14,jw 15,jo 16,jw 17] kR kR hS ?_;intro wz5 hS hBz5;refine J8 ?_;refine jl rfl (kF (i:=a+A'.length) rfl rfl oO dO pH ?_);refine jm rfl (Ci (k:=0) (i:=a+A'.length) (enc:=tg) (v:= .int .i64 y) 0 (λ_=>rfl) rfl ni hS rfl (by simp) oO (by rw[hg2];rfl) (.inr rfl) ?_);refine J2 ?_;refine jl rfl (kF (i:=a+A'.length+1) rfl rfl oO dO pH ?_);refine jm rfl (Ci (k:=0) (i:=a+A'.length+1) (enc:=tg) (v:= .int .i64 x) 0 (λ_=>rfl) rfl ni hS rfl (by simp) oO (by rw[hg1];rfl) (.inr rfl) ?_);refine jl rfl (kF (i:=a+A'.length+1) rfl rfl oO dO pH ?_);refine jx rfl (Cq (k:=0) (i:=a+A'.length+1) (enc:=tg) y (λ_=>rfl) rfl rfl ni hS rfl (by first|omega|simp) dO rfl rfl ?_);intro wz6 hS;refine jl rfl (kF (i:=a+A'.length) rfl rfl oO dO pH ?_);refine jx rfl (Cq (k:=0) (i:=a+A'.length) (enc:=tg) x (λ_=>rfl) rfl rfl ni hS rfl (by first|omega|simp) dO rfl rfl ?_);intro wz7 hS;refine V3 ?_;replace hS:St w0 _ ((b,t,(((Pre++(A'++[y])++x::(B++R)).set (a+A'.length+1) y).set (a+A'.length) x).flatMap tg++sp)::H):=hS;rw[hset]at hS;exact⟨(A',y::B),_,rfl,⟨by rw[hAB];simp,λz hz=>(bC.1 hz).elim (λe=>by rw[e];exact ak hcy) (hB z),jY,jY,jY,jY,vi rfl (show(a:Int)+((A'++[y]).length:Nat)-1=(a:Int)+(A'.length:Nat) by omega),hS⟩,(show A'.length<(A'++[y]).length by omega)⟩
    ·refine lx rfl (ae hcy) ?_;refine jt ?_;refine⟨_,rfl,jY,jY,jY,jY,?_⟩;rw[hAB,Io hB (λz hz=>by
      rw[List.getLast?_append,List.getLast?_singleton]at hz;obtain rfl:y=z:=by simpa using hz
      exact ae hcy)]
     simpa using hS
  clear hS;rintro ρ w3 ⟨h0,h1,h2,h6,hS⟩;refine V3 ?_;exact⟨k+1,_,rfl,⟨oO,.inl hlt,jY,jY,jY,vi rfl oO,by rw[hnx,<-hR];exact hS⟩,oO⟩
 ·refine J1 ?_;refine jt ?_;have e1:M.take k=M:=aU oO;have e2:M.drop k=[]:=eY oO;rw[e1,e2]at hS;refine qf rfl ⟨rfl,?_⟩;simpa using hS
end Go.Proofs.YtoeiejliehgopaaGreatDoor
