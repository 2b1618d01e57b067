import Derived.Test.YtoeiejliehgopaaGreatDoorSd8
set_option maxRecDepth 20000
set_option maxHeartbeats 8000000
namespace Go.Proofs.YtoeiejliehgopaaGreatDoor
open Go Go.RowKit Go.Sx
theorem oa {f g:Nat->Rat}:∀ {n:Nat},(∀i,i<n->f i<=g i)->kg f n<=kg g n
 |0,_=>bS
 |n+1,h=>by
  have a:=oa (n:=n) λi hi=>h i oO;have b:=h n oO;show kg f n+f n<=kg g n+g n;grind
theorem np {f:Nat->Rat} {n:Nat} (h:∀i,i<n->0<=f i):0<=kg f n:=by
 have:=oa (f:=λ_=>0) h;rwa[lr λ_ _=>rfl]at this
theorem n6 (f g:Nat->Rat) (n:Nat):kg (λi=>f i+g i) n=kg f n+kg g n:=by
 have:=mV f g 1 n;rw[dY]at this;rw[<-this];exact kp λi _=>by rw[dY]
theorem og (f g:Nat->Rat) (n:Nat):kg (λi=>f i-g i) n=kg f n-kg g n:=by
 have:=mV f g (-1) n;have e:kg (λi=>f i-g i) n=kg (λi=>f i+ -1*g i) n:=kp λi _=>by grind
 rw[e,this];grind
theorem pI (a:Nat->Nat->Rat) (m:Nat):∀n,kg (λi=>kg (λj=>a i j) m) n=kg (λj=>kg (λi=>a i j) n) m
 |0=>(lr λ_ _=>rfl).symm
 |n+1=>by
  show kg _ n+_=_;rw[pI a m n,<-n6];rfl
theorem za {f:Nat->Rat}:∀ {n:Nat},(∀i,i<n->0<=f i)->∀i,i<n->f i<=kg f n
 |n+1,h,i,hi=>by
  have a:=np (n:=n) λi hi=>h i oO;have b:=h n oO;show f i<=kg f n+f n;by_cases e:i=n
  ·rw[e];grind
  ·have:=za (n:=n) (λi hi=>h i oO) i oO;grind
theorem z5 {f:Nat->Rat} {n:Nat} (h:∀i,i<n->0<=f i) (h0:kg f n<=0):∀i,i<n->f i=0:=λi hi=>by
 have a:=za h i hi;have b:=h i hi;grind
theorem nl {a b:Rat} (ha:0<=a) (hb:0<=b):0<=a*b:=i3 ha hb
theorem Cm {a b:Rat} (ha:0<a) (hb:0<b):0<a*b:=Rat.mul_pos ha hb
theorem nQ {a b c:Rat} (h:a<=b) (hc:0<=c):c*a<=c*b:=Rat.mul_le_mul_of_nonneg_left h hc
theorem Ev {a b:Rat} (h:a*b=0) (hb:0<b):a=0:=by
 rcases eW.1 h with h|h
 ·exact h
 ·exact absurd h (ux hb)
structure SR (M:Mx) (n:Nat):Prop where
 nn:∀i,i<n->∀j,j<n->0<=M i j
 cs:∀j,j<n->qP M j n<=1
section
variable {M : Mx} {n : Nat} {u : Nat → Rat} {F : List Bool}
theorem KI (M:Mx) (n:Nat) (u:Nat->Rat):kg (λi=>mM M u n i) n=kg (λj=>qP M j n*u j) n:=by
 show kg (λi=>kg (λj=>M i j*u j) n) n=_;rw[pI];refine kp λj _=> ?_;have e:kg (λi=>M i j*u j) n=kg (λi=>u j*M i j) n:=kp λi _=>gu _ _;rw[e,qm,gu];rfl
theorem Vv (h:SR M n) (hu:∀i,i<n->0<=u i) (hle:∀i,i<n->u i<=mM M u n i):
  (∀i,i<n->mM M u n i=u i)/\(∀c,c<n->0<u c->qP M c n=1)/\∀a,a<n->u a=0->∀c,c<n->0<u c->M a c=0:=by
 have e:=KI M n u;have hp:∀i,i<n->0<=mM M u n i-u i:=λi hi=>by have:=hle i hi;grind
 have hq:∀j,j<n->0<=u j-qP M j n*u j:=λj hj=>by
  have:=nl (hu j hj) (show 0<=1-qP M j n by have:=h.cs j hj;grind);grind
 have e1:=og (λi=>mM M u n i) u n;have e2:=og u (λj=>qP M j n*u j) n;have z1:=z5 hp (by have:=np hq;grind);have z2:=z5 hq (by have:=np hp;grind);refine⟨λi hi=>by have:=z1 i hi;grind,λc hc hc0=> ?_,λa ha h0 c hc hc0=> ?_⟩
 ·have:=z2 c hc;have:=Ev (a:=1-qP M c n) (b:=u c) (by grind) hc0;grind
 ·have h1:=z1 a ha;have h2:=z5 (f:=λj=>M a j*u j) (n:=n) (λj hj=>nl (h.nn a ha j hj) (hu j hj)) (by
   show mM M u n a<=0;grind) c hc
  exact Ev h2 hc0
theorem O9 {i:Nat} (hi:i<n) (S:Nat->Prop) (h0:S i) (hc:∀a c,a<n->c<n->S c->0<M a c->S a) {k:Nat} (hk:k∈to M n i):S k:=by
 have h:=(tc.1 hk).2;induction h with
 |base j h=>rw[(Ee hi j).1 h];exact h0
 |step a b h1 ha hb hm ih=>exact hc b a hb ha (ih (tc.2 ⟨ha,h1⟩)) hm
theorem Br:∀ {k:Nat},k<=n->qe M n F k=[]->∀i,i<k->F.getD i false=true->(to M n i).any (Gp M n)=true
 |k+1,hk,h,i,hi,hF=>by
  unfold qe at h;split at h
  ·exact absurd h (NR oO)
  ·next g=>
   by_cases e:i=k
   ·subst e;cases ha:(to M n i).any (Gp M n)with
    |true=>rfl
    |false=>exact absurd ⟨hF,ha,.inl h⟩ g
   ·exact Br oO h i oO hF
theorem Bs:∀ {k:Nat},k<=n->qe M n F k≠ []->∃i,i<k/\qe M n F k=to M n i/\(to M n i).any (Gp M n)=false/\∀j,j<k->F.getD j false=true->(to M n j).any (Gp M n)=false->(qe M n F k).length<=(to M n j).length
 |0,_,h=>absurd rfl h
 |k+1,hk,h=>by
  unfold qe at h⊢;split at h
  ·next g=>
   rw[aj g];refine⟨k,oO,rfl,g.2.1,λj hj hF ha=> ?_⟩;by_cases e:j=k
   ·rw[e];exact aH _
   ·by_cases e2:qe M n F k=[]
    ·have:=Br oO e2 j oO hF;rw[this]at ha;cases ha
    ·obtain⟨_,_,_,_,h4⟩:=Bs oO e2;have h5:=h4 j oO hF ha;rcases g.2.2 with g1|g1
     ·exact absurd g1 e2
     ·omega
  ·next g=>
   rw[ah g];obtain⟨i,h1,h2,h3,h4⟩:=Bs oO h;refine⟨i,oO,h2,h3,λj hj hF ha=> ?_⟩;by_cases e:j=k
   ·subst e;have:¬((to M n j).length<(qe M n F j).length):=λhlt=>g ⟨hF,ha,.inr hlt⟩;omega
   ·exact h4 j oO hF ha
theorem EM {n i:Nat} (h:i<n):(List.replicate n true).getD i false=true:=by
 rw[ap,gm,aj h];rfl
theorem Vp (h:SR M n) (hu:∀i,i<n->0<=u i) (hle:∀i,i<n->u i<=mM M u n i) {i:Nat} (hi:i<n) (h0:0<u i):(to M n i).any (Gp M n)=false/\∀k∈to M n i,k<n/\0<u k:=by
 obtain⟨_,m2,m3⟩:=Vv h hu hle;have hc:∀k∈to M n i,k<n/\0<u k:=λk hk=>O9 hi (λk=>k<n/\0<u k) ⟨hi,h0⟩ (λa c ha hc hS hm=>⟨ha,by
  have h1:=hu a ha;by_cases e:u a=0
  ·have:=m3 a ha e c hc hS.2;rw[this]at hm;exact absurd hm (dz)
  ·grind⟩) hk
 refine⟨?_,hc⟩;rw[gz];intro k hk;obtain⟨a,b⟩:=hc k hk;unfold Gp;rw[m2 k a b];decide
theorem PC (h:SR M n) (hb:qe M n (List.replicate n true) n=[]) (hu:∀i,i<n->0<=u i) (hle:∀i,i<n->u i<=mM M u n i):∀i,i<n->u i=0:=λi hi=>by
 have h1:=hu i hi;by_cases e:u i=0
 ·exact e
 ·have a:=(Vp h hu hle hi (by grind)).1;rw[Br (aH _) hb i hi (EM hi)]at a;cases a
theorem Jr {p q:Nat->Bool}:∀(l:List Nat),(∀k∈l,p k=true->q k=true)->(l.filter q).length<=(l.filter p).length->∀k∈l,q k=true->p k=true
 | [],_,_=>λ_ h=>by cases h
 |a::l,h,hl=>by
  have h1:∀k∈l,p k=true->q k=true:=λk hk=>h k (aK _ hk);have mono:(l.filter p).length<=(l.filter q).length:=by
   clear hl h;induction l with
   |nil=>exact aH _
   |cons b l ih=>
    have ih:=ih λk hk=>h1 k (aK _ hk);have hb:=h1 b (aQ ..);rw[fE,fE];cases e1:p b<;>cases e2:q b<;>simp_all<;>omega
  have ha:=h a (aQ ..);rw[fE,fE]at hl;intro k hk hq;cases e1:p a
  ·cases e2:q a
   ·rw[e1,e2]at hl;rcases bJ.1 hk with rfl|hk
    ·rw[e2]at hq;cases hq
    ·exact Jr l h1 hl k hk hq
   ·rw[e1,e2]at hl;simp only[gZ,bj]at hl;simp at hl;omega
  ·rw[e1,ha e1]at hl;rcases bJ.1 hk with rfl|hk
   ·exact e1
   ·exact Jr l h1 (by simpa using hl) k hk hq
theorem T5 (h:SR M n) {C:List Nat} (hC:qe M n (List.replicate n true) n=C) (hu:∀i,i∈C->mM M u n i=u i) (h0:∀i,i∉C->u i=0) {i0:Nat} (hi0:0<u i0):(∀i,i∈C->0<u i)/\∀i,i<n->mM M u n i=u i:=by
 have hin:∀i,0<u i->i∈C:=λi hi=>by
  by_cases e:i∈C
  ·exact e
  ·rw[h0 i e]at hi;exact absurd hi dz
 have hCn:∀c,c∈C->c<n:=λc hc=>by rw[<-hC]at hc;exact(yl M n _ n).2 c hc
 obtain⟨p,hp⟩:∃p:Nat->Rat,p=λi=>if 0<u i then u i else 0:=⟨_,rfl⟩
 have hp1:∀i,0<=p i/\u i<=p i/\(0<u i->p i=u i)/\(0<p i->0<u i):=λi=>by
  rw[hp];dsimp only;split<;>grind
 have hle:∀i,i<n->p i<=mM M p n i:=λi hi=>by
  have hnn:0<=mM M p n i:=np λj hj=>nl (h.nn i hi j hj) (hp1 j).1;by_cases g:0<u i
  ·rw[(hp1 i).2.2.1 g,<-hu i (hin i g)];exact oa λj hj=>nQ (hp1 j).2.1 (h.nn i hi j hj)
  ·have:p i=0:=by rw[hp];exact ah g
   rw[this];exact hnn
 have hpn:∀i,i<n->0<=p i:=λi _=>(hp1 i).1;have hi0n:=hCn i0 (hin i0 hi0);obtain⟨k1,k2⟩:=Vp h hpn hle hi0n (by rw[(hp1 i0).2.2.1 hi0];exact hi0);have hne:qe M n (List.replicate n true) n≠ []:=λe=>by
  have:=hin i0 hi0;rw[<-hC,e]at this;cases this
 obtain⟨i1,_,e1,_,h4⟩:=Bs (aH n) hne;have h5:=h4 i0 hi0n (EM hi0n) k1;rw[e1]at h5 hC;have hpos:∀i,i∈C->0<u i:=λi hi=>by
  have hm:i∈to M n i0:=by
   have:=Jr (p:=λk=>(SK M n (xb n i0)).getD k false) (q:=λk=>(SK M n (xb n i1)).getD k false) (List.range n) (λk hk hkp=> ?_) h5 i (cW.2 (hCn i hi)) ?_
   ·exact uL.2 ⟨hCn i hi,this⟩
   ·have hk1:=k2 k (uL.2 ⟨cW.1 hk,hkp⟩);have:=hin k ((hp1 k).2.2.2 hk1.2);rw[<-hC]at this;exact(uL.1 this).2
   ·rw[<-hC]at hi;exact(uL.1 hi).2
  exact(hp1 i).2.2.2 (k2 i hm).2
 refine⟨hpos,λi hi=> ?_⟩;have ep:p=u:=by
  funext k;by_cases g:0<u k
  ·exact(hp1 k).2.2.1 g
  ·have hz:u k=0:=h0 k λhk=>g (hpos k hk);rw[hp];show(if 0<u k then u k else 0)=u k;rw[hz];exact ah dz
 have:=(Vv h hpn hle).1 i hi;rwa[ep]at this
theorem TM (h:SR M n) (hb:qe M n (List.replicate n true) n=[]) {v c:Nat->Rat} (hc:∀i,i<n->0<=c i) (hv:∀i,i<n->v i=mM M v n i+c i):∀i,i<n->0<=v i:=by
 have hz:=PC (u:=λi=>if v i<0 then-v i else 0) h hb (λi _=>by split<;>grind) (λi hi=>by
  have hnn:0<=mM M (λi=>if v i<0 then-v i else 0) n i:=np λj hj=>nl (h.nn i hi j hj) (by dsimp only;split<;>grind);split
  ·have h1:kg (λj=> -(M i j*v j)) n<=mM M (λi=>if v i<0 then-v i else 0) n i:=oa λj hj=>by
    dsimp only;have:=nQ (a:= -v j) (b:=if v j<0 then-v j else 0) (by split<;>grind) (h.nn i hi j hj);grind
   have h2:=og (λ_=>0) (λj=>M i j*v j) n;rw[lr (f:=λ_=>0) λ_ _=>rfl]at h2;have h3:kg (λi_1=>(0:Rat)-M i i_1*v i_1) n=kg (λj=> -(M i j*v j)) n:=kp λj _=>by grind
   have h4:=hv i hi;have h5:=hc i hi;have h6:mM M v n i=kg (λj=>M i j*v j) n:=rfl;grind
  ·exact hnn)
 intro i hi;have:=hz i hi;split at this<;>grind
end
theorem EL (n:Nat) (A:Mx):∀c,(lD n A c).d≠0
 |0=>by show(1:Rat)≠0;decide
 |c+1=>by
  by_cases h:pv (lD n A c).M c n (lD n A c).P.length<n
  ·have hp:=(po (lD n A c).M c (rinv n A c).len).2.2.2 h;have ih:=EL n A c;rw[HE h];intro e;rcases eW.1 e with e|e
   ·split at e
    ·exact ih e
    ·exact ih (by grind)
   ·exact hp e
  ·rw[JK h];exact EL n A c
theorem PM {m:Nat} {A:Mx} (hm:0<m) (h:∀j,j<m->kg (λi=>A i j) m=0):qR m A=0:=by
 have key:∀k,k<m->qR m (ql A 0 λj=>kg (λi=>A i j) (k+1))=qR m A:=by
  intro k;induction k with
  |zero=>
   intro _;refine nV λi _ j _=> ?_;unfold ql;split
   ·next e=>rw[e];show 0+A 0 j=A 0 j;grind
   ·rfl
  |succ k ih=>
   intro hk;rw[<-ih oO,<-JO (p:=0) (q:=k+1) hm hk oO (ql A 0 λj=>kg (λi=>A i j) (k+1)) 1];refine nV λi _ j _=> ?_;by_cases e:i=0
   ·rw[e,lW,lW,lW,nv _ _ oO,dY];rfl
   ·rw[nv _ _ e,nv _ _ e,nv _ _ e]
 rw[<-key (m-1) oO];refine Ce (p:=0) hm λj hj=> ?_;rw[lW,eQ hm,h j hj]
theorem Wn {m:Nat} {A:Mx} (hm:0<m) (h:∀j,j<m->kg (λi=>A i j) m=0):(lD m A m).P.length<m:=by
 have e:=QR m A;rw[PM hm h]at e;have hl:=yZ m A m;by_cases g:(lD m A m).P.length=m
 ·unfold Un at e;rw[aj g]at e;exact absurd e (EL m A m)
 ·omega
theorem EE {C:List Nat} {n:Nat} (hC:C.Nodup) (hn:∀c∈C,c<n) (f:Nat->Rat) (h0:∀i,i∉C->f i=0):kg f n=kg (λb=>f (C.getD b 0)) C.length:=by
 have key:∀k,k<=C.length->kg (λi=>if i∈C.take k then f i else 0) n=kg (λb=>f (C.getD b 0)) k:=by
  intro k;induction k with
  |zero=>exact λ_=>lr λi _=>by simp
  |succ k ih=>
   intro hk;have hm:C.getD k 0∈C:=o7 hk;have hnot:C.getD k 0∉C.take k:=λhx=>by
    obtain⟨l,hl,e⟩:=Cq hx;have hlk:l<k:=by rw[dg]at hl;omega
    have e2:(C.take k).getD l 0=C.getD l 0:=by
     rw[ap,ap,jD,aj hlk]
    rw[e2]at e;have a:=vV C hC (k:=l) oO;rw[e,vV C hC hk]at a;omega
   show _=kg _ k+f (C.getD k 0);have hone:kg (λi=>if i=C.getD k 0 then f i else 0) n=f (C.getD k 0):=by
    rw[nz (p:=C.getD k 0) (hn _ hm) λi _ hi=>ah hi];exact aj rfl
   rw[<-ih oO,<-hone,<-n6];refine kp λi _=> ?_;have et:C.take (k+1)=C.take k++[C.getD k 0]:=by
    rw[List.take_add_one,ap,aJ hk];rfl
   rw[et];by_cases e:i=C.getD k 0
   ·rw[aj e,aj (by rw[e];simp),e,ah hnot];grind
   ·rw[ah e];by_cases e2:i∈C.take k
    ·rw[aj (gR _ e2),aj e2];grind
    ·rw[ah (λh=>(bO.1 h).elim e2 λh=>e (aZ.1 h)),ah e2];grind
 rw[<-key C.length (aH _),bR];refine kp λi _=> ?_;split
 ·rfl
 ·next h=>exact h0 i h
theorem N0 {M:Mx} {C:List Nat} {i j:Nat} (hi:i<C.length) (hj:j<C.length):RM (pi M C) i j=sx M C i j:=by
 unfold RM pi;rw[pD _ hi,kz _ _ hj,toQ_ofQ]
theorem F5 {M:Mx} {C:List Nat} (hC:0<C.length):mX (pi M C)=C.length:=by
 show((pi M C).getD 0 []).length=_;unfold pi;rw[pD _ hC,j9]
theorem No {M:Mx} {C:List Nat} (hC:0<C.length) (h16:C.length<=16):tV (pi M C)=0:=by
 have h1:(pi M C).length=C.length:=mQ _ _ _;have h2:=F5 (M:=M) hC;have h3:AU (pi M C)=true:=by
  unfold AU;rw[cQ];intro r hr;obtain⟨i,_,rfl⟩:=tf hr;rw[j9,h2];exact ao rfl
 unfold tV;rw[h1,h2,h3,ah oO,ah dD,ah oO]
theorem JI {n m:Nat} {A B:Mx} {x:Nat->Rat} (h:∀i,i<n->∀j,j<m->A i j=B i j) (hk:HO n m A x):HO n m B x:=λi hi=>by
 rw[<-hk i hi];exact kp λj hj=>by rw[h i hi j hj]
theorem Qv {M:Mx} {C:List Nat} (hC:0<C.length) (h16:C.length<=16) (hc:∀j,j<C.length->kg (λi=>sx M C i j) C.length=0):
  It (pi M C)≠ []/\(∃f,f<C.length/\f∉(lD C.length (RM (pi M C)) C.length).P/\∀j,j<C.length->Mj M C j=kv (lD C.length (RM (pi M C)) C.length).P (lD C.length (RM (pi M C)) C.length).M f j)/\(∃f,f<C.length/\Mj M C f=1)/\HO C.length C.length (sx M C) (Mj M C):=by
 have h1:(pi M C).length=C.length:=mQ _ _ _;have h2:=F5 (M:=M) hC;have hs:(lD C.length (RM (pi M C)) C.length).P.length<C.length:=by
  refine Wn hC λj hj=> ?_;rw[<-hc j hj];exact kp λi hi=>N0 hi hj
 have I:=rinv C.length (RM (pi M C)) C.length;have ek:It (pi M C)=(MH (lD C.length (RM (pi M C)) C.length).P C.length).map (qG (lD C.length (RM (pi M C)) C.length).M (lD C.length (RM (pi M C)) C.length).P C.length):=by
  unfold It FW;rw[aj (No hC h16),h1,h2]
 have hfc:=CN I.inc I.lt;have hker:=λx=>A7 C.length C.length (RM (pi M C)) x C.length;have h0:∀j,Mj M C j=toQ (((It (pi M C)).getD 0 []).getD j kP):=λj=>rfl;generalize lD C.length (RM (pi M C)) C.length=s at*;have hfl:MH s.P C.length=(List.range C.length).filter λf=> !decide (f∈s.P):=rfl;cases hf:MH s.P C.length with
 |nil=>rw[<-hfl,hf]at hfc;simp at hfc;omega
 |cons f l=>
  have hm:f∈MH s.P C.length:=by rw[hf];exact aQ ..
  rw[hfl,dV,cW]at hm;have hfP:f∉s.P:=by simpa using hm.2
  have hk0:∀j,j<C.length->Mj M C j=kv s.P s.M f j:=λj hj=>by
   rw[h0,ek,hf];show toQ ((qG s.M s.P C.length f).getD j kP)=_;unfold qG;rw[kz _ _ hj,toQ_ofQ]
  refine⟨by rw[ek,hf];simp,⟨f,hm.1,hfP,hk0⟩,⟨f,hm.1,by rw[hk0 f hm.1];exact aj rfl⟩,?_⟩;rw[ME hk0];exact JI (λi hi j hj=>N0 hi hj) ((hker _).1 (Ji I hfP hm.1))
theorem FR {C:List Nat} (hC:C.Nodup) (l:Nat->Rat) {b:Nat} (hb:b<C.length):uz C l C.length (C.getD b 0)=l b:=by
 unfold uz;rw[bR,aj (o7 hb),vV C hC hb]
theorem Gb {C:List Nat} (l:Nat->Rat) {i:Nat} (h:i∉C):uz C l C.length i=0:=by
 unfold uz;rw[bR,ah h]
theorem Qz {M:Mx} {C:List Nat} {n:Nat} (hC:C.Nodup) (hn:∀c∈C,c<n) (l:Nat->Rat) (i:Nat):mM M (uz C l C.length) n i=kg (λb=>M i (C.getD b 0)*l b) C.length:=by
 have h:=EE hC hn (λj=>M i j*uz C l C.length j) λj hj=>by rw[Gb l hj,dR]
 unfold mM;rw[h];exact kp λb hb=>by rw[FR hC l hb]
theorem Kk (M:Mx) {C:List Nat} (l:Nat->Rat) {a:Nat} (ha:a<C.length):mM (sx M C) l C.length a=kg (λb=>M (C.getD a 0) (C.getD b 0)*l b) C.length-l a:=by
 have e:∀b,sx M C a b*l b=M (C.getD a 0) (C.getD b 0)*l b-(if b=a then l a else 0):=λb=>by
  unfold sx;by_cases h:a=b
  ·rw[aj h,aj h.symm,h];grind
  ·rw[ah h,ah λh2=>h h2.symm];grind
 unfold mM;rw[kp λb _=>e b,og,nz (f:=λb=>if b=a then l a else 0) ha λb _ hb=>ah hb,aj rfl]
theorem yP {M:Mx} {n:Nat} {C:List Nat} (h:SR M n) (hb:qe M n (List.replicate n true) n=C) (hne:C≠ []) (h16:n<=16):
  It (pi M C)≠ []/\(∀i,i∈C->0<up M C i)/\(∀i,i∉C->up M C i=0)/\(∀i,i<n->mM M (up M C) n i=up M C i)/\(∀c,c∈C->qP M c n=1)/\∃f,f<C.length/\f∉(lD C.length (RM (pi M C)) C.length).P/\∀j,j<C.length->Mj M C j=kv (lD C.length (RM (pi M C)) C.length).P (lD C.length (RM (pi M C)) C.length).M f j:=by
 obtain⟨hC,hCn⟩:=yl M n (List.replicate n true) n;have hle:=zY M n (List.replicate n true) n;obtain⟨i0,hi0,e0,lk0,_⟩:=Bs (aH n) (by rw[hb];exact hne);rw[hb]at hC hCn hle e0;have hC0:0<C.length:=fV.2 hne;have hcs:∀c,c∈C->qP M c n=1:=λc hc=>by
  rw[gz]at lk0;rw[e0]at hc;have h1:=lk0 c hc;have h2:=h.cs c (tc.1 hc).1;unfold Gp at h1;have h3:¬qP M c n<1:=λg=>h1 (ao g);grind
 have hz:∀a,a<n->a∉C->∀c,c∈C->M a c=0:=λa ha hna c hc=>by
  have h1:=h.nn a ha c (hCn c hc);by_cases e:M a c=0
  ·exact e
  ·rw[e0]at hc hna;exact absurd (tc.2 ⟨ha,.step c a (tc.1 hc).2 (tc.1 hc).1 ha (by grind)⟩) hna
 have hsub:∀j,j<C.length->kg (λi=>sx M C i j) C.length=0:=λj hj=>by
  have hm:=o7 hj;have e:∀i,sx M C i j=M (C.getD i 0) (C.getD j 0)-(if i=j then 1 else 0):=λi=>rfl;rw[kp λi _=>e i,og,nz (f:=λi=>if i=j then(1:Rat)else 0) hj λi _ hi=>ah hi,aj rfl];have hs:=EE hC hCn (λa=>if a∈C then M a (C.getD j 0)else 0) λa ha=>ah ha;have e2:kg (λa=>if a∈C then M a (C.getD j 0)else 0) n=qP M (C.getD j 0) n:=kp λa ha=>by
   split
   ·rfl
   ·next g=>exact(hz a ha g _ hm).symm
  have e3:kg (λb=>if C.getD b 0∈C then M (C.getD b 0) (C.getD j 0)else 0) C.length=kg (λb=>M (C.getD b 0) (C.getD j 0)) C.length:=kp λb hb=>aj (o7 hb);rw[<-e3,<-hs,e2,hcs _ hm];grind
 obtain⟨k1,k2,⟨f,hf,hf1⟩,hker⟩:=Qv hC0 oO hsub;have hdot:∀i,i∈C->mM M (up M C) n i=up M C i:=λi hi=>by
  obtain⟨a,ha,e⟩:=Cq hi;have h1:=hker a ha;rw[Kk M _ ha]at h1;unfold up;rw[Qz hC hCn,<-e,FR hC _ ha];grind
 obtain⟨p1,p2⟩:=T5 h hb hdot (λi hi=>Gb _ hi) (i0:=C.getD f 0) (by
  unfold up;rw[FR hC _ hf,hf1];decide)
 exact⟨k1,p1,λi hi=>Gb _ hi,p2,hcs,k2⟩
theorem rF {n j:Nat} (h:j<n):(List.range n).getD j 0=j:=by
 rw[ap,List.getElem?_range h];rfl
theorem M6 {n:Nat} {A:Mx} (hA:∀x,HO n n A x->∀i,i<n->x i=0):(lD n A n).P.length=n:=by
 have I:=rinv n A n;have hl:=yZ n A n;by_cases e:(lD n A n).P.length=n
 ·exact e
 ·have hfc:=CN I.inc I.lt;cases hf:(List.range n).filter λf=> !decide (f∈(lD n A n).P)with
  |nil=>rw[hf]at hfc;simp at hfc;omega
  |cons f l=>
   have hm:f∈(List.range n).filter λf=> !decide (f∈(lD n A n).P):=by rw[hf];exact aQ ..
   rw[dV,cW]at hm;have hfP:f∉(lD n A n).P:=by simpa using hm.2
   have h1:=hA _ ((A7 n n A _ n).1 (Ji I hfP hm.1)) f hm.1;have h2:kv (lD n A n).P (lD n A n).M f f=1:=aj rfl;rw[h2]at h1;exact absurd h1 dD
theorem zy {g:mZ} {M:Mx} (h:SR M g.n) (hb:qe M g.n (List.replicate g.n true) g.n=[]) (h0:0<g.n) (h16:g.n<=16) (hc:∀i,i<g.n->0<=A1 g i):
  Kb (pi M (List.range g.n)) (zN g (List.range g.n))=0/\Rj (pi M (List.range g.n)) (zN g (List.range g.n))=ky g.n (λj=>j8 (Sy g M (List.range g.n) j))/\(∀i,i<g.n->0<=qz g M (List.range g.n) i)/\(∀i,i<g.n->qz g M (List.range g.n) i=mM M (qz g M (List.range g.n)) g.n i+A1 g i)/\
  (Ni (pi M (List.range g.n)) (zN g (List.range g.n))).P.length=g.n/\∀j,j<g.n->qz g M (List.range g.n) j=(Ni (pi M (List.range g.n)) (zN g (List.range g.n))).M j g.n:=by
 obtain⟨n,hn⟩:=jz g.n;rw[<-hn]at h hb h0 h16 hc⊢;have hl:(List.range n).length=n:=dI;have h1:(pi M (List.range n)).length=n:=by rw[show(pi M (List.range n)).length=(List.range n).length from mQ _ _ _,hl]
 have h2:=F5 (M:=M) (C:=List.range n) oO;have hsh:=No (M:=M) (C:=List.range n) oO oO;have hcb:(zN g (List.range n)).length=n:=by unfold zN;rw[j9,hl]
 have hsq:OI (pi M (List.range n))=0:=by
  unfold OI;rw[hsh,ah dD,ah (by rw[h1,h2,hl];simp)]
 have hsubM:∀i,i<n->∀j,j<n->sx M (List.range n) i j=M i j-(if i=j then 1 else 0):=λi hi j hj=>by
  unfold sx;rw[rF hi,rF hj]
 have hA1:∀i,i<n->∀j,j<n->Dv (pi M (List.range n)) (zN g (List.range n)) i j=sx M (List.range n) i j:=λi hi j hj=>by
  unfold Dv;rw[h1,aj hj,N0 oO oO]
 have hA2:∀i,i<n->Dv (pi M (List.range n)) (zN g (List.range n)) i n= -A1 g i:=λi hi=>by
  unfold Dv VX zN;rw[h1,ah oO,aj rfl,kz _ _ oO,toQ_ofQ,rF hi]
 have hdM:∀x i,i<n->mM (sx M (List.range n)) x n i=mM M x n i-x i:=λx i hi=>by
  have:=Kk M (C:=List.range n) x (a:=i) oO;rw[hl,rF hi]at this;rw[this];congr 1;exact kp λb hb=>by rw[rF hb]
 have hinj:∀x,HO n n (Dv (pi M (List.range n)) (zN g (List.range n))) x->∀i,i<n->x i=0:=λx hx=>by
  have hx2:HO n n (sx M (List.range n)) x:=JI hA1 hx;have hd:∀i,i<n->mM M x n i=x i:=λi hi=>by
   have:=hx2 i hi;rw[hdM x i hi]at this;grind
  have hz:=PC (u:=λi=>if x i<0 then-x i else x i) h hb (λi _=>by split<;>grind) (λi hi=>by
   have e1:mM M x n i<=mM M (λi=>if x i<0 then-x i else x i) n i:=oa λj hj=>by
    dsimp only;exact nQ (by split<;>grind) (h.nn i hi j hj)
   have e2:mM M (λj=> -x j) n i<=mM M (λi=>if x i<0 then-x i else x i) n i:=oa λj hj=>by
    dsimp only;exact nQ (by split<;>grind) (h.nn i hi j hj)
   have e3:mM M (λj=> -x j) n i= -mM M x n i:=by
    have:=og (λ_=>0) (λj=>M i j*x j) n;rw[lr (f:=λ_=>0) λ_ _=>rfl]at this;have h3:kg (λj=>(0:Rat)-M i j*x j) n=mM M (λj=> -x j) n i:=kp λj _=>by grind
    have h4:mM M x n i=kg (λj=>M i j*x j) n:=rfl;grind
   have:=hd i hi;split<;>grind)
  intro i hi;have:=hz i hi;split at this<;>grind
 have hP:=M6 hinj;have hsd:Ni (pi M (List.range n)) (zN g (List.range n))=lD n (Dv (pi M (List.range n)) (zN g (List.range n))) n:=by unfold Ni;rw[h1]
 have hse:Kb (pi M (List.range n)) (zN g (List.range n))=0:=by
  unfold Kb;rw[ah (by rw[hsq];decide),ah (by rw[h1,hcb];simp),hsd,h1,aj hP]
 have hsl:Rj (pi M (List.range n)) (zN g (List.range n))=ky n λi=>j8 ((Ni (pi M (List.range n)) (zN g (List.range n))).M i n):=by
  unfold Rj;rw[aj hse,h1]
 have hsv:∀j,j<n->Sy g M (List.range n) j=(Ni (pi M (List.range n)) (zN g (List.range n))).M j n:=λj hj=>by
  unfold Sy;rw[hsl,kz _ _ hj,toQ_ofQ]
 have hfd:∀j,j<n->qz g M (List.range n) j=(Ni (pi M (List.range n)) (zN g (List.range n))).M j n:=λj hj=>by
  have:=FR (C:=List.range n) jS (Sy g M (List.range n)) (b:=j) oO;rw[rF hj]at this;unfold qz;rw[this,hsv j hj]
 have hv:∀i,i<n->qz g M (List.range n) i=mM M (qz g M (List.range n)) n i+A1 g i:=by
  obtain⟨A,hA⟩:=jz (Dv (pi M (List.range n)) (zN g (List.range n)));rw[<-hA]at hsd hA1 hA2 hP;have er:=B5 (A:=A) (c:=n) (n:=n) oO 1;have I:=rinv n A (n+1);have hr:=B0 (rinv n A n) hP;have hn':n∉(lD n A (n+1)).P:=by rw[er,hr];simp
  have hk:=(A7 n (n+1) A _ (n+1)).1 (Ji I hn' oO);rw[er]at hk;have hkn:kv (lD n A n).P (lD n A n).M n n=1:=aj rfl;have hkj:∀j,j<n->kv (lD n A n).P (lD n A n).M n j= -(lD n A n).M j n:=λj hj=>by
   have:=Po (P:=(lD n A n).P) (M:=(lD n A n).M) (f:=n) (l:=j) (rinv n A n).inc (by rw[hr];simp) oO;rw[hr]at this⊢;rwa[rF hj]at this
  intro i hi;have h3:=hk i hi;have h4:kg (λj=>A i j*kv (lD n A n).P (lD n A n).M n j) n+A i n*kv (lD n A n).P (lD n A n).M n n=0:=h3;rw[hkn,hA2 i hi]at h4;have h5:kg (λj=>A i j*kv (lD n A n).P (lD n A n).M n j) n= -mM (sx M (List.range n)) (qz g M (List.range n)) n i:=by
   have:=og (λ_=>0) (λj=>sx M (List.range n) i j*qz g M (List.range n) j) n;rw[lr (f:=λ_=>0) λ_ _=>rfl]at this;have h6:kg (λj=>(0:Rat)-sx M (List.range n) i j*qz g M (List.range n) j) n=kg (λj=>A i j*kv (lD n A n).P (lD n A n).M n j) n:=kp λj hj=>by
    rw[hkj j hj,hA1 i hi j hj,hfd j hj,hsd];grind
   have h7:mM (sx M (List.range n)) (qz g M (List.range n)) n i=kg (λj=>sx M (List.range n) i j*qz g M (List.range n) j) n:=rfl;grind
  have h8:=hdM (qz g M (List.range n)) i hi;grind
 refine⟨hse,?_,TM h hb hc hv,hv,by rw[hsd];exact hP,hfd⟩;rw[hsl];exact kF λj hj=>by rw[hsv j hj]
def rC (c:Int):List Pa->Rat
 | []=>0
 |p::l=>(if p.c=c then p.q else 0)+rC c l
def qs:List Pa->Rat
 | []=>0
 |p::l=>p.q+qs l
structure DB (t:Tr):Prop where
 q:∀p∈t.ps,0<=p.q
 s:t.sm=qs t.ps
def yu (T:List Tr):Prop:=∀t∈T,DB t
theorem CT (c:Int) (m:List Pa):∀l,rC c (l++m)=rC c l+rC c m
 | []=>by show rC c m=0+rC c m;grind
 |p::l=>by show _+rC c (l++m)=_+rC c l+rC c m;rw[CT c m l];grind
theorem Ef (m:List Pa):∀l,qs (l++m)=qs l+qs m
 | []=>by show qs m=0+qs m;grind
 |p::l=>by show _+qs (l++m)=_+qs l+qs m;rw[Ef m l];grind
theorem F4 (c:Int) (r:Rat):∀l:List Pa,rC c (l.map λp=>⟨p.c,p.q*r⟩)=rC c l*r
 | []=>by show(0:Rat)=0*r;grind
 |p::l=>by
  show(if p.c=c then p.q*r else 0)+rC c (l.map λp=>⟨p.c,p.q*r⟩)=((if p.c=c then p.q else 0)+rC c l)*r;rw[F4 c r l];split<;>grind
theorem OV (r:Rat):∀l:List Pa,qs (l.map λp=>⟨p.c,p.q*r⟩)=qs l*r
 | []=>by show(0:Rat)=0*r;grind
 |p::l=>by
  show p.q*r+qs (l.map λp=>⟨p.c,p.q*r⟩)=(p.q+qs l)*r;rw[OV r l];grind
theorem E4 (c:Int) (t:Tr) (a:Rat):rC c (F3 t a)=rC c t.ps*(a/t.sm):=F4 c _ t.ps
theorem Sc (t:Tr) (a:Rat):qs (F3 t a)=qs t.ps*(a/t.sm):=OV _ t.ps
theorem Nx {c:Int}:∀ {l:List Pa},(∀p∈l,0<=p.q)->0<=rC c l
 | [],_=>bS
 |p::l,h=>by
  have a:=h p (aQ ..);have b:=Nx (c:=c) λp hp=>h p (aK _ hp);show 0<=(if p.c=c then p.q else 0)+rC c l;split<;>grind
theorem So:∀ {l:List Pa},(∀p∈l,0<=p.q)->0<=qs l
 | [],_=>bS
 |p::l,h=>by
  have a:=h p (aQ ..);have b:=So λp hp=>h p (aK _ hp);show 0<=p.q+qs l;grind
theorem PR {c:Int}:∀ {l:List Pa},(∀p∈l,0<=p.q)->rC c l<=qs l
 | [],_=>bS
 |p::l,h=>by
  have a:=h p (aQ ..);have b:=PR (c:=c) λp hp=>h p (aK _ hp);show(if p.c=c then p.q else 0)+rC c l<=p.q+qs l;split<;>grind
theorem zj {n:Nat}:∀ {l:List Pa},(∀p∈l,zL n p)->kg (λk=>rC k l) n+rC (-1) l=qs l
 | [],_=>by
  show kg (λ_=>0) n+0=0;rw[lr λ_ _=>rfl];grind
 |p::l,h=>by
  have ih:=zj (n:=n) λp hp=>h p (aK _ hp);have e:=n6 (λk=>if p.c=(k:Int)then p.q else 0) (λk=>rC k l) n;show kg (λk:Nat=>(if p.c=(k:Int)then p.q else 0)+rC k l) n+((if p.c= -1 then p.q else 0)+rC (-1) l)=p.q+qs l;rw[e];rcases h p (aQ ..)with g|⟨g1,g2⟩
  ·rw[aj g,lr λk _=>ah oO];grind
  ·rw[ah oO,nz (p:=p.c.toNat) oO λk _ hk=>ah oO,aj oO];grind
theorem EX (k:Nat):∀(l:List Pa) (s:Rs),(qE s l).c k=s.c k+rC k l
 | [],s=>by show s.c k=s.c k+0;grind
 |p::l,s=>by
  show(qE (CF s p) l).c k=s.c k+((if p.c=k then p.q else 0)+rC k l);rw[EX k l];unfold CF;by_cases e:p.c= -1
  ·rw[aj e,ah (show¬p.c=(k:Int) by omega)];grind
  ·rw[ah e];show(if(k:Int)=p.c then s.c k+p.q else s.c k)+_=_;by_cases e2:p.c=(k:Int)
   ·rw[aj e2,aj e2.symm];grind
   ·rw[ah e2,ah λh=>e2 h.symm];grind
theorem Nl:∀(l:List Pa) (s:Rs),(qE s l).r=s.r+rC (-1) l
 | [],s=>by show s.r=s.r+0;grind
 |p::l,s=>by
  show(qE (CF s p) l).r=s.r+((if p.c= -1 then p.q else 0)+rC (-1) l);rw[Nl l];unfold CF;by_cases e:p.c= -1
  ·rw[aj e,aj e];grind
  ·rw[ah e,ah e];grind
theorem nD (t:Tr) (T:List Tr) (m:Rat):lY (t::T) m=if m<t.sm then 0 else lY T (m-t.sm)+1:=rfl
theorem DR {t:Tr} {T:List Tr} {m:Rat} (h:¬m<t.sm):ri (t::T) m=ri T (m-t.sm):=by
 unfold ri;rw[nD,ah h,tv];grind
theorem BN {t:Tr} {T:List Tr} {m:Rat} (h:m<t.sm):ri (t::T) m=m:=by
 unfold ri;rw[nD,aj h];show m-0=m;grind
theorem xk (t:Tr) (T:List Tr) (m:Rat):qQ (t::T) m=if m<t.sm then F3 t m else t.ps++qQ T (m-t.sm):=by
 unfold qQ;rw[nD];by_cases h:m<t.sm
 ·rw[aj h,aj h,BN h,aj (show 0<(t::T).length from iP _)];rfl
 ·rw[ah h,ah h,DR h,List.take_succ_cons,cB,aI];congr 1;congr 1;by_cases g:lY T (m-t.sm)<T.length
  ·rw[aj g,aj (show lY T (m-t.sm)+1<(t::T).length by rw[bj];omega)];rfl
  ·rw[ah g,ah (show¬lY T (m-t.sm)+1<(t::T).length by rw[bj];omega)]
theorem xj (t:Tr) (T:List Tr) (m r:Rat):qj (t::T) m r=if m<t.sm then F3 t r else qj T (m-t.sm) r:=by
 unfold qj;rw[nD];by_cases h:m<t.sm
 ·rw[aj h,aj h,aj (show 0<(t::T).length from iP _)];rfl
 ·rw[ah h,ah h];by_cases g:lY T (m-t.sm)<T.length
  ·rw[aj g,aj (show lY T (m-t.sm)+1<(t::T).length by rw[bj];omega)];rfl
  ·rw[ah g,ah (show¬lY T (m-t.sm)+1<(t::T).length by rw[bj];omega)]
theorem uO (t:Tr) (T:List Tr) (m:Rat):rB (t::T) m=if m<t.sm then t.sm-m else rB T (m-t.sm):=by
 unfold rB;by_cases h:m<t.sm
 ·rw[aj h,BN h,nD,aj h];rfl
 ·rw[ah h,DR h,nD,ah h];rfl
def tk (T:List Tr) (m:Rat) (c:Int):Rat:=rC c (qQ T m)
def x4 (T:List Tr) (m:Rat) (c:Int):Rat:=rC c (qj T m 1)
def Rx (T:List Tr) (m:Rat):Rat:=qs (qQ T m)
theorem o9 (t:Tr) (T:List Tr) (m:Rat) (c:Int):tk (t::T) m c=if m<t.sm then rC c t.ps*(m/t.sm)else rC c t.ps+tk T (m-t.sm) c:=by
 unfold tk;rw[xk];split
 ·exact E4 _ _ _
 ·exact CT _ _ _
theorem uB (t:Tr) (T:List Tr) (m:Rat) (c:Int):x4 (t::T) m c=if m<t.sm then rC c t.ps*(1/t.sm)else x4 T (m-t.sm) c:=by
 unfold x4;rw[xj];split
 ·exact E4 _ _ _
 ·rfl
theorem zo (t:Tr) (T:List Tr) (m:Rat):Rx (t::T) m=if m<t.sm then qs t.ps*(m/t.sm)else qs t.ps+Rx T (m-t.sm):=by
 unfold Rx;rw[xk];split
 ·exact Sc _ _
 ·exact Ef _ _
theorem CO (T:List Tr) (m r:Rat) (c:Int):rC c (qj T m r)=r*x4 T m c:=by
 unfold x4 qj;split
 ·rw[E4,E4,bT,bT];grind
 ·show(0:Rat)=r*0;grind
theorem AR {b:Rat} (h:0<b):0<b⁻¹/\b*b⁻¹ =1:=⟨Rat.inv_pos.2 h,bY _ (ux h)⟩
theorem tI {a b:Rat} (h:0<b):b*(a/b)=a:=by
 have:=(AR h).2;rw[bT];grind
theorem BP {a b:Rat} (ha:0<=a) (hb:0<b):0<=a/b:=by rw[bT];exact nl ha (dj (AR hb).1)
theorem QH {a b:Rat} (h:a<=b) (hb:0<b):a/b<=1:=by
 obtain⟨h1,h2⟩:=AR hb;have:=nQ h (dj h1);rw[bT];grind
theorem Oh {a b c:Rat} (h:a<=b) (hc:0<c):a/c<=b/c:=by
 have:=nQ h (dj (AR hc).1);rw[bT,bT];grind
section
variable {T : List Tr} {m m' h : Rat} {c : Int}
theorem yu.hd {t:Tr} (hT:yu (t::T)):DB t:=hT t (aQ ..)
theorem yu.tl {t:Tr} (hT:yu (t::T)):yu T:=λx hx=>hT x (aK _ hx)
theorem DB.s0 {t:Tr} (h:DB t):0<=t.sm:=by rw[h.s];exact So h.q
theorem DB.a {t:Tr} (h:DB t) (c:Int):0<=rC c t.ps/\rC c t.ps<=t.sm:=⟨Nx h.q,by rw[h.s];exact PR h.q⟩
theorem DH:∀ {T:List Tr} {m:Rat},yu T->0<=m->0<=tk T m c
 | [],_,_,_=>bS
 |t::T,m,hT,hm=>by
  have a:=(hT.hd.a c).1;rw[o9];split
  ·next g=>exact nl a (BP hm (by grind))
  ·have:=DH (T:=T) (m:=m-t.sm) hT.tl (by grind);grind
theorem A9:∀ {T:List Tr} {m m':Rat},yu T->0<=m->m<=m'->tk T m c<=tk T m' c
 | [],_,_,_,_,_=>bS
 |t::T,m,m',hT,hm,hmm=>by
  have a:=(hT.hd.a c).1;rw[o9,o9];by_cases g:m<t.sm
  ·rw[aj g];by_cases g2:m'<t.sm
   ·rw[aj g2];exact nQ (Oh hmm (by grind)) a
   ·rw[ah g2];have h1:=nQ (QH (dj g) (by grind)) a;have h2:=DH (T:=T) (m:=m'-t.sm) (c:=c) hT.tl (by grind);grind
  ·rw[ah g,ah (by grind)];have:=A9 (T:=T) (m:=m-t.sm) (m':=m'-t.sm) hT.tl (by grind) (by grind);grind
theorem Nr:∀ {T:List Tr} {m:Rat},yu T->0<=m->Rx T m<=m
 | [],_,_,h=>h
 |t::T,m,hT,hm=>by
  have hs:=hT.hd.s;rw[zo];split
  ·next g=>
   rw[<-hs,tI (by grind)];exact bS
  ·have:=Nr (T:=T) (m:=m-t.sm) hT.tl (by grind);grind
theorem Ob:∀ {T:List Tr} {m m':Rat},yu T->0<=m->m<=m'->Rx T m'-Rx T m<=m'-m
 | [],m,m',_,_,h=>by show(0:Rat)-0<=_;grind
 |t::T,m,m',hT,hm,hmm=>by
  have hs:=hT.hd.s;have e:∀x,0<=x->x<t.sm->qs t.ps*(x/t.sm)=x:=λx h0 g=>by rw[<-hs,tI (by grind)]
  rw[zo,zo];by_cases g:m<t.sm
  ·rw[aj g,e m hm g];by_cases g2:m'<t.sm
   ·rw[aj g2,e m' (by grind) g2];exact bS
   ·rw[ah g2];have:=Nr (T:=T) (m:=m'-t.sm) hT.tl (by grind);grind
  ·rw[ah g,ah (by grind)];have:=Ob (T:=T) (m:=m-t.sm) (m':=m'-t.sm) hT.tl (by grind) (by grind);grind
theorem Bw:∀ {T:List Tr},yu T->tk T 0 c=0
 | [],_=>rfl
 |t::T,hT=>by
  have a:=hT.hd.a c;rw[o9];split
  ·rw[bT];grind
  ·have e:t.sm=0:=by have:=hT.hd.s0;grind
   rw[e,show(0:Rat)-0=0 by grind,Bw (T:=T) hT.tl];grind
theorem zC:∀ {T:List Tr} {m:Rat},lY T m<T.length->0<rB T m
 | [],_,h=>absurd h (aW _)
 |t::T,m,h=>by
  rw[uO];rw[nD]at h;split
  ·grind
  ·next g=>
   rw[ah g,bj]at h;exact zC oO
theorem IS:∀ {T:List Tr} {m:Rat},yu T->0<=m->0<=h->lY T m<T.length->h<=rB T m->tk T (m+h) c=tk T m c+h*x4 T m c
 | [],_,_,_,_,hf,_=>absurd hf (aW _)
 |t::T,m,hT,hm,h0,hf,hg=>by
  rw[uO]at hg;rw[o9,o9,uB];by_cases g:m<t.sm
  ·rw[aj g]at hg;have hi:=(AR (b:=t.sm) (by grind)).2;rw[aj g,aj g];split
   ·rw[bT,bT,bT];grind
   ·have e:m+h-t.sm=0:=by grind
    rw[e,Bw hT.tl,bT,bT];have:m+h=t.sm:=by grind
    grind
  ·rw[nD,ah g,bj]at hf;rw[ah g]at hg;rw[ah g,ah g,ah (by grind),show m+h-t.sm=(m-t.sm)+h by grind,IS (T:=T) hT.tl (by grind) h0 oO hg];grind
theorem yz:∀ {T:List Tr} {m:Rat},0<=h->¬lY T m<T.length->tk T (m+h) c=tk T m c/\x4 T m c=0
 | [],_,_,_=>⟨rfl,rfl⟩
 |t::T,m,h0,hf=>by
  rw[nD,bj]at hf;rw[o9,o9,uB];by_cases g:m<t.sm
  ·rw[aj g]at hf;omega
  ·rw[ah g]at hf;obtain⟨e1,e2⟩:=yz (T:=T) (m:=m-t.sm) h0 oO;rw[ah g,ah g,ah (by grind),show m+h-t.sm=(m-t.sm)+h by grind,e1];exact⟨rfl,e2⟩
theorem GB:∀ {T:List Tr} {m:Rat},yu T->0<=m->0<=x4 T m c
 | [],_,_,_=>bS
 |t::T,m,hT,hm=>by
  rw[uB];split
  ·next g=>exact nl (hT.hd.a c).1 (BP dD (by grind))
  ·exact GB hT.tl (by grind)
theorem WJ:∀ {T:List Tr} {m:Rat},yu T->0<=m->qs (qj T m 1)<=1
 | [],_,_,_=>by show(0:Rat)<=1;decide
 |t::T,m,hT,hm=>by
  rw[xj];split
  ·next g=>
   rw[Sc,<-hT.hd.s,tI (by grind)];decide
  ·exact WJ hT.tl (by grind)
theorem wT:∀ {T:List Tr} {m m':Rat},m<=m'->lY T m<=lY T m'
 | [],_,_,_=>aH _
 |t::T,m,m',hm=>by
  rw[nD,nD];by_cases g:m<t.sm
  ·rw[aj g];exact aB _
  ·rw[ah g,ah (by grind)];exact Nat.succ_le_succ (wT (by grind))
theorem FP:∀ {T:List Tr} {m:Rat},lY T m<T.length->lY T m<lY T (m+rB T m)
 | [],_,hf=>absurd hf (aW _)
 |t::T,m,hf=>by
  have gp:=zC hf;rw[uO]at gp⊢;rw[nD]at hf;rw[nD,nD];by_cases g:m<t.sm
  ·rw[aj g,aj g,ah (by grind)];exact iP _
  ·rw[ah g]at hf gp⊢;rw[ah g,ah (by grind),show m+rB T (m-t.sm)-t.sm=(m-t.sm)+rB T (m-t.sm) by grind];rw[bj]at hf;exact Nat.succ_lt_succ (FP oO)
end
def mU {α:Type} (f:α->Rat):List α->Rat
 | []=>0
 |a::l=>f a+mU f l
section
variable {α : Type} {f g : α → Rat}
theorem rW (m:List α):∀l,mU f (l++m)=mU f l+mU f m
 | []=>by show mU f m=0+mU f m;grind
 |a::l=>by show f a+mU f (l++m)=f a+mU f l+mU f m;rw[rW m l];grind
theorem yb:∀ {l:List α},(∀a∈l,f a<=g a)->mU f l<=mU g l
 | [],_=>bS
 |a::l,h=>by
  have h1:=h a (aQ ..);have h2:=yb λa ha=>h a (aK _ ha);show f a+mU f l<=g a+mU g l;grind
theorem nG:∀ {l:List α},(∀a∈l,f a=g a)->mU f l=mU g l
 | [],_=>rfl
 |a::l,h=>by
  show f a+mU f l=g a+mU g l;rw[h a (aQ ..),nG λa ha=>h a (aK _ ha)]
theorem zX {l:List α} (h:∀a∈l,0<=f a):0<=mU f l:=by
 have h1:=yb (f:=λ_:α=>(0:Rat)) h;have h2:∀l:List α,mU (λ_=>(0:Rat)) l=0:=λl=>by
  induction l with
  |nil=>rfl
  |cons a l ih=>show(0:Rat)+mU (λ_=>0) l=0;rw[ih];grind
 rwa[h2]at h1
theorem tp (f g:α->Rat) (t:Rat):∀l,mU (λa=>f a+t*g a) l=mU f l+t*mU g l
 | []=>by show(0:Rat)=0+t*0;grind
 |a::l=>by show f a+t*g a+mU _ l=f a+mU f l+t*(g a+mU g l);rw[tp f g t l];grind
theorem JV (f g:α->Rat) (l:List α):mU (λa=>f a-g a) l=mU f l-mU g l:=by
 have:=tp f g (-1) l;have e:mU (λa=>f a-g a) l=mU (λa=>f a+ -1*g a) l:=nG λa _=>by grind
 rw[e,this];grind
theorem yH (a:α->Nat->Rat) (n:Nat):∀l,kg (λk=>mU (λp=>a p k) l) n=mU (λp=>kg (a p) n) l
 | []=>lr λ_ _=>rfl
 |p::l=>by
  show kg (λk=>a p k+mU (λp=>a p k) l) n=_;rw[n6,yH a n l];rfl
end
theorem Ah (f:Nat->Rat):∀n,kg f (n+1)=f 0+kg (λi=>f (i+1)) n
 |0=>by show 0+f 0=f 0+0;grind
 |n+1=>by
  show kg f (n+1)+f (n+1)=f 0+(kg (λi=>f (i+1)) n+f (n+1));rw[Ah f n];grind
theorem KK (f:Nat->Rat):∀l:List Nat,mU f l=kg (λb=>f (l.getD b 0)) l.length
 | []=>rfl
 |a::l=>by
  rw[bj,Ah];show f a+mU f l=f a+kg (λb=>f (l.getD b 0)) l.length;rw[KK f l]
theorem n5 (mem:List Nat) (f:Nat->Rat):n7 mem f=mU f mem:=by
 have:∀(l:List Nat) (a:Rat),(l.map f).foldl (· + ·) a=a+mU f l:=by
  intro l;induction l with
  |nil=>intro a;show a=a+0;grind
  |cons b l ih=>intro a;show(l.map f).foldl (· + ·) (a+f b)=a+(f b+mU f l);rw[ih];grind
 unfold n7;rw[this];grind
structure pz (y:Ly):Prop where
 rk:yu y.rk
 rp:∀t∈y.rk,∀p∈t.ps,zL y.n p
 ld:∀p∈y.pl,yu p.ld
 lp:∀p∈y.pl,∀t∈p.ld,∀q∈t.ps,zL y.n q
 nd:(y.pl.flatMap Pl.mem).Nodup
 mn:∀p∈y.pl,∀i∈p.mem,i<y.n
def PS (y:Ly) (m:Rat) (p:Pl):Rat:=n7 p.mem (lF y m)
def RS (y:Ly) (m:Rat) (p:Pl):Rat:=n7 p.mem (me y m)
def dC (y:Ly) (m:Rat) (k:Nat):Rat:=(sF y m y.pl.length).c k
def sC (y:Ly) (m:Rat) (k:Nat):Rat:=(rR y m y.pl.length).c k
theorem pE (y:Ly) (m:Rat) (k:Nat):lF y m k=tk y.rk m k:=by
 unfold lF;rw[EX];show 0+_=_;unfold tk;grind
theorem tE (y:Ly) (m:Rat) (k:Nat):me y m k=x4 y.rk m k:=by
 unfold me;rw[EX];show 0+_=_;unfold x4;grind
theorem Cu {L:Pl->List Pa} (k:Nat):∀(l:List Pl) (s:Rs),(l.foldl (λs p=>qE s (L p)) s).c k=s.c k+mU (λp=>rC k (L p)) l
 | [],s=>by show s.c k=s.c k+0;grind
 |p::l,s=>by
  show(l.foldl (λs p=>qE s (L p)) (qE s (L p))).c k=s.c k+(rC k (L p)+mU _ l);rw[Cu k l,EX];grind
theorem Iw {L:Pl->List Pa}:∀(l:List Pl) (s:Rs),(l.foldl (λs p=>qE s (L p)) s).r=s.r+mU (λp=>rC (-1) (L p)) l
 | [],s=>by show s.r=s.r+0;grind
 |p::l,s=>by
  show(l.foldl (λs p=>qE s (L p)) (qE s (L p))).r=s.r+(rC (-1) (L p)+mU _ l);rw[Iw l,Nl];grind
theorem wP (y:Ly) (m:Rat) (k:Nat):dC y m k=qJ y (lF y m) k+mU (λp=>tk p.ld (PS y m p) k) y.pl:=by
 unfold dC sF;rw[bR];exact Cu k _ _
theorem Ho (y:Ly) (m:Rat) (k:Nat):sC y m k=qJ y (me y m) k+mU (λp=>RS y m p*x4 p.ld (PS y m p) k) y.pl:=by
 have h:=Cu (L:=λp=>qj p.ld (n7 p.mem (lF y m)) (n7 p.mem (me y m))) k y.pl ⟨qJ y (me y m),0⟩;unfold sC rR;rw[bR];show(y.pl.foldl (λs p=>qE s (qj p.ld (n7 p.mem (lF y m)) (n7 p.mem (me y m)))) ⟨qJ y (me y m),0⟩).c k=_;rw[h];congr 1;exact nG λp _=>CO _ _ _ _
section
variable {y : Ly} {m m' h : Rat} {k : Nat}
theorem oK (y:Ly) (f:Nat->Rat) (k:Nat):qJ y f k=if k∈y.pl.flatMap Pl.mem then 0 else f k:=rfl
theorem yO (hy:pz y) (f:Nat->Rat):kg (qJ y f) y.n+mU (λp=>n7 p.mem f) y.pl=kg f y.n:=by
 have h1:mU (λp=>n7 p.mem f) y.pl=mU f (y.pl.flatMap Pl.mem):=by
  have:∀l:List Pl,mU (λp=>n7 p.mem f) l=mU f (l.flatMap Pl.mem):=λl=>by
   induction l with
   |nil=>rfl
   |cons p l ih=>rw[cB,rW,<-ih,<-n5];rfl
  exact this _
 have h2:=EE (C:=y.pl.flatMap Pl.mem) hy.nd (n:=y.n) (λc hc=>by
  obtain⟨p,hp,hc⟩:=dQ.1 hc;exact hy.mn p hp c hc) (λk=>if k∈y.pl.flatMap Pl.mem then f k else 0) λi hi=>ah hi
 rw[h1,KK f];have h3:kg (λb=>f ((y.pl.flatMap Pl.mem).getD b 0)) (y.pl.flatMap Pl.mem).length=kg (λb=>if(y.pl.flatMap Pl.mem).getD b 0∈y.pl.flatMap Pl.mem then f ((y.pl.flatMap Pl.mem).getD b 0)else 0) (y.pl.flatMap Pl.mem).length:=kp λb hb=>(aj (o7 hb)).symm;rw[h3,<-h2,<-n6];refine kp λi _=> ?_;rw[oK];split<;>grind
theorem y5 (hy:pz y) (hm:0<=m):0<=lF y m k:=by rw[pE];exact DH hy.rk hm
theorem C8 (hy:pz y) (hm:0<=m) (hmm:m<=m'):lF y m k<=lF y m' k:=by rw[pE,pE];exact A9 hy.rk hm hmm
theorem y8 (hy:pz y) (hm:0<=m):0<=me y m k:=by rw[tE];exact GB hy.rk hm
theorem sv (hy:pz y) (hm:0<=m) (p:Pl):0<=PS y m p:=by unfold PS;rw[n5];exact zX λa _=>y5 hy hm
theorem Bx (hy:pz y) (hm:0<=m) (hmm:m<=m') (p:Pl):PS y m p<=PS y m' p:=by unfold PS;rw[n5,n5];exact yb λa _=>C8 hy hm hmm
theorem D5 (hy:pz y) (hm:0<=m) (p:Pl):0<=RS y m p:=by unfold RS;rw[n5];exact zX λa _=>y8 hy hm
theorem VI (hy:pz y) (hm:0<=m):0<=dC y m k:=by
 rw[wP,oK];have h1:=y5 (k:=k) hy hm;have h2:=zX (f:=λp=>tk p.ld (PS y m p) k) (l:=y.pl) λp hp=>DH (hy.ld p hp) (sv hy hm p);split<;>grind
theorem QQ (hy:pz y) (hm:0<=m) (hmm:m<=m'):dC y m k<=dC y m' k:=by
 rw[wP y m k,wP y m' k,oK y _ k,oK y _ k];have h1:=C8 (k:=k) hy hm hmm;have h2:mU (λp=>tk p.ld (PS y m p) k) y.pl<=mU (λp=>tk p.ld (PS y m' p) k) y.pl:=yb λp hp=>A9 (hy.ld p hp) (sv hy hm p) (Bx hy hm hmm p);split<;>grind
theorem VR (hy:pz y) (hm:0<=m):0<=sC y m k:=by
 rw[Ho,oK];have h1:=y8 (k:=k) hy hm;have h2:=zX (f:=λp=>RS y m p*x4 p.ld (PS y m p) k) (l:=y.pl) λp hp=>nl (D5 hy hm p) (GB (hy.ld p hp) (sv hy hm p));split<;>grind
theorem BE {n:Nat}:∀ {T:List Tr} {m:Rat},(∀t∈T,∀p∈t.ps,zL n p)->∀p∈qQ T m,zL n p
 | [],_,_,p,hp=>by
  have hp:p∈([]:List Pa):=hp;cases hp
 |t::T,m,hT,p,hp=>by
  rw[xk]at hp;split at hp
  ·obtain⟨q,hq,rfl⟩:=bX.1 hp;exact hT t (aQ ..) q hq
  ·rcases bO.1 hp with hp|hp
   ·exact hT t (aQ ..) p hp
   ·exact BE (λt ht=>hT t (aK _ ht)) p hp
theorem KE {n:Nat} {r:Rat}:∀ {T:List Tr} {m:Rat},(∀t∈T,∀p∈t.ps,zL n p)->∀p∈qj T m r,zL n p
 | [],_,_,p,hp=>by
  have hp:p∈([]:List Pa):=hp;cases hp
 |t::T,m,hT,p,hp=>by
  rw[xj]at hp;split at hp
  ·obtain⟨q,hq,rfl⟩:=bX.1 hp;exact hT t (aQ ..) q hq
  ·exact KE (λt ht=>hT t (aK _ ht)) p hp
theorem Pc {n:Nat} {T:List Tr} (hT:yu T) (hp:∀t∈T,∀p∈t.ps,zL n p) (hm:0<=m) (hmm:m<=m'):kg (λk=>tk T m' k) n-kg (λk=>tk T m k) n<=m'-m:=by
 have h1:=zj (n:=n) (l:=qQ T m) (BE hp);have h2:=zj (n:=n) (l:=qQ T m') (BE hp);have h3:=Ob hT hm hmm;have h4:=A9 (c:= -1) hT hm hmm;unfold Rx at h3;unfold tk at h4;show kg (λk:Nat=>rC k (qQ T m')) n-kg (λk:Nat=>rC k (qQ T m)) n<=_;grind
theorem Oo {n:Nat} {T:List Tr} (hT:yu T) (hp:∀t∈T,∀p∈t.ps,zL n p) (hm:0<=m):kg (λk=>x4 T m k) n<=1:=by
 have h1:=zj (n:=n) (l:=qj T m 1) (KE hp);have h3:=WJ hT hm;have h4:=GB (c:= -1) hT hm;unfold x4 at h4;show kg (λk:Nat=>rC k (qj T m 1)) n<=_;grind
theorem Ta (hy:pz y) (hm:0<=m) (hmm:m<=m'):kg (dC y m') y.n-kg (dC y m) y.n<=m'-m:=by
 have e:∀m,kg (dC y m) y.n=kg (qJ y (lF y m)) y.n+mU (λp=>kg (λk=>tk p.ld (PS y m p) k) y.n) y.pl:=λm=>by
  rw[<-yH (λp k=>tk p.ld (PS y m p) k),<-n6];exact kp λk _=>wP y m k
 have h1:mU (λp=>kg (λk=>tk p.ld (PS y m' p) k) y.n-kg (λk=>tk p.ld (PS y m p) k) y.n) y.pl<=mU (λp=>PS y m' p-PS y m p) y.pl:=
  yb λp hp=>Pc (hy.ld p hp) (hy.lp p hp) (sv hy hm p) (Bx hy hm hmm p)
 rw[JV,JV]at h1;have h2:=yO hy (lF y m);have h3:=yO hy (lF y m');have h4:=Pc hy.rk hy.rp hm hmm;have h5:∀m,kg (lF y m) y.n=kg (λk=>tk y.rk m k) y.n:=λm=>kp λk _=>pE y m k;have h6:∀m,mU (λp=>n7 p.mem (lF y m)) y.pl=mU (λp=>PS y m p) y.pl:=λm=>rfl;rw[h5,h6]at h2 h3;rw[e,e];grind
theorem TH (hy:pz y) (hm:0<=m):kg (sC y m) y.n<=1:=by
 have e:kg (sC y m) y.n=kg (qJ y (me y m)) y.n+mU (λp=>kg (λk=>RS y m p*x4 p.ld (PS y m p) k) y.n) y.pl:=by
  rw[<-yH (λp k=>RS y m p*x4 p.ld (PS y m p) k),<-n6];exact kp λk _=>Ho y m k
 have h1:mU (λp=>kg (λk=>RS y m p*x4 p.ld (PS y m p) k) y.n) y.pl<=mU (λp=>RS y m p) y.pl:=yb λp hp=>by
  rw[qm];have:=nQ (Oo (hy.ld p hp) (hy.lp p hp) (sv hy hm p)) (D5 hy hm p);grind
 have h2:=yO hy (me y m);have h4:=Oo hy.rk hy.rp hm;have h5:kg (me y m) y.n=kg (λk=>x4 y.rk m k) y.n:=kp λk _=>tE y m k;have h6:mU (λp=>n7 p.mem (me y m)) y.pl=mU (λp=>RS y m p) y.pl:=rfl;rw[h5,h6]at h2;rw[e];grind
theorem Cs (y:Ly) (m:Rat):∀(l:List Pl) (o:Rat),l.foldl (tg y m) o<=o/\(∀p∈l,yD y m p->l.foldl (tg y m) o<=xP y m p)/\(l.foldl (tg y m) o=o\/∃p,p∈l/\yD y m p/\l.foldl (tg y m) o=xP y m p)
 | [],o=>⟨bS,λ_ h=>by(cases h),.inl rfl⟩
 |p::l,o=>by
  obtain⟨h1,h2,h3⟩:=Cs y m l (tg y m o p);have e:tg y m o p<=o/\(yD y m p->tg y m o p<=xP y m p)/\(tg y m o p=o\/yD y m p/\tg y m o p=xP y m p):=by
   unfold tg;by_cases g:yD y m p
   ·rw[aj g];unfold wq;split
    ·exact⟨by grind,λ_=>by grind,.inl rfl⟩
    ·exact⟨by grind,λ_=>bS,.inr ⟨g,rfl⟩⟩
   ·rw[ah g];exact⟨bS,λh=>absurd h g,.inl rfl⟩
  show l.foldl (tg y m) (tg y m o p)<=o/\_/\_;refine⟨by grind,λq hq hc=> ?_,?_⟩
  ·rcases bJ.1 hq with rfl|hq
   ·have:=e.2.1 hc;show l.foldl (tg y m) (tg y m o q)<=_;grind
   ·exact h2 q hq hc
  ·show l.foldl (tg y m) (tg y m o p)=o\/∃q,q∈p::l/\yD y m q/\l.foldl (tg y m) (tg y m o p)=xP y m q;rcases h3 with h3|⟨q,hq,hc,h3⟩
   ·rw[h3];rcases e.2.2 with e|⟨e1,e2⟩
    ·exact .inl e
    ·exact .inr ⟨p,aQ ..,e1,e2⟩
   ·exact .inr ⟨q,aK _ hq,hc,h3⟩
def BM (y:Ly) (m:Rat):Rat:=wX y m y.pl.length
theorem uH (y:Ly) (m:Rat):BM y m<=rB y.rk m/\(∀p∈y.pl,yD y m p->BM y m<=xP y m p)/\(BM y m=rB y.rk m\/∃p,p∈y.pl/\yD y m p/\BM y m=xP y m p):=by
 have:=Cs y m y.pl (rB y.rk m);unfold BM wX;rw[bR];exact this
theorem H8 {p:Pl} (hc:yD y m p):xP y m p*RS y m p=rB p.ld (PS y m p):=by
 have:=tI (a:=rB p.ld (PS y m p)) hc.2;rw[gu]at this;exact this
theorem Fc (hf:lY y.rk m<y.rk.length):0<BM y m:=by
 obtain⟨_,_,h⟩:=uH y m;rcases h with h|⟨p,hp,hc,h⟩
 ·rw[h];exact zC hf
 ·rw[h];unfold xP;rw[bT];exact Cm (zC hc.1) (AR hc.2).1
theorem DZ (hy:pz y) (hm:0<=m) (h0:0<=h) (hs:lY y.rk m<y.rk.length->h<=BM y m):lF y (m+h) k=lF y m k+h*me y m k:=by
 rw[pE,pE,tE];by_cases hf:lY y.rk m<y.rk.length
 ·exact IS hy.rk hm h0 hf (by have:=(uH y m).1;have:=hs hf;grind)
 ·obtain⟨e1,e2⟩:=yz (c:=k) h0 hf;rw[e1,e2];grind
theorem Pd (hy:pz y) (hm:0<=m) (h0:0<=h) (hs:lY y.rk m<y.rk.length->h<=BM y m) (p:Pl):PS y (m+h) p=PS y m p+h*RS y m p:=by
 unfold PS RS;rw[n5,n5,n5,<-tp];exact nG λa _=>DZ hy hm h0 hs
theorem K6 (hf:¬lY y.rk m<y.rk.length) (p:Pl):RS y m p=0:=by
 unfold RS;rw[n5,nG (g:=λ_=>(0:Rat)+0*0) λa _=> ?_]
 ·rw[tp (λ_=>(0:Rat)) (λ_=>0) 0];have:=tp (λ_:Nat=>(0:Rat)) (λ_=>0) 1 p.mem;have e:mU (λa:Nat=>(0:Rat)+1*0) p.mem=mU (λ_=>0) p.mem:=nG λ_ _=>by grind
  rw[e]at this;grind
 ·rw[tE,(yz (h:=0) (c:=a) dD hf).2];grind
theorem Ov (hy:pz y) (hm:0<=m) (h0:0<=h) (hs:lY y.rk m<y.rk.length->h<=BM y m) {p:Pl} (hp:p∈y.pl) (c:Int):tk p.ld (PS y (m+h) p) c=tk p.ld (PS y m p) c+h*(RS y m p*x4 p.ld (PS y m p) c):=by
 have hr:=D5 hy hm p;have hhr:=nl h0 hr;rw[Pd hy hm h0 hs];by_cases hl:lY p.ld (PS y m p)<p.ld.length
 ·rw[IS (hy.ld p hp) (sv hy hm p) hhr hl ?_]
  ·grind
  ·have gp:=zC hl;by_cases hr0:0<RS y m p
   ·by_cases hf:lY y.rk m<y.rk.length
    ·have hc:yD y m p:=⟨hl,hr0⟩;have h1:=(uH y m).2.1 p hp hc;have h2:=H8 hc;have h3:=hs hf;have h4:=nQ (show h<=xP y m p by grind) hr;grind
    ·rw[K6 hf]at hr0;exact absurd hr0 dz
   ·have:RS y m p=0:=by grind
    rw[this];grind
 ·obtain⟨e1,e2⟩:=yz (c:=c) hhr hl;rw[e1,e2];grind
theorem PU (hy:pz y) (hm:0<=m) (h0:0<=h) (hs:lY y.rk m<y.rk.length->h<=BM y m):dC y (m+h) k=dC y m k+h*sC y m k:=by
 rw[wP,wP,Ho,oK,oK,oK,DZ hy hm h0 hs,nG λp hp=>Ov hy hm h0 hs hp k,tp];split<;>grind
theorem R8 (hf:¬lY y.rk m<y.rk.length):sC y m k=0:=by
 rw[Ho,oK,tE,(yz (h:=0) (c:=k) dD hf).2];have:mU (λp=>RS y m p*x4 p.ld (PS y m p) k) y.pl=mU (λ_=>0) y.pl:=nG λp _=>by rw[K6 hf,dh]
 rw[this];have h1:=tp (λ_:Pl=>(0:Rat)) (λ_=>0) 1 y.pl;have e:mU (λa:Pl=>(0:Rat)+1*0) y.pl=mU (λ_=>0) y.pl:=nG λ_ _=>by grind
 rw[e]at h1;split<;>grind
def wc (y:Ly) (m:Rat):Nat:=(y.rk.length-lY y.rk m)+(y.pl.map λp=>p.ld.length-lY p.ld (PS y m p)).sum
theorem Fx {f g:Pl->Nat}:∀ {l:List Pl},(∀p∈l,f p<=g p)->(l.map f).sum<=(l.map g).sum/\((∃p,p∈l/\f p<g p)->(l.map f).sum<(l.map g).sum)
 | [],_=>⟨aH _,λ⟨_,h,_⟩=>by cases h⟩
 |a::l,h=>by
  obtain⟨h1,h2⟩:=Fx (l:=l) λp hp=>h p (aK _ hp);have h3:=h a (aQ ..);rw[db,db,iF,iF];refine⟨oO,λ⟨p,hp,hlt⟩=> ?_⟩;rcases bJ.1 hp with rfl|hp
  ·omega
  ·have:=h2 ⟨p,hp,hlt⟩;omega
theorem GY (hy:pz y) (hm:0<=m) (hmm:m<=m'):wc y m'<=wc y m:=by
 have h1:=wT (T:=y.rk) hmm;have h2:=(Fx (f:=λp=>p.ld.length-lY p.ld (PS y m' p)) (g:=λp=>p.ld.length-lY p.ld (PS y m p)) (l:=y.pl) λp _=>by
  have:=wT (T:=p.ld) (Bx hy hm hmm p);omega).1
 unfold wc;omega
theorem G3 (hy:pz y) (hm:0<=m) (hf:lY y.rk m<y.rk.length):wc y (m+BM y m)<wc y m:=by
 have hp:=Fc hf;have hmm:m<=m+BM y m:=by grind
 have h1:=wT (T:=y.rk) hmm;have h2:=Fx (f:=λp=>p.ld.length-lY p.ld (PS y (m+BM y m) p)) (g:=λp=>p.ld.length-lY p.ld (PS y m p)) (l:=y.pl) λp _=>by
  have:=wT (T:=p.ld) (Bx hy hm hmm p);omega
 unfold wc;rcases(uH y m).2.2 with e|⟨p,hp',hc,e⟩
 ·have:=FP hf;rw[<-e]at this;have:=h2.1;have:=ti y.rk (m+BM y m);omega
 ·have h3:=Pd hy hm (dj hp) (λ_=>bS) p;have h4:=H8 hc;rw[<-e]at h4;rw[h4]at h3;have h5:=FP hc.1;have h6:lY p.ld (PS y m p)<lY p.ld (PS y (m+BM y m) p):=by rw[h3];exact h5
  have:=ti p.ld (PS y (m+BM y m) p);have:=h2.2 ⟨p,hp',by show _-_<_-_;omega⟩;omega
theorem Hg (hy:pz y) {m0:Rat} (h0:0<=m0):∀(f:Nat) (m:Rat),m0<=m->(∀k,k<y.n->sC y m k=sC y m0 k)->(∀m'',m0<=m''->m''<=m->∀k,k<y.n->dC y m'' k=dC y m0 k+(m''-m0)*sC y m0 k)->wc y m<f->
  match Gk y m0 f m with
  |some z=>m0<z/\wc y z<wc y m0/\∀m'',m0<=m''->m''<=z->∀k,k<y.n->dC y m'' k=dC y m0 k+(m''-m0)*sC y m0 k
  |none=>(∀k,k<y.n->sC y m0 k=0)/\∀m'',m0<=m''->∀k,k<y.n->dC y m'' k=dC y m0 k+(m''-m0)*sC y m0 k
 |0,_,_,_,_,hmu=>absurd hmu (aW _)
 |f+1,m,hmm,hs,hl,hmu=>by
  have hm:0<=m:=by grind
  unfold Gk;by_cases hf:lY y.rk m<y.rk.length
  ·have hp:=Fc hf;have hst:=G3 hy hm hf;have hmo:=GY hy h0 hmm;have hl2:∀m'',m0<=m''->m''<=yU y m->∀k,k<y.n->dC y m'' k=dC y m0 k+(m''-m0)*sC y m0 k:=λm'' h1 h2 k hk=>by
    by_cases g:m''<=m
    ·exact hl m'' h1 g k hk
    ·have h3:m''<=m+BM y m:=h2;have e:=PU (k:=k) (h:=m''-m) hy hm (by grind) (λ_=>by grind);rw[show m+(m''-m)=m'' by grind,hl m hmm bS k hk,hs k hk]at e;grind
   rw[aj hf];by_cases he:Fo y (yU y m)=Fo y m0/\K9 y (yU y m)=K9 y m0
   ·rw[aj he];have hmu2:wc y (yU y m)<wc y m:=hst;have hmn:m<yU y m:=by show m<m+BM y m;grind
    refine Hg hy h0 f (yU y m) (by grind) (λk hk=> ?_) hl2 oO;have h1:(K9 y (yU y m)).getD k kP=(K9 y m0).getD k kP:=by rw[he.2]
    unfold K9 at h1;rw[kz _ _ hk,kz _ _ hk]at h1;have h2:=bQ toQ h1;rw[toQ_ofQ,toQ_ofQ]at h2;exact h2
   ·rw[ah he];have hmu2:wc y (yU y m)<wc y m:=hst;exact⟨by show m0<m+BM y m;grind,oO,hl2⟩
  ·rw[ah hf];have hz:∀k,k<y.n->sC y m0 k=0:=λk hk=>by rw[<-hs k hk];exact R8 hf
   refine⟨hz,λm'' h1 k hk=> ?_⟩;by_cases g:m''<=m
   ·exact hl m'' h1 g k hk
   ·have e:=PU (k:=k) (h:=m''-m) hy hm (by grind) (λh=>absurd h hf);rw[show m+(m''-m)=m'' by grind,hl m hmm bS k hk,hs k hk]at e;grind
theorem FT (hy:pz y) {m0:Rat} (h0:0<=m0) {f:Nat} (hf:wc y m0<f):
  match Gk y m0 f m0 with
  |some z=>m0<z/\wc y z<wc y m0/\∀m'',m0<=m''->m''<=z->∀k,k<y.n->dC y m'' k=dC y m0 k+(m''-m0)*sC y m0 k
  |none=>(∀k,k<y.n->sC y m0 k=0)/\∀m'',m0<=m''->∀k,k<y.n->dC y m'' k=dC y m0 k+(m''-m0)*sC y m0 k:=
 Hg hy h0 f m0 bS (λ_ _=>rfl) (λm'' h1 h2 k _=>by
  have:m''=m0:=by grind
  rw[this];grind) hf
theorem JT (hy:pz y):dC y 0 k=0:=by
 have hg:∀a,lF y 0 a=0:=λa=>by rw[pE];exact Bw hy.rk
 have hP:∀p,PS y 0 p=0:=λp=>by
  unfold PS;rw[n5,nG (g:=λ_=>(0:Rat)) λa _=>hg a];have h1:=tp (λ_:Nat=>(0:Rat)) (λ_=>0) 1 p.mem;have e:mU (λa:Nat=>(0:Rat)+1*0) p.mem=mU (λ_=>0) p.mem:=nG λ_ _=>by grind
  rw[e]at h1;grind
 rw[wP,oK,hg,nG (g:=λ_=>(0:Rat)) λp hp=>by rw[hP];exact Bw (hy.ld p hp)];have h1:=tp (λ_:Pl=>(0:Rat)) (λ_=>0) 1 y.pl;have e:mU (λa:Pl=>(0:Rat)+1*0) y.pl=mU (λ_=>0) y.pl:=nG λ_ _=>by grind
 rw[e]at h1;split<;>grind
end
section
variable {W h : Rat} {q q' s : Nat → Rat} {n k : Nat}
theorem mJ (a:Rat):pQ a=a/\0<=a\/pQ a=0/\a<=0:=by
 unfold pQ Dy;split<;>grind
theorem pq (hq:∀j,j<k->0<=q j):nY q k=kg q k:=kp λj hj=>by
 have:=hq j hj;rcases mJ (q j)with h|h<;>grind
theorem pY (W:Rat) (q:Nat->Rat):∀k,wu W q k=pQ (nY q k-pQ W)
 |0=>by
  show 0=pQ (0-pQ W);rcases mJ W with h|h<;>rcases mJ (0-pQ W)with h2|h2<;>grind
 |k+1=>rfl
theorem tQ (W:Rat) (q:Nat->Rat) (hs:∀j,j<k->0<=s j):xM W q s k=(if pQ W<=nY q k then 1 else 0)*kg s k:=by
 cases k with
 |zero=>show(0:Rat)=_*0;grind
 |succ k=>
  show(if pQ W<=nY q (k+1)then nY s (k+1)else 0)=_;rw[pq hs];split<;>grind
theorem xu (W:Rat) (q:Nat->Rat):∀n,kg (tJ W q) n=wu W q n
 |0=>rfl
 |n+1=>by
  show kg (tJ W q) n+(wu W q (n+1)-wu W q n)=_;rw[xu W q n];grind
theorem t8 (W:Rat) (q s:Nat->Rat):∀n,kg (Dg W q s) n=xM W q s n
 |0=>rfl
 |n+1=>by
  show kg (Dg W q s) n+(xM W q s (n+1)-xM W q s n)=_;rw[t8 W q s n];grind
theorem RG (h1:∀j,j<n->0<=q j) (h2:∀j,j<n->q j<=q' j) (hk:k<n):tJ W q k<=tJ W q' k:=by
 have a:=oa (n:=k) λj hj=>h2 j oO;have b:=h2 k hk;have c:=h1 k hk;unfold tJ;rw[pY,pY,pY,pY,pq λj hj=>h1 j oO,pq λj hj=>h1 j oO,pq λj hj=>eR (h1 j oO) (h2 j oO),pq λj hj=>eR (h1 j oO) (h2 j oO)];have e1:kg q (k+1)=kg q k+q k:=rfl;have e2:kg q' (k+1)=kg q' k+q' k:=rfl;rw[e1,e2];generalize kg q k=x at*;generalize kg q' k=y at*;generalize pQ W=w at*;rcases mJ (x+q k-w)with g1|g1<;>rcases mJ (x-w)with g2|g2<;>rcases mJ (y+q' k-w)with g3|g3<;>rcases mJ (y-w)with g4|g4<;>grind
theorem VO (h1:∀j,j<n->0<=q j) (hk:k<n):0<=tJ W q k:=by
 have a:=np (n:=k) λj hj=>h1 j oO;have c:=h1 k hk;unfold tJ;rw[pY,pY,pq λj hj=>h1 j oO,pq λj hj=>h1 j oO];have e1:kg q (k+1)=kg q k+q k:=rfl;rw[e1];generalize kg q k=x at*;generalize pQ W=w at*;rcases mJ (x+q k-w)with g1|g1<;>rcases mJ (x-w)with g2|g2<;>grind
def yd (W:Rat) (q:Nat->Rat) (n:Nat):Rat:=kg q n-kg (tJ W q) n
theorem Ln (h1:∀j,j<n->0<=q j) (h2:∀j,j<n->q j<=q' j):yd W q n<=yd W q' n:=by
 have a:=oa h2;unfold yd;rw[xu,xu,pY,pY,pq h1,pq λj hj=>eR (h1 j hj) (h2 j hj)];generalize kg q n=x at*;generalize kg q' n=y at*;generalize pQ W=w at*;rcases mJ (x-w)with g2|g2<;>rcases mJ (y-w)with g4|g4<;>grind
theorem VE (h1:∀j,j<n->0<=q j):0<=yd W q n:=by
 have a:=np h1;have b:0<=pQ W:=by rcases mJ W with g|g<;>grind
 unfold yd;rw[xu,pY,pq h1];generalize kg q n=x at*;generalize pQ W=w at*;rcases mJ (x-w)with g2|g2<;>grind
theorem VY (h1:∀j,j<n->0<=q j) (hs:∀j,j<n->0<=s j) (hk:k<n):0<=Dg W q s k:=by
 have a:=np (n:=k) λj hj=>hs j oO;have b:=hs k hk;have c:=h1 k hk;unfold Dg;rw[tQ W q λj hj=>hs j oO,tQ W q λj hj=>hs j oO,pq λj hj=>h1 j oO,pq λj hj=>h1 j oO];have e1:kg q (k+1)=kg q k+q k:=rfl;have e2:kg s (k+1)=kg s k+s k:=rfl;rw[e1,e2];generalize kg q k=x at*;generalize kg s k=y at*;generalize pQ W=w at*;by_cases g1:w<=x
 ·rw[aj g1,aj (by grind)];grind
 ·rw[ah g1];split<;>grind
def Dt (W:Rat) (q s:Nat->Rat) (n:Nat):Rat:=kg s n-kg (Dg W q s) n
theorem SU (hs:∀j,j<n->0<=s j):0<=Dt W q s n:=by
 have a:=np hs;unfold Dt;rw[t8,tQ W q hs];split<;>grind
theorem S9 (h1:∀j,j<n->0<=q j) (hs:∀j,j<n->0<=s j) (h0:0<=h) (hl:∀k,k<n->0<pQ W-kg q (k+1)->0<kg s (k+1)->h*kg s (k+1)<=pQ W-kg q (k+1)) (hk:k<=n):
  wu W (λj=>q j+h*s j) k=wu W q k+h*xM W q s k:=by
 have a:=np (n:=k) λj hj=>hs j oO;rw[pY,pY,tQ W q λj hj=>hs j oO,pq λj hj=>h1 j oO,pq λj hj=>by
  have b:=h1 j oO;have c:=nl h0 (hs j oO);grind,mV]
 have hl2:0<pQ W-kg q k->0<kg s k->h*kg s k<=pQ W-kg q k:=by
  cases k with
  |zero=>intro _ g;exact absurd g dz
  |succ k=>exact hl k oO
 have hha:=nl h0 a;generalize kg q k=x at*;generalize kg s k=y at*;generalize pQ W=w at*;by_cases g1:w<=x
 ·rw[aj g1];rcases mJ (x-w)with g2|g2<;>rcases mJ (x+h*y-w)with g3|g3<;>grind
 ·rw[ah g1];by_cases g4:0<y
  ·have:=hl2 (by grind) g4;rcases mJ (x-w)with g2|g2<;>rcases mJ (x+h*y-w)with g3|g3<;>grind
  ·have e:y=0:=by grind
   rw[e];rcases mJ (x-w)with g2|g2<;>rcases mJ (x+h*0-w)with g3|g3<;>grind
end
theorem tb {α:Type} (f:α->Rat) (r:Nat->List α):∀k,mU f (mL r k)=kg (λi=>mU f (r i)) k
 |0=>rfl
 |k+1=>by rw[oC,rW,tb f r k];rfl
theorem Hv {α:Type} (f:α->Rat) (d:α):∀l:List α,mU f l=kg (λb=>f (l.getD b d)) l.length
 | []=>rfl
 |a::l=>by
  rw[bj,Ah];show f a+mU f l=f a+kg (λb=>f (l.getD b d)) l.length;rw[Hv f d l]
theorem Si (a b:Nat):∀(T:List IZ) (M:Mx),T.foldl (λM o=>ry M o.1 o.2.1 o.2.2) M a b=M a b+mU (λo=>if o.1=a/\o.2.1=b then o.2.2 else 0) T
 | [],M=>by show M a b=M a b+0;grind
 |o::T,M=>by
  show T.foldl (λM o=>ry M o.1 o.2.1 o.2.2) (ry M o.1 o.2.1 o.2.2) a b=M a b+((if o.1=a/\o.2.1=b then o.2.2 else 0)+mU _ T);rw[Si a b T];have:ry M o.1 o.2.1 o.2.2 a b=M a b+if o.1=a/\o.2.1=b then o.2.2 else 0:=by
   unfold ry;by_cases h:a=o.1/\b=o.2.1
   ·rw[aj h,aj ⟨h.1.symm,h.2.symm⟩,h.1,h.2]
   ·rw[ah h,ah λg=>h ⟨g.1.symm,g.2.symm⟩];grind
  rw[this];grind
def pR (g:mZ) (B:Nat->Nat->Bool) (v:Nat->Nat->Rat) (j i:Nat):Rat:=kg (λc=>if(g.c i c).h=(j:Int)/\B i c=false then v i c else 0) (g.cn i)
def o5 (g:mZ) (d j:Nat) (r:Nat->Rat) (s:Rat):Rat:=kg (λk=>if(g.lg d k).1=j then r k else 0) (mw g d)+if 0<mw g d/\Gr g d=(j:Int)then s else 0
def F0 (g:mZ) (B:Nat->Nat->Bool) (dl:Nat->Nat->Rat) (j:Nat):Rat:=
 kg (pR g B dl j) g.n+kg (λd=>o5 g d j (tJ (g.d d).W (qD g dl d)) (yd (g.d d).W (qD g dl d) (mw g d))) g.ds.length
section
variable {g : mZ} {B : Nat → Nat → Bool} {v v' : Nat → Nat → Rat} {j i d : Nat} {r r' : Nat → Rat} {s s' t : Rat}
theorem HN (g:mZ) (B:Nat->Nat->Bool) (v v':Nat->Nat->Rat) (t:Rat) (j i:Nat):pR g B (λi c=>v i c+t*v' i c) j i=pR g B v j i+t*pR g B v' j i:=by
 unfold pR;rw[<-mV];exact kp λc _=>by split<;>grind
theorem RX (h:∀c,c<g.cn i->v i c<=v' i c):pR g B v j i<=pR g B v' j i:=oa λc hc=>by
 have:=h c hc;split<;>grind
theorem KG (h:∀c,c<g.cn i->0<=v i c):0<=pR g B v j i:=np λc hc=>by
 have:=h c hc;split<;>grind
theorem Cl (g:mZ) (d j:Nat) (r r':Nat->Rat) (s s' t:Rat):o5 g d j (λk=>r k+t*r' k) (s+t*s')=o5 g d j r s+t*o5 g d j r' s':=by
 unfold o5;have e:kg (λk=>if(g.lg d k).1=j then r k+t*r' k else 0) (mw g d)=kg (λk=>if(g.lg d k).1=j then r k else 0) (mw g d)+t*kg (λk=>if(g.lg d k).1=j then r' k else 0) (mw g d):=by
  rw[<-mV];exact kp λc _=>by split<;>grind
 rw[e];split<;>grind
theorem yf (h:∀k,k<mw g d->r k=r' k):o5 g d j r s=o5 g d j r' s:=by
 unfold o5;rw[kp λk hk=>by rw[h k hk]]
theorem Rt (h:∀k,k<mw g d->r k<=r' k) (hs:s<=s'):o5 g d j r s<=o5 g d j r' s':=by
 have a:=oa (f:=λk=>if(g.lg d k).1=j then r k else 0) (g:=λk=>if(g.lg d k).1=j then r' k else 0) (n:=mw g d) λk hk=>by
  have:=h k hk;split<;>grind
 unfold o5;split<;>grind
theorem Lj (h:∀k,k<mw g d->0<=r k) (hs:0<=s):0<=o5 g d j r s:=by
 have a:=np (f:=λk=>if(g.lg d k).1=j then r k else 0) (n:=mw g d) λk hk=>by
  have:=h k hk;split<;>grind
 unfold o5;split<;>grind
theorem OO {n:Nat} {a:Nat->Rat} (x:Nat) (hx:x<n):kg (λj=>if x=j then a j else 0) n=a x:=by
 rw[nz (p:=x) hx λi _ hi=>ah λe=>hi e.symm,aj rfl]
theorem JN {n:Nat} {a:Rat} (ha:0<=a) (x:Int) (p:Prop) [Decidable p]:kg (λj=>if x=(j:Int)/\p then a else 0) n<=if p then a else 0:=by
 by_cases hp:p
 ·rw[aj hp];by_cases hx:∃k:Nat,k<n/\x=k
  ·obtain⟨k,hk,e⟩:=hx;rw[nz (p:=k) hk λi _ hi=>ah λh=>hi oO];split
   ·exact bS
   ·exact ha
  ·rw[lr λi hi=>ah λh=>hx ⟨i,hi,h.1⟩];exact ha
 ·rw[ah hp,lr λi _=>ah λh=>hp h.2];exact bS
theorem HS (h:∀c,c<g.cn i->0<=v i c) (n:Nat):kg (λj=>pR g B v j i) n<=kg (λc=>if B i c=false then v i c else 0) (g.cn i):=by
 unfold pR;rw[pI];exact oa λc hc=>JN (h c hc) _ _
theorem Hm {n:Nat} (hl:∀k,k<mw g d->(g.lg d k).1<n) (hs:0<=s):kg (λj=>o5 g d j r s) n<=kg r (mw g d)+s:=by
 have e1:kg (λj=>kg (λk=>if(g.lg d k).1=j then r k else 0) (mw g d)) n=kg r (mw g d):=by
  rw[pI];exact kp λk hk=>OO (a:=λ_=>r k) _ (hl k hk)
 have e2:kg (λj=>if 0<mw g d/\Gr g d=(j:Int)then s else 0) n<=s:=by
  have h1:=JN (n:=n) hs (Gr g d) (0<mw g d);have h2:kg (λj=>if 0<mw g d/\Gr g d=(j:Int)then s else 0) n=kg (λj=>if Gr g d=(j:Int)/\0<mw g d then s else 0) n:=kp λj _=>by simp only[and_comm]
  rw[h2];split at h1<;>grind
 unfold o5;rw[n6,e1];grind
end
def AL (g:mZ):List (Nat×Nat):=mL (λd=>(g.d d).legs) g.ds.length
structure nB (g:mZ) (Y:Nat->Ly) (B:Nat->Nat->Bool):Prop where
 ly:∀i,i<g.n->pz (Y i)
 yn:∀i,i<g.n->(Y i).n=g.cn i
 cash:∀i,i<g.n->0<=A1 g i
 ho:P6 g
 lg:uh g
 lb:∀i,i<g.n->∀c,c<g.cn i->(B i c=true↔(i,c)∈AL g)
 nd:(AL g).Nodup
theorem Tg {g:mZ} {p:Nat×Nat}:p∈AL g↔∃d,d<g.ds.length/\p∈(g.d d).legs:=by
 unfold AL mL;rw[dQ];constructor
 ·rintro⟨d,h1,h2⟩;exact⟨d,cW.1 h1,h2⟩
 ·rintro⟨d,h1,h2⟩;exact⟨d,cW.2 h1,h2⟩
theorem Us (g:mZ) (f:Nat->Nat->Rat):kg (λd=>kg (λk=>f (g.lg d k).1 (g.lg d k).2) (mw g d)) g.ds.length=mU (λp=>f p.1 p.2) (AL g):=by
 unfold AL;rw[tb];exact kp λd _=>(Hv (λp:Nat×Nat=>f p.1 p.2) (0,0) (g.d d).legs).symm
theorem GD (n:Nat) (cn:Nat->Nat) (f:Nat->Nat->Rat):∀ {l:List (Nat×Nat)},l.Nodup->(∀p∈l,p.1<n/\p.2<cn p.1)->mU (λp=>f p.1 p.2) l=kg (λi=>kg (λc=>if(i,c)∈l then f i c else 0) (cn i)) n
 | [],_,_=>(lr λi _=>lr λc _=>by simp).symm
 |p::l,hn,hr=>by
  have hp:=(gV.1 hn).1;obtain⟨h1,h2⟩:=hr p (aQ ..);show f p.1 p.2+mU _ l=_;rw[GD n cn f (gV.1 hn).2 λq hq=>hr q (aK _ hq)];have e1:kg (λi=>kg (λc=>if(i,c)=p then f i c else 0) (cn i)) n=f p.1 p.2:=by
   rw[nz (p:=p.1) h1 λi _ hi=>lr λc _=>ah λe=>hi (by rw[<-e]),nz (p:=p.2) h2 λc _ hc=>ah λe=>hc (by rw[<-e]),aj rfl]
  rw[<-e1,<-n6];refine kp λi _=> ?_;rw[<-n6];refine kp λc _=> ?_;by_cases e:(i,c)=p
  ·rw[aj e,ah (by rw[e];exact hp),aj (by rw[e];exact aQ ..)];grind
  ·rw[ah e];by_cases e2:(i,c)∈l
   ·rw[aj e2,aj (aK _ e2)];grind
   ·rw[ah e2,ah λh=>(bJ.1 h).elim e e2];grind
theorem Km {g:mZ} {Y:Nat->Ly} {B:Nat->Nat->Bool} (G:nB g Y B) (f:Nat->Nat->Rat):kg (λd=>kg (λk=>f (g.lg d k).1 (g.lg d k).2) (mw g d)) g.ds.length+kg (λi=>kg (λc=>if B i c=false then f i c else 0) (g.cn i)) g.n=kg (λi=>kg (f i) (g.cn i)) g.n:=by
 rw[Us,GD g.n g.cn f G.nd λp hp=> ?_,<-n6]
 ·refine kp λi hi=> ?_;rw[<-n6];refine kp λc hc=> ?_;have:=G.lb i hi c hc;by_cases e:(i,c)∈AL g
  ·rw[aj e,this.2 e,ah dD];grind
  ·rw[ah e,aj (by cases hb:B i c with|false=>rfl|true=>exact absurd (this.1 hb) e)];grind
 ·obtain⟨d,hd,hp⟩:=Tg.1 hp;obtain⟨k,hk,e⟩:=fy hp;have h:=G.lg d hd k hk;have e2:g.lg d k=p:=by
   show(g.d d).legs.getD k (0,0)=p;rw[ap,aJ hk,e];rfl
  rw[e2]at h;exact h
section
variable {W : Rat} {q : Nat → Rat} {s : Nat → Nat → Rat} {d : Nat → Rat} {n k : Nat}
theorem FB (hs:∀i,i<n->∀j,j<k->0<=s i j) (hd:∀i,i<n->0<=d i):kg (λi=>d i*xM W q (s i) k) n=xM W q (λj=>kg (λi=>d i*s i j) n) k:=by
 rw[tQ W q λj hj=>np λi hi=>nl (hd i hi) (hs i hi j hj),pI,<-qm];refine kp λi hi=> ?_;rw[tQ W q (hs i hi),qm];grind
theorem Tt (hs:∀i,i<n->∀j,j<k+1->0<=s i j) (hd:∀i,i<n->0<=d i):kg (λi=>d i*Dg W q (s i) k) n=Dg W q (λj=>kg (λi=>d i*s i j) n) k:=by
 unfold Dg;rw[<-FB hs hd,<-FB (k:=k) (λi hi j hj=>hs i hi j oO) hd,<-og];exact kp λi _=>by grind
theorem TV (hs:∀i,i<n->∀j,j<k->0<=s i j) (hd:∀i,i<n->0<=d i):kg (λi=>d i*Dt W q (s i) k) n=Dt W q (λj=>kg (λi=>d i*s i j) n) k:=by
 unfold Dt;rw[t8,<-FB hs hd,pI,<-og];refine kp λi _=> ?_;rw[t8,qm];grind
end
section
variable {g : mZ} {Y : Nat → Ly} {B : Nat → Nat → Bool} {dl sl dl' sl' : Nat → Nat → Rat}
theorem Eh (g:mZ) (e j:Nat) (d:Nat->Rat) (r:Nat->Nat->Rat) (s:Nat->Rat):∀n,kg (λi=>d i*o5 g e j (r i) (s i)) n=o5 g e j (λk=>kg (λi=>d i*r i k) n) (kg (λi=>d i*s i) n)
 |0=>by
  unfold o5;rw[lr (f:=λk=>if(g.lg e k).1=j then kg (λi=>d i*r i k) 0 else 0) λk _=>by split<;>rfl];show(0:Rat)=0+if _ then 0 else 0
  split<;>grind
 |n+1=>by
  show kg _ n+d n*o5 g e j (r n) (s n)=o5 g e j (λk=>kg (λi=>d i*r i k) n+d n*r n k) (kg (λi=>d i*s i) n+d n*s n);rw[Eh g e j d r s n,Cl]
def HG (g:mZ) (B:Nat->Nat->Bool) (dl sl:Nat->Nat->Rat) (j i:Nat):Rat:=pR g B sl j i+kg (λd=>o5 g d j (wY g dl sl d i) (Dt (g.d d).W (qD g dl d) (qS g sl d i) (mw g d))) g.ds.length
theorem FD {α:Type} (f:α->Rat) (p:Prop) [Decidable p] (a:α):mU f (if p then [a]else [])=if p then f a else 0:=by
 split
 ·show f a+0=f a;grind
 ·rfl
theorem KB (hho:P6 g) (hl:uh g) {i:Nat} (hi:i<g.n) (j:Nat):y0 (IP g B dl sl) j i=HG g B dl sl j i:=by
 have h0:=Si j i (IP g B dl sl) λ_ _=>0;have h1:y0 (IP g B dl sl) j i=mU (λo=>if o.1=j/\o.2.1=i then o.2.2 else 0) (IP g B dl sl):=by
  unfold y0;rw[h0];grind
 rw[h1];unfold IP HG;rw[rW,tb,tb];congr 1
 ·rw[nz (p:=i) hi λi' _ hne=> ?_]
  ·unfold AZ pR;rw[tb];refine kp λc hc=> ?_;unfold sS;rw[FD];by_cases e:(g.c i c).h= -1
   ·rw[ah λh=>h.1 e,ah λh=>oO]
   ·obtain⟨a,_,ea⟩:=hho i hi c hc e;rw[ea];by_cases hb:B i c=false
    ·rw[aj ⟨oO,hb⟩];by_cases e2:a=j
     ·rw[aj ⟨by rw[e2];rfl,rfl⟩,aj ⟨oO,hb⟩]
     ·rw[ah λh=>e2 h.1,ah λh=>e2 oO]
    ·rw[ah λh=>hb h.2,ah λh=>hb h.2]
  ·unfold AZ;rw[tb];refine lr λc _=> ?_;unfold sS;rw[FD];split
   ·exact ah λh=>hne h.2
   ·rfl
 ·refine kp λd hd=> ?_;unfold Dl;rw[tb,nz (p:=i) hi λi' _ hne=> ?_]
  ·unfold wB o5;rw[rW,tb];congr 1
   ·refine kp λk _=> ?_;show(if(g.lg d k).1=j/\i=i then wY g dl sl d i k else 0)+0=_;by_cases e:(g.lg d k).1=j
    ·rw[aj ⟨e,rfl⟩,aj e];grind
    ·rw[ah λh=>e h.1,ah e];grind
   ·unfold z6;rw[FD];by_cases e:0<mw g d
    ·by_cases e2:Gr g d= -1
     ·rw[ah λh=>h.2 e2,ah λh=>oO]
     ·obtain⟨a,_,ea⟩:=hho (g.lg d 0).1 (hl d hd 0 e).1 (g.lg d 0).2 (hl d hd 0 e).2 e2;have ea':Gr g d=a:=ea;rw[aj ⟨e,e2⟩,ea'];by_cases e3:a=j
      ·rw[aj ⟨by rw[e3];rfl,rfl⟩,aj ⟨e,oO⟩];rfl
      ·rw[ah λh=>e3 h.1,ah λh=>e3 oO]
    ·rw[ah λh=>e h.1,ah λh=>e h.1]
  ·unfold wB;rw[rW,tb,lr λk _=> ?_]
   ·unfold z6;rw[FD];split
    ·rw[ah λh=>hne h.2];grind
    ·grind
   ·show(if(g.lg d k).1=j/\i'=i then wY g dl sl d i' k else 0)+0=_;rw[ah λh=>hne h.2];grind
structure A5 (g:mZ) (v:Nat->Nat->Rat):Prop where
 nn:∀i,i<g.n->∀c,c<g.cn i->0<=v i c
theorem B4 (G:nB g Y B) (h:A5 g dl) {d:Nat} (hd:d<g.ds.length) {k:Nat} (hk:k<mw g d):0<=qD g dl d k:=h.nn _ (G.lg d hd k hk).1 _ (G.lg d hd k hk).2
theorem BL (G:nB g Y B) (h:A5 g sl) {d:Nat} (hd:d<g.ds.length) (i:Nat) {k:Nat} (hk:k<mw g d):0<=qS g sl d i k:=by
 have:=h.nn _ (G.lg d hd k hk).1 _ (G.lg d hd k hk).2;unfold qS;split
 ·exact this
 ·exact bS
theorem Th (G:nB g Y B) (hd:A5 g dl) (hs:A5 g sl) {i:Nat} (hi:i<g.n) (j:Nat):0<=HG g B dl sl j i:=by
 have h1:=KG (g:=g) (B:=B) (v:=sl) (j:=j) (i:=i) λc hc=>hs.nn i hi c hc;have h2:=np (f:=λd=>o5 g d j (wY g dl sl d i) (Dt (g.d d).W (qD g dl d) (qS g sl d i) (mw g d))) (n:=g.ds.length) λd hd'=>
  Lj (λk hk=>VY (λk hk=>B4 G hd hd' hk) (λk hk=>BL G hs hd' i hk) hk) (SU λk hk=>BL G hs hd' i hk)
 unfold HG;grind
theorem JU (G:nB g Y B) (hs:A5 g sl) {i:Nat} (hi:i<g.n):kg (λj=>HG g B dl sl j i) g.n<=kg (sl i) (g.cn i):=by
 have e:kg (λj=>HG g B dl sl j i) g.n=kg (λj=>pR g B sl j i) g.n+kg (λd=>kg (λj=>o5 g d j (wY g dl sl d i) (Dt (g.d d).W (qD g dl d) (qS g sl d i) (mw g d))) g.n) g.ds.length:=by
  rw[<-pI (λj d=>o5 g d j (wY g dl sl d i) (Dt (g.d d).W (qD g dl d) (qS g sl d i) (mw g d))),<-n6];rfl
 have h2:=HS (g:=g) (B:=B) (v:=sl) (i:=i) (λc hc=>hs.nn i hi c hc) g.n;have h3:=oa (f:=λd=>kg (λj=>o5 g d j (wY g dl sl d i) (Dt (g.d d).W (qD g dl d) (qS g sl d i) (mw g d))) g.n) (g:=λd=>kg (qS g sl d i) (mw g d)) (n:=g.ds.length) λd hd'=>by
  have h4:=Hm (g:=g) (d:=d) (r:=wY g dl sl d i) (s:=Dt (g.d d).W (qD g dl d) (qS g sl d i) (mw g d)) (n:=g.n) (λk hk=>(G.lg d hd' k hk).1) (SU λk hk=>BL G hs hd' i hk);have h5:Dt (g.d d).W (qD g dl d) (qS g sl d i) (mw g d)=kg (qS g sl d i) (mw g d)-kg (wY g dl sl d i) (mw g d):=rfl;grind
 have h6:=Km G λa c=>if a=i then sl a c else 0
 have h7:kg (λd=>kg (λk=>if(g.lg d k).1=i then sl (g.lg d k).1 (g.lg d k).2 else 0) (mw g d)) g.ds.length=kg (λd=>kg (qS g sl d i) (mw g d)) g.ds.length:=rfl;have h8:kg (λa=>kg (λc=>if B a c=false then(if a=i then sl a c else 0)else 0) (g.cn a)) g.n=kg (λc=>if B i c=false then sl i c else 0) (g.cn i):=by
  rw[nz (p:=i) hi λa _ ha=>lr λc _=>by rw[ah ha];split<;>rfl];exact kp λc _=>by rw[aj rfl]
 have h9:kg (λa=>kg (λc=>if a=i then sl a c else 0) (g.cn a)) g.n=kg (sl i) (g.cn i):=by
  rw[nz (p:=i) hi λa _ ha=>lr λc _=>ah ha];exact kp λc _=>aj rfl
 rw[h7,h8,h9]at h6;rw[e];grind
theorem QK (G:nB g Y B) (h0:A5 g dl) (h:∀i,i<g.n->∀c,c<g.cn i->dl i c<=dl' i c) (j:Nat):F0 g B dl j<=F0 g B dl' j:=by
 have h1:=oa (f:=pR g B dl j) (g:=pR g B dl' j) (n:=g.n) λi hi=>RX λc hc=>h i hi c hc;have hq:∀d,d<g.ds.length->∀k,k<mw g d->qD g dl d k<=qD g dl' d k:=λd hd k hk=>h _ (G.lg d hd k hk).1 _ (G.lg d hd k hk).2;have h2:=oa (f:=λd=>o5 g d j (tJ (g.d d).W (qD g dl d)) (yd (g.d d).W (qD g dl d) (mw g d))) (g:=λd=>o5 g d j (tJ (g.d d).W (qD g dl' d)) (yd (g.d d).W (qD g dl' d) (mw g d))) (n:=g.ds.length) λd hd=>
  Rt (λk hk=>RG (λk hk=>B4 G h0 hd hk) (hq d hd) hk) (Ln (λk hk=>B4 G h0 hd hk) (hq d hd))
 unfold F0;grind
theorem Vn (G:nB g Y B) (h0:A5 g dl) (j:Nat):0<=F0 g B dl j:=by
 have h1:=np (f:=pR g B dl j) (n:=g.n) λi hi=>KG λc hc=>h0.nn i hi c hc;have h2:=np (f:=λd=>o5 g d j (tJ (g.d d).W (qD g dl d)) (yd (g.d d).W (qD g dl d) (mw g d))) (n:=g.ds.length) λd hd=>
  Lj (λk hk=>VO (λk hk=>B4 G h0 hd hk) hk) (VE λk hk=>B4 G h0 hd hk)
 unfold F0;grind
theorem TJ (g:mZ) (B:Nat->Nat->Bool) (dl dl':Nat->Nat->Rat) (j:Nat):F0 g B dl' j-F0 g B dl j=kg (pR g B (λi c=>dl' i c+ -1*dl i c) j) g.n+kg (λd=>o5 g d j (λk=>tJ (g.d d).W (qD g dl' d) k+ -1*tJ (g.d d).W (qD g dl d) k) (yd (g.d d).W (qD g dl' d) (mw g d)+ -1*yd (g.d d).W (qD g dl d) (mw g d))) g.ds.length:=by
 rw[kp λi _=>HN g B dl' dl (-1) j i,kp λd _=>Cl g d j (tJ (g.d d).W (qD g dl' d)) (tJ (g.d d).W (qD g dl d)) (yd (g.d d).W (qD g dl' d) (mw g d)) (yd (g.d d).W (qD g dl d) (mw g d)) (-1),mV,mV];unfold F0;grind
theorem Qd (G:nB g Y B) (h0:A5 g dl) (h:∀i,i<g.n->∀c,c<g.cn i->dl i c<=dl' i c):kg (F0 g B dl') g.n-kg (F0 g B dl) g.n<=kg (λi=>kg (dl' i) (g.cn i)-kg (dl i) (g.cn i)) g.n:=by
 have hq:∀d,d<g.ds.length->∀k,k<mw g d->qD g dl d k<=qD g dl' d k:=λd hd k hk=>h _ (G.lg d hd k hk).1 _ (G.lg d hd k hk).2;rw[<-og,kp λj _=>TJ g B dl dl' j,n6,pI,pI (λj d=>o5 g d j (λk=>tJ (g.d d).W (qD g dl' d) k+ -1*tJ (g.d d).W (qD g dl d) k) (yd (g.d d).W (qD g dl' d) (mw g d)+ -1*yd (g.d d).W (qD g dl d) (mw g d)))];have h1:=oa (f:=λi=>kg (λj=>pR g B (λi c=>dl' i c+ -1*dl i c) j i) g.n) (g:=λi=>kg (λc=>if B i c=false then dl' i c+ -1*dl i c else 0) (g.cn i)) (n:=g.n) λi hi=>
  HS (λc hc=>by have:=h i hi c hc;grind) g.n
 have h2:=oa (f:=λd=>kg (λj=>o5 g d j (λk=>tJ (g.d d).W (qD g dl' d) k+ -1*tJ (g.d d).W (qD g dl d) k) (yd (g.d d).W (qD g dl' d) (mw g d)+ -1*yd (g.d d).W (qD g dl d) (mw g d))) g.n) (g:=λd=>kg (λk=>dl' (g.lg d k).1 (g.lg d k).2+ -1*dl (g.lg d k).1 (g.lg d k).2) (mw g d)) (n:=g.ds.length) λd hd=>by
  have h4:=Hm (g:=g) (d:=d) (r:=λk=>tJ (g.d d).W (qD g dl' d) k+ -1*tJ (g.d d).W (qD g dl d) k) (s:=yd (g.d d).W (qD g dl' d) (mw g d)+ -1*yd (g.d d).W (qD g dl d) (mw g d)) (n:=g.n) (λk hk=>(G.lg d hd k hk).1) (by
   have:=Ln (W:=(g.d d).W) (λk hk=>B4 G h0 hd hk) (hq d hd);grind)
  rw[mV]at h4;rw[mV];have e1:kg (λk=>dl' (g.lg d k).1 (g.lg d k).2) (mw g d)=kg (qD g dl' d) (mw g d):=rfl;have e2:kg (λk=>dl (g.lg d k).1 (g.lg d k).2) (mw g d)=kg (qD g dl d) (mw g d):=rfl;unfold yd at h4⊢;grind
 have h3:=Km G λi c=>dl' i c+ -1*dl i c;have h5:kg (λi=>kg (dl' i) (g.cn i)-kg (dl i) (g.cn i)) g.n=kg (λi=>kg (λc=>dl' i c+ -1*dl i c) (g.cn i)) g.n:=kp λi _=>by rw[mV];grind
 rw[h5];grind
def De (g:mZ) (sl:Nat->Nat->Rat) (d:Nat->Rat) (e k:Nat):Rat:=sl (g.lg e k).1 (g.lg e k).2*d (g.lg e k).1
theorem TI (G:nB g Y B) (h0:A5 g dl) (hs:A5 g sl) {d:Nat->Rat} (hd:∀i,i<g.n->0<=d i) {h:Rat} (hh:0<=h) (hl:∀i,i<g.n->∀c,c<g.cn i->dl' i c=dl i c+(h*d i)*sl i c)
  (hw:∀e,e<g.ds.length->∀k,k<mw g e->0<pQ (g.d e).W-kg (qD g dl e) (k+1)->0<kg (De g sl d e) (k+1)->h*kg (De g sl d e) (k+1)<=pQ (g.d e).W-kg (qD g dl e) (k+1)) (j:Nat):
  F0 g B dl' j=F0 g B dl j+h*mM (HG g B dl sl) d g.n j:=by
 have e1:mM (HG g B dl sl) d g.n j=kg (pR g B (λi c=>d i*sl i c) j) g.n+kg (λe=>o5 g e j (Dg (g.d e).W (qD g dl e) (De g sl d e)) (Dt (g.d e).W (qD g dl e) (De g sl d e) (mw g e))) g.ds.length:=by
  have a1:∀i,HG g B dl sl j i*d i=d i*pR g B sl j i+kg (λe=>d i*o5 g e j (wY g dl sl e i) (Dt (g.d e).W (qD g dl e) (qS g sl e i) (mw g e))) g.ds.length:=λi=>by
   unfold HG;rw[qm];grind
  show kg (λi=>HG g B dl sl j i*d i) g.n=_;rw[kp λi _=>a1 i,n6,pI];congr 1
  ·refine kp λi _=> ?_;unfold pR;rw[<-qm];exact kp λc _=>by split<;>grind
  ·refine kp λe he=> ?_;rw[Eh];have hS:∀k,k<mw g e->kg (λi=>d i*qS g sl e i k) g.n=De g sl d e k:=λk hk=>by
    rw[nz (p:=(g.lg e k).1) (G.lg e he k hk).1 λi _ hi=>by unfold qS;rw[ah λh=>hi h.symm,dR]];unfold qS De;rw[aj rfl,gu]
   have hn:∀i,i<g.n->∀k,k<mw g e->0<=qS g sl e i k:=λi _ k hk=>BL G hs he i hk;rw[TV hn hd];have c1:Dt (g.d e).W (qD g dl e) (λk=>kg (λi=>d i*qS g sl e i k) g.n) (mw g e)=Dt (g.d e).W (qD g dl e) (De g sl d e) (mw g e):=by
    unfold Dt;rw[t8,t8,tQ _ _ λk hk=>np λi hi=>nl (hd i hi) (hn i hi k hk),kp hS,tQ _ _ λk hk=>by rw[<-hS k hk];exact np λi hi=>nl (hd i hi) (hn i hi k hk)]
   rw[c1];refine yf λk hk=> ?_;have:=Tt (W:=(g.d e).W) (q:=qD g dl e) (s:=qS g sl e) (d:=d) (n:=g.n) (k:=k) (λi hi j hj=>hn i hi j oO) hd;show kg (λi=>d i*Dg (g.d e).W (qD g dl e) (qS g sl e i) k) g.n=_;rw[this];unfold Dg;have hS1:∀m,m<=mw g e->xM (g.d e).W (qD g dl e) (λj=>kg (λi=>d i*qS g sl e i j) g.n) m=xM (g.d e).W (qD g dl e) (De g sl d e) m:=λm hm=>by
    rw[tQ _ _ λk hk=>np λi hi=>nl (hd i hi) (hn i hi k oO),kp λk hk=>hS k oO,tQ _ _ λk hk=>by rw[<-hS k oO];exact np λi hi=>nl (hd i hi) (hn i hi k oO)]
   rw[hS1 _ oO,hS1 _ oO]
 have e2:∀i,i<g.n->pR g B dl' j i=pR g B dl j i+h*pR g B (λi c=>d i*sl i c) j i:=λi hi=>by
  rw[<-HN];refine kp λc hc=> ?_;rw[hl i hi c hc];split<;>grind
 have e3:∀e,e<g.ds.length->o5 g e j (tJ (g.d e).W (qD g dl' e)) (yd (g.d e).W (qD g dl' e) (mw g e))=o5 g e j (tJ (g.d e).W (qD g dl e)) (yd (g.d e).W (qD g dl e) (mw g e))+h*o5 g e j (Dg (g.d e).W (qD g dl e) (De g sl d e)) (Dt (g.d e).W (qD g dl e) (De g sl d e) (mw g e)):=λe he=>by
  have hq:∀k,k<mw g e->qD g dl' e k=qD g dl e k+h*De g sl d e k:=λk hk=>by
   show dl' _ _=dl _ _+_;rw[hl _ (G.lg e he k hk).1 _ (G.lg e he k hk).2];unfold De;grind
  have hn:∀k,k<mw g e->0<=qD g dl e k:=λk hk=>B4 G h0 he hk;have hsn:∀k,k<mw g e->0<=De g sl d e k:=λk hk=>nl (hs.nn _ (G.lg e he k hk).1 _ (G.lg e he k hk).2) (hd _ (G.lg e he k hk).1);have hov:∀k,k<=mw g e->wu (g.d e).W (qD g dl' e) k=wu (g.d e).W (qD g dl e) k+h*xM (g.d e).W (qD g dl e) (De g sl d e) k:=λk hk=>by
   rw[<-S9 hn hsn hh (hw e he) hk,pY,pY];congr 2;exact kp λj hj=>by rw[hq j oO]
  rw[<-Cl];have c1:yd (g.d e).W (qD g dl' e) (mw g e)=yd (g.d e).W (qD g dl e) (mw g e)+h*Dt (g.d e).W (qD g dl e) (De g sl d e) (mw g e):=by
   unfold yd Dt;rw[xu,xu,t8,hov _ (aH _),kp hq,mV];grind
  rw[c1];refine yf λk hk=> ?_;unfold tJ Dg;rw[hov _ oO,hov _ oO];grind
 unfold F0;rw[e1,kp e2,kp e3,mV,mV];grind
end
def Mn (o:Option Rat) (S:Rat->Prop):Prop:=(∀s,S s->∃h,o=some h/\h<=s)/\∀h,o=some h->S h
theorem Mn.add {o:Option Rat} {S:Rat->Prop} (h:Mn o S) (s:Rat):Mn (E8 o s) λr=>S r\/r=s:=by
 obtain⟨h1,h2⟩:=h;cases o with
 |none=>exact⟨λr hr=>⟨s,rfl,by
   rcases hr with hr|hr
   ·obtain⟨_,e,_⟩:=h1 r hr;cases e
   ·rw[hr];exact bS⟩,λr e=> .inr (bN e).symm⟩
 |some a=>
  unfold E8;by_cases g:s<a
  ·simp only[aj g];refine⟨λr hr=>⟨s,rfl,?_⟩,λr e=> .inr (bN e).symm⟩;rcases hr with hr|hr
   ·obtain⟨b,e,hb⟩:=h1 r hr;have:=bN e;grind
   ·rw[hr];exact bS
  ·simp only[ah g];refine⟨λr hr=>⟨a,rfl,?_⟩,λr e=> .inl (by rw[<-bN e];exact h2 a rfl)⟩;rcases hr with hr|hr
   ·obtain⟨b,e,hb⟩:=h1 r hr;have:=bN e;grind
   ·grind
theorem Mn.congr {o:Option Rat} {S S':Rat->Prop} (h:Mn o S) (e:∀r,S r↔S' r):Mn o S':=⟨λs hs=>h.1 s ((e s).2 hs),λr hr=>(e r).1 (h.2 r hr)⟩
section
variable (g : mZ) (Y : Nat → Ly) (F : Nat → Nat) (dl sl : Nat → Nat → Rat) (x d : Nat → Rat)
def VC (n:Nat) (r:Rat):Prop:=∃i,i<n/\0<d i/\∃y,VS Y F x i=some y/\r=(y-x i)/d i
def Wf (e n:Nat) (r:Rat):Prop:=∃k,k<n/\0<zS g dl e (k+1)/\0<By g sl d e (k+1)/\r=zS g dl e (k+1)/By g sl d e (k+1)
def WN (n:Nat) (r:Rat):Prop:=∃e,e<n/\Wf g dl sl d e (mw g e) r
def yT (r:Rat):Prop:=VC Y F x d g.n r\/WN g dl sl d g.ds.length r
theorem Jj:∀n,Mn (Rb Y F x d n) (VC Y F x d n)
 |0=>⟨λ_ ⟨_,h,_⟩=>absurd h (aW _),λ_ h=>by cases h⟩
 |n+1=>by
  have ih:=Jj n;have hold:∀r,VC Y F x d n r->VC Y F x d (n+1) r:=λr ⟨i,h1,h2⟩=>⟨i,oO,h2⟩;show Mn (Qq Y F x d n (Rb Y F x d n)) _;unfold Qq;by_cases hd:0<d n
  ·rw[aj hd];cases hn:VS Y F x n with
   |none=>exact ih.congr λr=>⟨hold r,λ⟨i,h1,h2,y,h3,h4⟩=>by
    by_cases e:i=n
    ·rw[e,hn]at h3;cases h3
    ·exact⟨i,oO,h2,y,h3,h4⟩⟩
   |some y=>exact(ih.add ((y-x n)/d n)).congr λr=>⟨λh=>h.elim (hold r) λh=>⟨n,oO,hd,y,hn,h⟩,λ⟨i,h1,h2,y',h3,h4⟩=>by
    by_cases e:i=n
    ·rw[e,hn]at h3;obtain rfl:=bN h3;exact .inr (by rw[h4,e])
    ·exact .inl ⟨i,oO,h2,y',h3,h4⟩⟩
  ·rw[ah hd];exact ih.congr λr=>⟨hold r,λ⟨i,h1,h2,y,h3,h4⟩=>by
    by_cases e:i=n
    ·rw[e]at h2;exact absurd h2 hd
    ·exact⟨i,oO,h2,y,h3,h4⟩⟩
theorem IA {e:Nat} {o:Option Rat} {S:Rat->Prop} (h:Mn o S):∀n,Mn (KY g dl sl d e o n) λr=>S r\/Wf g dl sl d e n r
 |0=>h.congr λr=>⟨.inl,λh=>h.elim id λ⟨_,h,_⟩=>absurd h (aW _)⟩
 |n+1=>by
  have ih:=IA (e:=e) h n;have hold:∀r,Wf g dl sl d e n r->Wf g dl sl d e (n+1) r:=λr ⟨i,h1,h2⟩=>⟨i,oO,h2⟩;unfold KY;by_cases hc:0<zS g dl e (n+1)/\0<By g sl d e (n+1)
  ·rw[aj hc];refine(ih.add _).congr λr=>⟨λh=> ?_,λh=> ?_⟩
   ·rcases h with(h|h)|h
    ·exact .inl h
    ·exact .inr (hold r h)
    ·exact .inr ⟨n,oO,hc.1,hc.2,h⟩
   ·rcases h with h|⟨i,h1,h2,h3,h4⟩
    ·exact .inl (.inl h)
    ·by_cases e:i=n
     ·exact .inr (by rw[h4,e])
     ·exact .inl (.inr ⟨i,oO,h2,h3,h4⟩)
  ·rw[ah hc];refine ih.congr λr=>⟨λh=>h.elim .inl λh=> .inr (hold r h),λh=> ?_⟩;rcases h with h|⟨i,h1,h2,h3,h4⟩
   ·exact .inl h
   ·by_cases e:i=n
    ·rw[e]at h2 h3;exact absurd ⟨h2,h3⟩ hc
    ·exact .inr ⟨i,oO,h2,h3,h4⟩
theorem Iv:∀n,Mn (Ss g Y F dl sl x d n) λr=>VC Y F x d g.n r\/WN g dl sl d n r
 |0=>(Jj Y F x d g.n).congr λr=>⟨.inl,λh=>h.elim id λ⟨_,h,_⟩=>absurd h (aW _)⟩
 |n+1=>by
  refine(IA g dl sl d (e:=n) (Iv n) (mw g n)).congr λr=>⟨λh=> ?_,λh=> ?_⟩
  ·rcases h with(h|⟨e,h1,h2⟩)|h
   ·exact .inl h
   ·exact .inr ⟨e,oO,h2⟩
   ·exact .inr ⟨n,oO,h⟩
  ·rcases h with h|⟨e,h1,h2⟩
   ·exact .inl (.inl h)
   ·by_cases e1:e=n
    ·rw[e1]at h2;exact .inr h2
    ·exact .inl (.inr ⟨e,oO,h2⟩)
theorem Hh:Mn (KT g Y F dl sl x d) (yT g Y F dl sl x d):=Iv g Y F dl sl x d g.ds.length
end
theorem CA (g:mZ) (dl:Nat->Nat->Rat) (e:Nat):∀k,zS g dl e k=pQ (g.d e).W-kg (qD g dl e) k
 |0=>by show pQ _=pQ _-0;grind
 |k+1=>by
  show zS g dl e k-qD g dl e k=pQ _-(kg (qD g dl e) k+qD g dl e k);rw[CA g dl e k];grind
theorem CL (g:mZ) (sl:Nat->Nat->Rat) (d:Nat->Rat) (e:Nat):∀k,By g sl d e k=kg (De g sl d e) k
 |0=>rfl
 |k+1=>by
  show By g sl d e k+_=kg (De g sl d e) k+_;rw[CL g sl d e k];rfl
def Jm (f:Nat->Nat):Nat->Nat
 |0=>0
 |n+1=>Jm f n+f n
theorem vh {f g:Nat->Nat}:∀ {n:Nat},(∀i,i<n->f i<=g i)->Jm f n<=Jm g n
 |0,_=>aH _
 |n+1,h=>Nat.add_le_add (vh λi hi=>h i oO) (h n oO)
theorem Fj {f g:Nat->Nat}:∀ {n:Nat},(∀i,i<n->f i<=g i)->(∃i,i<n/\f i<g i)->Jm f n<Jm g n
 |0,_,⟨_,h,_⟩=>absurd h (aW _)
 |n+1,h,⟨i,h1,h2⟩=>by
  have a:=vh (n:=n) λi hi=>h i oO;have b:=h n oO;show Jm f n+f n<Jm g n+g n;by_cases e:i=n
  ·rw[e]at h2;omega
  ·have:=Fj (n:=n) (λi hi=>h i oO) ⟨i,oO,h2⟩;omega
def H7 (g:mZ) (Y:Nat->Ly) (x:Nat->Rat):Nat:=
 Jm (λi=>wc (Y i) (x i)) g.n+Jm (λe=>Jm (λk=>if 0<pQ (g.d e).W-kg (qD g (lG Y x) e) (k+1)then 1 else 0) (mw g e)) g.ds.length
section
variable {g : mZ} {Y : Nat → Ly} {B : Nat → Nat → Bool} {x z d : Nat → Rat} {Fu : Nat} {h : Rat}
theorem Eb (G:nB g Y B) (hx:∀i,i<g.n->0<=x i):A5 g (lG Y x):=⟨λi hi _ _=>VI (G.ly i hi) (hx i hi)⟩
theorem H9 (G:nB g Y B) (hx:∀i,i<g.n->0<=x i):A5 g (ow Y x):=⟨λi hi _ _=>VR (G.ly i hi) (hx i hi)⟩
theorem Tb (G:nB g Y B) (hx:∀i,i<g.n->0<=x i) {i:Nat} (hi:i<g.n):kg (ow Y x i) (g.cn i)<=1:=by
 rw[<-G.yn i hi];exact TH (G.ly i hi) (hx i hi)
theorem Bj (G:nB g Y B) (hx:∀i,i<g.n->0<=x i) (hxz:∀i,i<g.n->x i<=z i):∀i,i<g.n->∀c,c<g.cn i->lG Y x i c<=lG Y z i c:=λi hi _ _=>QQ (G.ly i hi) (hx i hi) (hxz i hi)
theorem I7 (G:nB g Y B) (hx:∀i,i<g.n->0<=x i) (hxz:∀i,i<g.n->x i<=z i) (j:Nat):F0 g B (lG Y x) j<=F0 g B (lG Y z) j:=QK G (Eb G hx) (Bj G hx hxz) j
theorem SF (G:nB g Y B) (hx:∀i,i<g.n->0<=x i) (hxz:∀i,i<g.n->x i<=z i):kg (F0 g B (lG Y z)) g.n-kg (F0 g B (lG Y x)) g.n<=kg (λi=>z i-x i) g.n:=by
 refine eR (Qd G (Eb G hx) (Bj G hx hxz)) (oa λi hi=> ?_);have:=Ta (G.ly i hi) (hx i hi) (hxz i hi);rw[G.yn i hi]at this;exact this
theorem xZ (G:nB g Y B) (hx:∀i,i<g.n->0<=x i):SR (qi g Y B x) g.n:=by
 have e:∀i,i<g.n->∀j,qi g Y B x j i=HG g B (lG Y x) (ow Y x) j i:=λi hi j=>KB G.ho G.lg hi j;refine⟨λj _ i hi=>by rw[e i hi];exact Th G (Eb G hx) (H9 G hx) hi j,λi hi=> ?_⟩;unfold qP;rw[kp λj _=>e i hi j];exact eR (JU G (H9 G hx) hi) (Tb G hx hi)
theorem TC (G:nB g Y B) (j:Nat):mM (qi g Y B x) d g.n j=mM (HG g B (lG Y x) (ow Y x)) d g.n j:=kp λi hi=>by rw[show qi g Y B x j i=HG g B (lG Y x) (ow Y x) j i from KB G.ho G.lg hi j]
structure VJ (g:mZ) (Y:Nat->Ly) (B:Nat->Nat->Bool) (x d:Nat->Rat) (h:Rat):Prop where
 lin:∀j,F0 g B (lG Y λi=>x i+h*d i) j=F0 g B (lG Y x) j+h*mM (qi g Y B x) d g.n j
 mu:H7 g Y (λi=>x i+h*d i)<=H7 g Y x
theorem FJ (G:nB g Y B) (hx:∀i,i<g.n->0<=x i) (hd:∀i,i<g.n->0<=d i) (hF:∀i,i<g.n->wc (Y i) (x i)<Fu) (h0:0<=h) (hc:∀r,yT g Y (λ_=>Fu) (lG Y x) (ow Y x) x d r->h<=r):
  VJ g Y B x d h/\(yT g Y (λ_=>Fu) (lG Y x) (ow Y x) x d h->H7 g Y (λi=>x i+h*d i)<H7 g Y x):=by
 have HP:∀i,i<g.n->x i<=x i+h*d i:=λi hi=>by have:=nl h0 (hd i hi);grind
 have hl:∀i,i<g.n->∀c,c<g.cn i->lG Y (λi=>x i+h*d i) i c=lG Y x i c+(h*d i)*ow Y x i c:=λi hi c hc'=>by
  have hn:=FT (G.ly i hi) (hx i hi) (hF i hi);rw[G.yn i hi]at hn;by_cases hd0:0<d i
  ·have hu:=HP i hi;cases hz:Gk (Y i) (x i) Fu (x i)with
   |none=>
    rw[hz]at hn;have:=hn.2 (x i+h*d i) hu c hc';show dC (Y i) (x i+h*d i) c=_;rw[this];show _=dC (Y i) (x i) c+(h*d i)*sC (Y i) (x i) c;grind
   |some y=>
    rw[hz]at hn;have h1:=hc _ (.inl ⟨i,hi,hd0,y,hz,rfl⟩);have h2:=tI (a:=y-x i) hd0;have h3:=nQ h1 (dj hd0);have:=hn.2.2 (x i+h*d i) hu (by grind) c hc';show dC (Y i) (x i+h*d i) c=_;rw[this];show _=dC (Y i) (x i) c+(h*d i)*sC (Y i) (x i) c;grind
  ·have e:d i=0:=by have:=hd i hi;grind
   show dC (Y i) (x i+h*d i) c=dC (Y i) (x i) c+(h*d i)*sC (Y i) (x i) c;rw[e,dR,g8];grind
 have hw:∀e,e<g.ds.length->∀k,k<mw g e->0<pQ (g.d e).W-kg (qD g (lG Y x) e) (k+1)->0<kg (De g (ow Y x) d e) (k+1)->h*kg (De g (ow Y x) d e) (k+1)<=pQ (g.d e).W-kg (qD g (lG Y x) e) (k+1):=λe he k hk h1 h2=>by
  rw[<-CA]at h1⊢;rw[<-CL]at h2⊢;have h3:=hc _ (.inr ⟨e,he,k,hk,h1,h2,rfl⟩);have h4:=tI (a:=zS g (lG Y x) e (k+1)) h2;have h5:=nQ h3 (dj h2);grind
 have hqm:∀e,e<g.ds.length->∀k,k<=mw g e->kg (qD g (lG Y x) e) k<=kg (qD g (lG Y λi=>x i+h*d i) e) k:=λe he k hk=>oa λj hj=>
  Bj G hx HP _ (G.lg e he j (show j<mw g e by omega)).1 _ (G.lg e he j (show j<mw g e by omega)).2
 have hm1:∀i,i<g.n->wc (Y i) (x i+h*d i)<=wc (Y i) (x i):=λi hi=>GY (G.ly i hi) (hx i hi) (HP i hi);have hm2:∀e,e<g.ds.length->∀k,k<mw g e->(if 0<pQ (g.d e).W-kg (qD g (lG Y λi=>x i+h*d i) e) (k+1)then 1 else 0)<=if 0<pQ (g.d e).W-kg (qD g (lG Y x) e) (k+1)then 1 else 0:=λe he k hk=>by
  have:=hqm e he (k+1) hk;split
  ·rw[aj (by grind)];exact aH _
  ·exact aB _
 refine⟨⟨λj=> ?_,Nat.add_le_add (vh hm1) (vh λe he=>vh (hm2 e he))⟩,λhcd=> ?_⟩
 ·rw[TC G];exact TI G (Eb G hx) (H9 G hx) hd h0 hl hw j
 ·have b1:=vh hm1;have b2:=vh λe he=>vh (hm2 e he);show Jm (λi=>wc (Y i) (x i+h*d i)) g.n+_<Jm (λi=>wc (Y i) (x i)) g.n+_;rcases hcd with⟨i,hi,hd0,y,hz,e⟩|⟨e,he,k,hk,h1,h2,e1⟩
  ·have hn:=FT (G.ly i hi) (hx i hi) (hF i hi);have hz':Gk (Y i) (x i) Fu (x i)=some y:=hz;rw[hz']at hn;have h2:=tI (a:=y-x i) hd0;rw[<-e]at h2;have h3:x i+h*d i=y:=by grind
   have:=Fj hm1 ⟨i,hi,by rw[h3];exact hn.2.1⟩;omega
  ·have h4:=tI (a:=zS g (lG Y x) e (k+1)) h2;rw[<-e1]at h4;have h3:kg (qD g (lG Y λi=>x i+h*d i) e) (k+1)=kg (qD g (lG Y x) e) (k+1)+h*kg (De g (ow Y x) d e) (k+1):=by
    rw[<-mV];refine kp λj hj=> ?_;show lG Y _ _ _=lG Y x _ _+_;rw[hl _ (G.lg e he j (show j<mw g e by omega)).1 _ (G.lg e he j (show j<mw g e by omega)).2];unfold De;grind
   rw[CA]at h1 h4;rw[CL]at h2 h4;have:=Fj (λe he=>vh (hm2 e he)) ⟨e,he,Fj (hm2 e he) ⟨k,hk,by
    rw[aj h1,ah (by rw[h3];grind)];exact Nat.zero_lt_one⟩⟩
   omega
theorem BI (G:nB g Y B) (hx:∀i,i<g.n->0<=x i) (hF:∀i,i<g.n->wc (Y i) (x i)<Fu) {r:Rat} (hc:yT g Y (λ_=>Fu) (lG Y x) (ow Y x) x d r):0<r:=by
 rcases hc with⟨i,hi,hd0,y,hz,e⟩|⟨e,he,k,hk,h1,h2,e1⟩
 ·have hn:=FT (G.ly i hi) (hx i hi) (hF i hi);have hz':Gk (Y i) (x i) Fu (x i)=some y:=hz;rw[hz']at hn;rw[e,bT];exact Cm (by have:=hn.1;grind) (AR hd0).1
 ·rw[e1,bT];exact Cm h1 (AR h2).1
end
structure Inv (g:mZ) (Y:Nat->Ly) (B:Nat->Nat->Bool) (x:Nat->Rat) (t:Rat):Prop where
 nn:∀i,i<g.n->0<=x i
 t0:0<=t
 t1:t<=1
 fx:∀j,j<g.n->x j=t*A1 g j+F0 g B (lG Y x) j
structure Sn (g:mZ) (Y:Nat->Ly) (B:Nat->Nat->Bool) (x:Nat->Rat):Prop where
 nn:∀i,i<g.n->0<=x i
 fx:∀j,j<g.n->x j=A1 g j+F0 g B (lG Y x) j
 top:∀y:Nat->Rat,(∀j,j<g.n->0<=y j)->(∀j,j<g.n->y j<=A1 g j+F0 g B (lG Y y) j)->∀j,j<g.n->y j<=x j
section
variable {g : mZ} {Y : Nat → Ly} {B : Nat → Nat → Bool} {x : Nat → Rat} {t : Rat} {Fu : Nat}
theorem Ea (G:nB g Y B) (hF:∀i,i<g.n->∀m,wc (Y i) m<Fu) (h16:g.n<=16) (I:Inv g Y B x t) (hC:rP g Y B x≠ []):
  ∃H,Q1 g Y Fu x (A3 g Y B x)=some H/\0<H/\yT g Y (λ_=>Fu) (lG Y x) (ow Y x) x (A3 g Y B x) H/\Inv g Y B (Mi g Y B Fu x) t/\H7 g Y (Mi g Y B Fu x)<H7 g Y x:=by
 obtain⟨_,l2,l3,l4,l5,_⟩:=yP (xZ G I.nn) rfl hC h16;have hd:∀i,i<g.n->0<=A3 g Y B x i:=λi _=>by
  by_cases e:i∈rP g Y B x
  ·exact dj (l2 i e)
  ·have:A3 g Y B x i=0:=l3 i e;rw[this];exact bS
 have hCn:∀c,c∈rP g Y B x->c<g.n:=λc hc=>(yl (qi g Y B x) g.n (List.replicate g.n true) g.n).2 c hc;have hMn:=Hh g Y (λ_=>Fu) (lG Y x) (ow Y x) x (A3 g Y B x);obtain⟨c,hc⟩:=List.exists_mem_of_ne_nil _ hC;have hcn:=hCn c hc;have hF':∀i,i<g.n->wc (Y i) (x i)<Fu:=λi hi=>hF i hi _;have hcd:∃r,yT g Y (λ_=>Fu) (lG Y x) (ow Y x) x (A3 g Y B x) r:=by
  have hn:=FT (G.ly c hcn) (I.nn c hcn) (hF' c hcn);cases hz:Gk (Y c) (x c) Fu (x c)with
  |some y=>exact⟨_,.inl ⟨c,hcn,l2 c hc,y,hz,rfl⟩⟩
  |none=>
   rw[hz,G.yn c hcn]at hn;have h1:=l5 c hc;have h2:qP (qi g Y B x) c g.n<=kg (ow Y x c) (g.cn c):=by
    unfold qP;rw[kp λj _=>show qi g Y B x j c=HG g B (lG Y x) (ow Y x) j c from KB G.ho G.lg hcn j];exact JU G (H9 G I.nn) hcn
   have h3:kg (ow Y x c) (g.cn c)=0:=lr λk hk=>hn.1 k hk;rw[h1,h3]at h2;exact absurd h2 dD
 obtain⟨r,hr⟩:=hcd;obtain⟨H,eH,_⟩:=hMn.1 r hr;have hcH:=hMn.2 H eH;have hH:=BI G I.nn hF' hcH;obtain⟨s1,s2⟩:=FJ G I.nn hd hF' (dj hH) λr hr=>by
  obtain⟨a,ea,ha⟩:=hMn.1 r hr;rw[eH]at ea;rw[bN ea];exact ha
 have eS:Q1 g Y Fu x (A3 g Y B x)=some H:=eH;have eX:Mi g Y B Fu x=λi=>x i+H*A3 g Y B x i:=by
  funext i;unfold Mi;rw[eS];rfl
 refine⟨H,eS,hH,hcH,?_,by rw[eX];exact s2 hcH⟩;rw[eX];refine⟨λi hi=> ?_,I.t0,I.t1,λj hj=> ?_⟩
 ·have:=nl (dj hH) (hd i hi);have:=I.nn i hi;grind
 ·have h1:=s1.lin j;have h2:=I.fx j hj;have h3:mM (qi g Y B x) (A3 g Y B x) g.n j=A3 g Y B x j:=l4 j hj;rw[h1,h3];grind
theorem zV (G:nB g Y B) (hF:∀i,i<g.n->∀m,wc (Y i) m<Fu) (h16:g.n<=16) (hn0:0<g.n) (I:Inv g Y B x t) (hC:rP g Y B x=[]) (ht:t≠1):
  (∀i,i<g.n->0<=zR g Y B x i)/\0<yx g Y B Fu x t/\t+yx g Y B Fu x t<=1/\Inv g Y B (Gi g Y B Fu x t) (t+yx g Y B Fu x t)/\H7 g Y (Gi g Y B Fu x t)+(if t+yx g Y B Fu x t=1 then 0 else 1)<H7 g Y x+1/\
  (yx g Y B Fu x t=1-t\/yT g Y (λ_=>Fu) (lG Y x) (ow Y x) x (zR g Y B x) (yx g Y B Fu x t)):=by
 obtain⟨_,_,f3,f4,_⟩:=zy (g:=g) (xZ G I.nn) hC hn0 h16 G.cash;have hMn:=Hh g Y (λ_=>Fu) (lG Y x) (ow Y x) x (zR g Y B x);have hF':∀i,i<g.n->wc (Y i) (x i)<Fu:=λi hi=>hF i hi _;have htl:t<1:=by have:=I.t1;grind
 have hh:0<yx g Y B Fu x t/\t+yx g Y B Fu x t<=1/\(∀r,yT g Y (λ_=>Fu) (lG Y x) (ow Y x) x (zR g Y B x) r->yx g Y B Fu x t<=r)/\(yx g Y B Fu x t=1-t\/yT g Y (λ_=>Fu) (lG Y x) (ow Y x) x (zR g Y B x) (yx g Y B Fu x t)):=by
  unfold yx Q1;cases hz:KT g Y (λ_=>Fu) (lG Y x) (ow Y x) x (zR g Y B x)with
  |none=>
   refine⟨by show 0<1-t;grind,by show t+(1-t)<=1;grind,λr hr=> ?_,.inl rfl⟩;obtain⟨a,ea,_⟩:=hMn.1 r hr;rw[hz]at ea;cases ea
  |some H=>
   have hcH:=hMn.2 H hz;have hH:=BI G I.nn hF' hcH;have hle:∀r,yT g Y (λ_=>Fu) (lG Y x) (ow Y x) x (zR g Y B x) r->H<=r:=λr hr=>by
    obtain⟨a,ea,ha⟩:=hMn.1 r hr;rw[hz]at ea;rw[bN ea];exact ha
   unfold WA;dsimp only;split
   ·exact⟨by grind,by grind,λr hr=>by have:=hle r hr;grind,.inl rfl⟩
   ·exact⟨hH,by grind,hle,.inr hcH⟩
 obtain⟨h1,h2,h3,h4⟩:=hh;obtain⟨s1,s2⟩:=FJ (B:=B) G I.nn f3 hF' (dj h1) h3;have eX:Gi g Y B Fu x t=λi=>x i+yx g Y B Fu x t*zR g Y B x i:=rfl;refine⟨f3,h1,h2,?_,?_,h4⟩
 ·rw[eX];refine⟨λi hi=> ?_,by have:=I.t0;grind,h2,λj hj=> ?_⟩
  ·have:=nl (dj h1) (f3 i hi);have:=I.nn i hi;show 0<=x i+yx g Y B Fu x t*qz g (qi g Y B x) (List.range g.n) i;grind
  ·have e1:=s1.lin j;have e2:=I.fx j hj;have e3:zR g Y B x j=mM (qi g Y B x) (zR g Y B x) g.n j+A1 g j:=f4 j hj;have e4:mM (qi g Y B x) (qz g (qi g Y B x) (List.range g.n)) g.n j=mM (qi g Y B x) (zR g Y B x) g.n j:=rfl;rw[e4]at e1;have e5:F0 g B (lG Y λi=>x i+yx g Y B Fu x t*zR g Y B x i) j=F0 g B (lG Y x) j+yx g Y B Fu x t*mM (qi g Y B x) (zR g Y B x) g.n j:=e1;show x j+yx g Y B Fu x t*zR g Y B x j=_;rw[e5,e3];grind
 ·have hmu:H7 g Y (Gi g Y B Fu x t)<=H7 g Y x:=s1.mu;rcases h4 with h4|h4
  ·rw[aj (by rw[h4];grind)];omega
  ·have:H7 g Y (Gi g Y B Fu x t)<H7 g Y x:=s2 h4;split<;>omega
theorem QW (G:nB g Y B) (hF:∀i,i<g.n->∀m,wc (Y i) m<Fu) (I:Inv g Y B x 1) (hC:rP g Y B x=[]):Sn g Y B x:=by
 have hfx:∀j,j<g.n->x j=A1 g j+F0 g B (lG Y x) j:=λj hj=>by rw[I.fx j hj,dY]
 refine⟨I.nn,hfx,λy hy0 hy=> ?_⟩;obtain⟨z,hz⟩:∃z:Nat->Rat,z=λi=>if x i<=y i then y i else x i:=⟨_,rfl⟩
 have hxz:∀i,x i<=z i/\y i<=z i/\(z i=x i\/z i=y i):=λi=>by rw[hz];dsimp only;split<;>grind
 obtain⟨w,hw⟩:∃w:Nat->Rat,w=λi=>z i-x i:=⟨_,rfl⟩;have hw0:∀i,0<=w i:=λi=>by rw[hw];have:=(hxz i).1;grind
 have hFz:∀j,j<g.n->w j<=F0 g B (lG Y z) j-F0 g B (lG Y x) j:=λj hj=>by
  have a:=I7 G I.nn (λi _=>(hxz i).1) j;have b:=I7 G hy0 (λi _=>(hxz i).2.1) j;have c:=hfx j hj;have d:=hy j hj;rw[hw];rcases(hxz j).2.2 with e|e<;>dsimp only<;>rw[e]<;>grind
 have hlip:=SF G I.nn λi _=>(hxz i).1;have hws:kg (λi=>z i-x i) g.n=kg w g.n:=by rw[hw]
 have heq:∀j,j<g.n->F0 g B (lG Y z) j-F0 g B (lG Y x) j=w j:=λj hj=>by
  have:=z5 (f:=λj=>F0 g B (lG Y z) j-F0 g B (lG Y x) j-w j) (n:=g.n) (λj hj=>by have:=hFz j hj;grind) (by
   rw[og,og];grind) j hj
  grind
 have hF':∀i,i<g.n->wc (Y i) (x i)<Fu:=λi hi=>hF i hi _;have hMn:=Hh g Y (λ_=>Fu) (lG Y x) (ow Y x) x w;obtain⟨h,hh0,hh1,hhc⟩:∃h,0<h/\h<=1/\∀r,yT g Y (λ_=>Fu) (lG Y x) (ow Y x) x w r->h<=r:=by
  cases hz:KT g Y (λ_=>Fu) (lG Y x) (ow Y x) x w with
  |none=>exact⟨1,dD,bS,λr hr=>by
    obtain⟨a,ea,_⟩:=hMn.1 r hr;rw[hz]at ea;cases ea⟩
  |some H=>
   have hH:=BI G I.nn hF' (hMn.2 H hz);have hle:∀r,yT g Y (λ_=>Fu) (lG Y x) (ow Y x) x w r->H<=r:=λr hr=>by
    obtain⟨a,ea,ha⟩:=hMn.1 r hr;rw[hz]at ea;rw[bN ea];exact ha
   by_cases g1:H<=1
   ·exact⟨H,hH,g1,hle⟩
   ·exact⟨1,dD,bS,λr hr=>by have:=hle r hr;grind⟩
 obtain⟨s1,_⟩:=FJ (B:=B) G I.nn (λi _=>hw0 i) hF' (dj hh0) hhc;have HP:∀i,x i<=x i+h*w i/\x i+h*w i<=z i:=λi=>by
  have a:=nl (dj hh0) (hw0 i);have b:=nl (hw0 i) (show 0<=1-h by grind);have c:w i=z i-x i:=by rw[hw]
  grind
 have hup0:∀i,i<g.n->0<=x i+h*w i:=λi hi=>eR (I.nn i hi) (HP i).1;have hM:=xZ (B:=B) G I.nn;have hdnn:∀j,j<g.n->0<=mM (qi g Y B x) w g.n j:=λj hj=>np λi hi=>nl (hM.nn j hj i hi) (hw0 i);have hcl:∀a,a<g.n->w a=0->∀c,c<g.n->0<w c->qi g Y B x a c=0:=λa ha hwa c hc hwc=>by
  have e1:=s1.lin a;have e2:=I7 G hup0 (λi _=>(HP i).2) a;have e3:=heq a ha;have e4:h*mM (qi g Y B x) w g.n a<=0:=by grind
  have e5:=hdnn a ha;have e6:mM (qi g Y B x) w g.n a=0:=by
   have:=nl (dj hh0) e5;exact Ev (b:=h) (by grind) hh0
  have e7:=z5 (f:=λi=>qi g Y B x a i*w i) (n:=g.n) (λi hi=>nl (hM.nn a ha i hi) (hw0 i)) (by
   show mM (qi g Y B x) w g.n a<=0;rw[e6];exact bS) c hc
  exact Ev e7 hwc
 have hlk:∀c,c<g.n->0<w c->qP (qi g Y B x) c g.n=1:=λc hc hwc=>by
  have e1:=SF G hup0 λi _=>(HP i).2;have e2:kg (F0 g B (lG Y λi=>x i+h*w i)) g.n=kg (F0 g B (lG Y x)) g.n+h*kg (λj=>mM (qi g Y B x) w g.n j) g.n:=by
   rw[<-mV];exact kp λj _=>s1.lin j
  have e3:kg (λj=>F0 g B (lG Y z) j-F0 g B (lG Y x) j) g.n=kg w g.n:=kp heq;rw[og]at e3;have e4:kg (λi=>z i-(x i+h*w i)) g.n=(1-h)*kg w g.n:=by
   rw[<-qm];exact kp λi _=>by
    have c:w i=z i-x i:=by rw[hw]
    grind
  rw[e2,e4,KI]at e1;have e5:0<=h*(kg (λj=>qP (qi g Y B x) j g.n*w j) g.n-kg w g.n):=by grind
  have e6:∀j,j<g.n->0<=w j-qP (qi g Y B x) j g.n*w j:=λj hj=>by
   have:=nl (hw0 j) (show 0<=1-qP (qi g Y B x) j g.n by have:=hM.cs j hj;grind);grind
  have e7:=np e6;rw[og]at e7;have e8:(kg w g.n-kg (λj=>qP (qi g Y B x) j g.n*w j) g.n)=0:=by
   have:=nl (dj hh0) e7;exact Ev (b:=h) (by grind) hh0
  have e9:=z5 e6 (by rw[og,e8];exact bS) c hc;have:=Ev (a:=1-qP (qi g Y B x) c g.n) (b:=w c) (by grind) hwc;grind
 intro j hj;by_cases e:w j=0
 ·have c:w j=z j-x j:=by rw[hw]
  have:=(hxz j).2.1;grind
 ·have hwj:0<w j:=by have:=hw0 j;grind
  have hc2:∀k∈to (qi g Y B x) g.n j,k<g.n/\0<w k:=λk hk=>O9 hj (λk=>k<g.n/\0<w k) ⟨hj,hwj⟩ (λa c ha hc hS hm=>⟨ha,by
   by_cases e:w a=0
   ·rw[hcl a ha e c hc hS.2]at hm;exact absurd hm dz
   ·have:=hw0 a;grind⟩) hk
  have h1:=Br (M:=qi g Y B x) (aH g.n) hC j hj (EM hj);rw[dG]at h1;obtain⟨k,hk,h2⟩:=h1;obtain⟨a,b⟩:=hc2 k hk;unfold Gp at h2;rw[hlk k a b]at h2;exact absurd h2 dD
theorem EO (G:nB g Y B) (hF:∀i,i<g.n->∀m,wc (Y i) m<Fu) (h16:g.n<=16) (hn0:0<g.n):∀(f:Nat) (x:Nat->Rat) (t:Rat),Inv g Y B x t->H7 g Y x+(if t=1 then 0 else 1)<f->Sn g Y B (Mw g Y B Fu f x t)
 |0,_,_,_,h=>absurd h (aW _)
 |f+1,x,t,I,h=>by
  unfold Mw;by_cases hC:rP g Y B x=[]
  ·rw[ah (λh=>h hC)];by_cases ht:t=1
   ·rw[aj ht];subst ht;exact QW G hF I hC
   ·rw[ah ht];obtain⟨_,_,_,I2,hm,_⟩:=zV G hF h16 hn0 I hC ht;rw[ah ht]at h;exact EO G hF h16 hn0 f _ _ I2 oO
  ·rw[aj hC];obtain⟨_,_,_,_,I2,hm⟩:=Ea G hF h16 I hC;exact EO G hF h16 hn0 f _ _ I2 oO
theorem Uv (G:nB g Y B):Inv g Y B (λ_=>0) 0:=by
 have hd:∀i,i<g.n->∀c,lG Y (λ_=>0) i c=0:=λi hi c=>JT (G.ly i hi);refine⟨λ_ _=>bS,bS,dD,λj _=> ?_⟩;have h1:kg (pR g B (lG Y λ_=>0) j) g.n=0:=lr λi hi=>lr λc _=>by
  rw[hd i hi];split<;>rfl
 have h2:kg (λd=>o5 g d j (tJ (g.d d).W (qD g (lG Y λ_=>0) d)) (yd (g.d d).W (qD g (lG Y λ_=>0) d) (mw g d))) g.ds.length=0:=lr λd hd'=>by
  have hq:∀k,k<mw g d->qD g (lG Y λ_=>0) d k=0:=λk hk=>hd _ (G.lg d hd' k hk).1 _;have hov:∀k,k<=mw g d->wu (g.d d).W (qD g (lG Y λ_=>0) d) k=0:=λk hk=>by
   rw[pY,pq λj hj=>by rw[hq j oO];exact bS,lr λj hj=>hq j oO];rcases mJ (g.d d).W with g1|g1<;>rcases mJ (0-pQ (g.d d).W)with g2|g2<;>grind
  have hr:∀k,k<mw g d->tJ (g.d d).W (qD g (lG Y λ_=>0) d) k=0:=λk hk=>by
   unfold tJ;rw[hov _ oO,hov _ oO];grind
  have hk:yd (g.d d).W (qD g (lG Y λ_=>0) d) (mw g d)=0:=by
   unfold yd;rw[lr hq,lr hr];grind
  rw[yf (r':=λ_=>0) hr,hk];unfold o5;rw[lr λk _=>by split<;>rfl];split<;>grind
 unfold F0;rw[h1,h2];grind
end
def sz (n:Nat):Nat:=(kG n).size
theorem qC (m n:Nat):sz (m*n)<=sz m+sz n:=lJ m n
theorem Bi {m n:Nat} (h:m<=n):sz m<=sz n:=lP h
theorem E1:sz 1=1:=pH
def Mu (D:Nat) (q:Rat):Prop:=∃z:Int,q*(D:Rat)=(z:Rat)
section
variable {D E : Nat} {p q : Rat}
theorem Mu.zero:Mu D 0:=⟨0,by rw[dh];rfl⟩
theorem Mu.one:Mu D 1:=⟨D,by rw[dY,cO]⟩
theorem Mu.add (h:Mu D p) (g:Mu D q):Mu D (p+q):=by
 obtain⟨a,ha⟩:=h;obtain⟨b,hb⟩:=g;exact⟨a+b,by rw[iu,ha,hb,Rat.intCast_add]⟩
theorem Mu.sub (h:Mu D p) (g:Mu D q):Mu D (p-q):=by
 obtain⟨a,ha⟩:=h;obtain⟨b,hb⟩:=g;exact⟨a-b,by rw[jZ,<-ha,<-hb];grind⟩
theorem Mu.mul (h:Mu D p) (g:Mu E q):Mu (D*E) (p*q):=by
 obtain⟨a,ha⟩:=h;obtain⟨b,hb⟩:=g;exact⟨a*b,by rw[eG,<-ha,<-hb,fY];grind⟩
theorem Mu.wK (h:Mu D q) (k:Nat):Mu (D*k) q:=by
 have:=h.mul (E:=k) Mu.one;rwa[i2]at this
theorem Mu.dvd (h:Mu D q) (hd:D∣E):Mu E q:=by
 obtain⟨k,rfl⟩:=hd;exact h.wK k
theorem Mu.self (q:Rat):Mu q.den q:=⟨q.num,by
 have h:(q.den:Rat)≠0:=by
  have:=jX.2 q.den_pos;grind
 have:=fJ (a:=(q.num:Rat)) h;rwa[<-fB,eC]at this⟩
theorem Mu.sum {n:Nat} {f:Nat->Rat} (h:∀i,i<n->Mu D (f i)):Mu D (kg f n):=by
 induction n with
 |zero=>exact Mu.zero
 |succ n ih=>exact(ih λi hi=>h i oO).add (h n oO)
theorem Mu.mU {α:Type} {f:α->Rat}:∀ {l:List α},(∀a∈l,Mu D (f a))->Mu D (mU f l)
 | [],_=>Mu.zero
 |_::_,h=>(h _ (aQ ..)).add (Mu.mU λa ha=>h a (aK _ ha))
theorem Mu.int (hD:0<D) (h:Mu D q) (h0:0<=q) {B:Nat} (hB:q<=(B:Rat)):∃a:Nat,q*(D:Rat)=(a:Rat)/\a<=B*D/\(0<q->0<a):=by
 obtain⟨z,hz⟩:=h;have hD0:(0:Rat)<D:=jX.2 hD;have hz0:0<=z:=by
  rw[<-Rat.intCast_nonneg,<-hz];exact i3 h0 (dj hD0)
 obtain⟨a,rfl⟩:=Int.eq_ofNat_of_zero_le hz0;refine⟨a,by rw[hz,cO],?_,λhq=> ?_⟩
 ·have h1:q*(D:Rat)<=(B:Rat)*(D:Rat):=Rat.mul_le_mul_of_nonneg_right hB (dj hD0);rw[hz,<-fY,<-cO (B*D),iO]at h1;omega
 ·have h1:0<q*(D:Rat):=Rat.mul_pos hq hD0;rw[hz,Rat.intCast_pos]at h1;omega
theorem Mu.size (hD:0<D) (h:Mu D q) (h0:0<=q) {B:Nat} (hB:q<=(B:Rat)):L q<=sz B+sz D:=by
 obtain⟨a,ha,hb,_⟩:=h.int hD h0 hB;have hD0:(0:Rat)<D:=jX.2 hD;have e:q=mkRat (a:Int) D:=by
  rw[fB,cO,<-ha,bT,gN,bY _ (by grind),i2]
 rw[e];refine Ba _ oO ?_ ?_
 ·rw[fL];exact dx (Bi hb) (qC _ _)
 ·exact Nat.le_add_left _ _
theorem Mu.quo {a:Nat} (h:Mu (D*E) p) (hq:q≠0) (ha:q*(E:Rat)=(a:Rat)):Mu (D*a) (p/q):=by
 obtain⟨z,hz⟩:=h;refine⟨z,?_⟩;rw[fY]at hz;rw[fY,<-ha,<-hz,bT];have:=bY q hq;grind
theorem Mu.dv (h:Mu E p) {s:Rat} {a:Nat} (hs:s≠0) (ha:s*(E:Rat)=(a:Rat)):Mu a (p/s):=by
 have:=Mu.quo (D:=1) (by rwa[dJ]) hs ha;rwa[dJ]at this
end
abbrev AA:Nat:=65536
abbrev QX:Nat:=67108864
theorem L9:sz AA<=3/\sz (8*AA)<=3/\sz 1<=1/\sz 7<=1/\sz QX<=4/\sz 469762048<=4/\sz 2147483648<=4:=
 ⟨lu dD,lu dD,lu dD,lu dD,lu dD,lu dD,lu dD⟩
structure Ir (D0:Nat) (t:Tr):Prop where
 n:t.ps.length<=8
 q:∀p∈t.ps,Mu D0 p.q/\p.q<=(AA:Rat)
theorem RZ {D0:Nat}:∀ {l:List Pa},(∀p∈l,Mu D0 p.q/\p.q<=(AA:Rat))->Mu D0 (qs l)/\qs l<=((l.length*AA:Nat):Rat)/\∀c,Mu D0 (rC c l)
 | [],_=>⟨Mu.zero,by show(0:Rat)<=_;rw[f9,fp];exact bS,λ_=>Mu.zero⟩
 |p::l,h=>by
  obtain⟨h1,h2⟩:=h p (aQ ..);obtain⟨a,b,c⟩:=RZ λp hp=>h p (aK _ hp);refine⟨h1.add a,?_,λk=> ?_⟩
  ·show p.q+qs l<=_;rw[bj,bA,dJ,gS];grind
  ·show Mu D0 ((if p.c=k then p.q else 0)+rC k l);refine Mu.add ?_ (c k);split
   ·exact h1
   ·exact Mu.zero
section
variable {D0 : Nat} {t : Tr} {T : List Tr} {m : Rat} {D : Nat}
theorem Ir.s (h:Ir D0 t) (ht:DB t):Mu D0 t.sm/\t.sm<=((8*AA:Nat):Rat):=by
 obtain⟨a,b,_⟩:=RZ h.q;rw[ht.s];refine⟨a,eR b ?_⟩;rw[<-cO,<-cO,iO];have:=aO AA h.n;omega
theorem Ir.Ls (h:Ir D0 t) (ht:DB t) (h0:0<D0) (hs:sz D0<=2):L t.sm<=5:=by
 obtain⟨a,b⟩:=h.s ht;have:=a.size h0 ht.s0 b;have:=L9.2.1;omega
theorem Ir.Lq (h:Ir D0 t) (ht:DB t) (h0:0<D0) (hs:sz D0<=2) {p:Pa} (hp:p∈t.ps):L p.q<=5:=by
 obtain⟨a,b⟩:=h.q p hp;have:=a.size h0 (ht.q p hp) b;have:=L9.1;omega
theorem Au (hT:yu T) (hb:∀t∈T,Ir D0 t) (h0:0<D0) (hs:sz D0<=2):xK T<=6*T.length:=by
 induction T with
 |nil=>exact aH _
 |cons t T ih=>
  have a:=(hb t (aQ ..)).Ls hT.hd h0 hs;have b:=ih hT.tl λt ht=>hb t (aK _ ht);rw[zH,bj];omega
theorem IY (h0:0<D0) (hs:sz D0<=2):∀ {T:List Tr} {m:Rat},yu T->(∀t∈T,Ir D0 t)->0<=m->Mu D m->D0∣D->∃Z,0<Z/\sz Z<=5/\(∀c,Mu Z (x4 T m c))/\∀c,Mu (D*Z) (tk T m c)
 | [],_,_,_,_,_,_=>⟨1,dD,by rw[E1];decide,λ_=>Mu.zero,λ_=>Mu.zero⟩
 |t::T,m,hT,hb,hm,hD,hd=>by
  have bt:=hb t (aQ ..);obtain⟨a,b⟩:=bt.s hT.hd;have ha:=(RZ bt.q).2.2;by_cases g:m<t.sm
  ·have hsm:0<t.sm:=by grind
   obtain⟨Z,e1,e2,e3⟩:=a.int h0 hT.hd.s0 b;have hm1:∀c,Mu Z (rC c t.ps/t.sm):=λc=>(ha c).dv (ux hsm) e1;refine⟨Z,e3 hsm,?_,λc=> ?_,λc=> ?_⟩
   ·have:=Bi e2;have:=qC (8*AA) D0;have:=L9.2.1;omega
   ·rw[uB,aj g];have e:rC c t.ps*(1/t.sm)=rC c t.ps/t.sm:=by rw[bT,bT];grind
    rw[e];exact hm1 c
   ·rw[o9,aj g];have e:rC c t.ps*(m/t.sm)=m*(rC c t.ps/t.sm):=by rw[bT,bT];grind
    rw[e];exact hD.mul (hm1 c)
  ·obtain⟨Z,e1,e2,e3,e4⟩:=IY h0 hs (T:=T) (m:=m-t.sm) hT.tl (λt ht=>hb t (aK _ ht)) (by grind) (hD.sub (a.dvd hd)) hd;refine⟨Z,e1,e2,λc=> ?_,λc=> ?_⟩
   ·rw[uB,ah g];exact e3 c
   ·rw[o9,ah g];exact(((ha c).dvd hd).wK Z).add (e4 c)
theorem N1:∀ {T:List Tr} {m:Rat} {c:Int},yu T->0<=m->tk T m c<=m
 | [],_,_,_,h=>h
 |t::T,m,c,hT,hm=>by
  have a:=hT.hd.a c;rw[o9];split
  ·next g=>
   have h1:=nQ a.2 (BP hm (show 0<t.sm by grind));have h2:=tI (a:=m) (show 0<t.sm by grind);grind
  ·have:=N1 (T:=T) (m:=m-t.sm) (c:=c) hT.tl (by grind);grind
theorem IT:∀ {T:List Tr} {m:Rat} {c:Int},yu T->0<=m->x4 T m c<=1
 | [],_,_,_,_=>by show(0:Rat)<=1;decide
 |t::T,m,c,hT,hm=>by
  have a:=hT.hd.a c;rw[uB];split
  ·next g=>
   have h1:=nQ a.2 (BP (show(0:Rat)<=1 by decide) (show 0<t.sm by grind));have h2:=tI (a:=1) (show 0<t.sm by grind);grind
  ·exact IT (T:=T) (m:=m-t.sm) (c:=c) hT.tl (by grind)
theorem I0 (r:Rat) (k:Nat):∀ {l:List Pa},(∀p∈l,L p.q<=5)->L r<=k->AK (l.map λp=>⟨p.c,p.q*r⟩)<=l.length*(6+k)
 | [],_,_=>aB _
 |p::l,h,hr=>by
  have a:=h p (aQ ..);have b:=I0 r k (λp hp=>h p (aK _ hp)) hr;have c:=zM p.q r;rw[db,wW,bj,bA];show L (p.q*r)+1+_<=_;omega
theorem Se:∀ {l:List Pa},(∀p∈l,L p.q<=5)->AK l<=l.length*6
 | [],_=>aB _
 |p::l,h=>by
  have a:=h p (aQ ..);have b:=Se λp hp=>h p (aK _ hp);rw[wW,bj,bA];omega
theorem Jv (h0:0<D0) (hs:sz D0<=2) {Q l:Nat} (hl:sz Q+sz D<=l) (hD0:0<D):∀ {T:List Tr} {m:Rat},yu T->(∀t∈T,Ir D0 t)->0<=m->m<=(Q:Rat)->Mu D m->D0∣D->AK (qQ T m)<=T.length*(8*(l+11))
 | [],_,_,_,_,_,_,_=>aB _
 |t::T,m,hT,hb,hm,hQ,hD,hd=>by
  have bt:=hb t (aQ ..);have hq:∀p∈t.ps,L p.q<=5:=λp hp=>bt.Lq hT.hd h0 hs hp;have hn:=bt.n;rw[xk,bj,bA];split
  ·have h1:=hD.size hD0 hm hQ;have h2:=bt.Ls hT.hd h0 hs;have h3:=zw m t.sm;have h4:=I0 (m/t.sm) (l+5) hq oO;have h5:=aO (6+(l+5)) hn;show AK (t.ps.map λp=>⟨p.c,p.q*(m/t.sm)⟩)<=_;omega
  ·have h1:=Se hq;have h2:=hT.hd.s0;have h3:=Jv h0 hs hl hD0 (T:=T) (m:=m-t.sm) hT.tl (λt ht=>hb t (aK _ ht)) (by grind) (by grind) (hD.sub (((bt.s hT.hd).1).dvd hd)) hd;rw[Cv];omega
theorem Jz (h0:0<D0) (hs:sz D0<=2) {r:Rat} {k:Nat} (hr:L r<=k):∀ {T:List Tr} {m:Rat},yu T->(∀t∈T,Ir D0 t)->AK (qj T m r)<=8*(k+11)
 | [],_,_,_=>aB _
 |t::T,m,hT,hb=>by
  have bt:=hb t (aQ ..);rw[xj];split
  ·have h2:=bt.Ls hT.hd h0 hs;have h3:=zw r t.sm;have h4:=I0 (r/t.sm) (k+5) (λp hp=>bt.Lq hT.hd h0 hs hp) oO;have h5:=aO (6+(k+5)) bt.n;show AK (t.ps.map λp=>⟨p.c,p.q*(r/t.sm)⟩)<=_;omega
  ·exact Jz h0 hs hr hT.tl λt ht=>hb t (aK _ ht)
def Qn:List Tr->Rat
 | []=>0
 |t::T=>t.sm+Qn T
theorem IU:∀ {T:List Tr},yu T->0<=Qn T
 | [],_=>bS
 |t::T,hT=>by
  have a:=hT.hd.s0;have b:=IU hT.tl;show 0<=t.sm+Qn T;grind
theorem Ll:∀ {T:List Tr} {m:Rat},yu T->lY T m<T.length->m+rB T m<=Qn T
 | [],_,_,h=>absurd h (aW _)
 |t::T,m,hT,h=>by
  rw[nD]at h;rw[uO];have b:=IU hT.tl;show _<=t.sm+Qn T;split
  ·grind
  ·next g=>
   rw[ah g,bj]at h;have:=Ll (T:=T) (m:=m-t.sm) hT.tl oO;grind
theorem P8:∀ {T:List Tr} {m:Rat},yu T->0<=m->Rx T m<=Qn T
 | [],_,_,_=>bS
 |t::T,m,hT,hm=>by
  have hs:=hT.hd.s;have b:=IU hT.tl;rw[zo];show _<=t.sm+Qn T;split
  ·rw[<-hs,tI (by grind)];grind
  ·have:=P8 (T:=T) (m:=m-t.sm) hT.tl (by grind);grind
theorem OM:∀ {T:List Tr},yu T->(∀t∈T,Ir D0 t)->Qn T<=((T.length*(8*AA):Nat):Rat)
 | [],_,_=>by show(0:Rat)<=_;rw[f9,fp];exact bS
 |t::T,hT,hb=>by
  have a:=((hb t (aQ ..)).s hT.hd).2;have b:=OM hT.tl λt ht=>hb t (aK _ ht);show t.sm+Qn T<=_;rw[bj,bA,dJ,gS];grind
theorem IB:∀ {T:List Tr} {m:Rat},yu T->(∀t∈T,Ir D0 t)->Mu D m->D0∣D->Mu D (rB T m)
 | [],m,_,_,hD,_=>by
  show Mu D (0-(m-0));exact Mu.zero.sub (hD.sub Mu.zero)
 |t::T,m,hT,hb,hD,hd=>by
  have a:=(((hb t (aQ ..)).s hT.hd).1).dvd hd;rw[uO];split
  ·exact a.sub hD
  ·exact IB hT.tl (λt ht=>hb t (aK _ ht)) (hD.sub a) hd
end
structure IJ (D0:Nat) (y:Ly):Prop where
 n:y.n<=7
 rl:y.rk.length<=8
 pn:y.pl.length<=2
 ml:∀p∈y.pl,p.mem.length<=7
 ll:∀p∈y.pl,p.ld.length<=4
 rm:∀t∈y.rk,Ir D0 t
 lm:∀p∈y.pl,∀t∈p.ld,Ir D0 t
structure Nj (D0 D:Nat) (m:Rat):Prop where
 d0:0<D0
 s0:sz D0<=2
 Dp:0<D
 dv:D0∣D
 nn:0<=m
 le:m<=(QX:Rat)
 mu:Mu D m
 zz:200*(sz D+100)<=MX
theorem KM {f:Nat->Rat} {b:Rat}:∀ {l:List Nat},(∀a∈l,f a<=b)->mU f l<=(l.length:Rat)*b
 | [],_=>by show(0:Rat)<=((0:Nat):Rat)*b;rw[show((0:Nat):Rat)=0 from rfl];grind
 |a::l,h=>by
  have h1:=h a (aQ ..);have h2:=KM λa ha=>h a (aK _ ha);show f a+mU f l<=_;rw[bj,gS,show((1:Nat):Rat)=1 from rfl];grind
theorem uy {a b:Nat} (h:a<=b):(a:Rat)<=(b:Rat):=by
 rw[<-cO,<-cO,iO];omega
theorem VN {f:Nat->Rat} {b:Rat} (hb:0<=b) {l:List Nat} (hl:l.length<=7) (h:∀a∈l,f a<=b):mU f l<=7*b:=by
 have h1:=KM h;have h2:=uy hl;rw[show((7:Nat):Rat)=7 from rfl]at h2;have:=nQ h2 hb;grind
theorem Jd {f:Nat->Rat} {k:Nat}:∀ {l:List Nat},(∀a∈l,L (f a)<=k)->Gm l f<=l.length*(k+1)
 | [],_=>aB _
 |a::l,h=>by
  have h1:=h a (aQ ..);have h2:=Jd λa ha=>h a (aK _ ha);show L (f a)+1+Gm l f<=_;rw[bj,bA];omega
section
variable {D0 D : Nat} {y : Ly} {m : Rat}
theorem Me (y:Ly) (m:Rat) (i k:Nat):(sF y m i).c k=qJ y (lF y m) k+mU (λp=>tk p.ld (PS y m p) k) (y.pl.take i):=Cu (L:=λp=>qQ p.ld (PS y m p)) k _ _
theorem Jn (y:Ly) (m:Rat) (i:Nat):(sF y m i).r=0+mU (λp=>tk p.ld (PS y m p) (-1)) (y.pl.take i):=Iw (L:=λp=>qQ p.ld (PS y m p)) _ _
theorem MM (y:Ly) (m:Rat) (i k:Nat):(rR y m i).c k=qJ y (me y m) k+mU (λp=>RS y m p*x4 p.ld (PS y m p) k) (y.pl.take i):=by
 have h:=Cu (L:=λp=>qj p.ld (PS y m p) (RS y m p)) k (y.pl.take i) ⟨qJ y (me y m),0⟩;have e:mU (λp=>rC k (qj p.ld (PS y m p) (RS y m p))) (y.pl.take i)=mU (λp=>RS y m p*x4 p.ld (PS y m p) k) (y.pl.take i):=nG λp _=>CO _ _ _ _;rw[e]at h;exact h
theorem IW (y:Ly) (m:Rat) (i:Nat):(rR y m i).r=0+mU (λp=>RS y m p*x4 p.ld (PS y m p) (-1)) (y.pl.take i):=by
 have h:=Iw (L:=λp=>qj p.ld (PS y m p) (RS y m p)) (y.pl.take i) ⟨qJ y (me y m),0⟩;have e:mU (λp=>rC (-1) (qj p.ld (PS y m p) (RS y m p))) (y.pl.take i)=mU (λp=>RS y m p*x4 p.ld (PS y m p) (-1)) (y.pl.take i):=nG λp _=>CO _ _ _ _;rw[e]at h;exact h
structure WR (y:Ly) (m:Rat) (D E:Nat):Prop where
 pos:0<E
 ez:sz E<=16
 rt:∀k,Mu E (me y m k)
 gr:∀k,Mu (D*E) (lF y m k)
 ps:∀p∈y.pl,Mu (D*E) (PS y m p)/\Mu E (RS y m p)
 pl:∀p∈y.pl,∀c,Mu E (RS y m p*x4 p.ld (PS y m p) c)/\Mu (D*E) (tk p.ld (PS y m p) c)
theorem FZ (hy:pz y) (hb:IJ D0 y) (hm:Nj D0 D m):∃E,WR y m D E:=by
 obtain⟨Z0,z1,z2,z3,z4⟩:=IY hm.d0 hm.s0 hy.rk hb.rm hm.nn hm.mu hm.dv;have hg:∀k,Mu (D*Z0) (lF y m k):=λk=>by rw[pE];exact z4 _
 have hr:∀k,Mu Z0 (me y m k):=λk=>by rw[tE];exact z3 _
 have hP:∀p,Mu (D*Z0) (PS y m p):=λp=>by unfold PS;rw[n5];exact Mu.mU λa _=>hg a
 have hR:∀p,Mu Z0 (RS y m p):=λp=>by unfold RS;rw[n5];exact Mu.mU λa _=>hr a
 have key:∀l:List Pl,(∀p∈l,p∈y.pl)->∃Z,0<Z/\sz Z<=1+5*l.length/\∀p∈l,∀c,Mu Z (x4 p.ld (PS y m p) c)/\Mu (D*Z0*Z) (tk p.ld (PS y m p) c):=by
  intro l;induction l with
  |nil=>exact λ_=>⟨1,dD,by rw[E1];exact aH _,λ_ h=>by cases h⟩
  |cons p l ih=>
   intro h;obtain⟨Z,a1,a2,a3⟩:=ih λq hq=>h q (aK _ hq);have hp:=h p (aQ ..);obtain⟨Z2,b1,b2,b3,b4⟩:=IY hm.d0 hm.s0 (D:=D*Z0) (hy.ld p hp) (hb.lm p hp) (sv hy hm.nn p) (hP p) (ey hm.dv ⟨Z0,rfl⟩);refine⟨Z2*Z,dK b1 a1,?_,λq hq c=> ?_⟩
   ·have:=qC Z2 Z;rw[bj];omega
   ·rcases bJ.1 hq with rfl|hq
    ·exact⟨(b3 c).wK Z,by rw[<-bk];exact(b4 c).wK Z⟩
    ·obtain⟨c1,c2⟩:=a3 q hq c;exact⟨c1.dvd ⟨Z2,bF _ _⟩,c2.dvd ⟨Z2,by rw[bF Z2 Z,<-bk]⟩⟩
 obtain⟨Z,a1,a2,a3⟩:=key y.pl λ_ h=>h;have hpn:=hb.pn;refine⟨Z0*Z,dK z1 a1,?_,λk=>(hr k).wK Z,λk=> ?_,λp _=>⟨?_,(hR p).wK Z⟩,λp hp c=> ?_⟩
 ·have:=qC Z0 Z;omega
 ·rw[<-bk];exact(hg k).wK Z
 ·rw[<-bk];exact(hP p).wK Z
 ·obtain⟨c1,c2⟩:=a3 p hp c;exact⟨(hR p).mul c1,by rw[<-bk];exact c2⟩
theorem CH (hy:pz y) (hm:0<=m) (k:Nat):lF y m k<=m:=by rw[pE];exact N1 hy.rk hm
theorem CX (hy:pz y) (hm:0<=m) (k:Nat):me y m k<=1:=by rw[tE];exact IT hy.rk hm
theorem OY (hy:pz y) (hb:IJ D0 y) (hm:0<=m) {p:Pl} (hp:p∈y.pl):PS y m p<=7*m:=by
 unfold PS;rw[n5];exact VN hm (hb.ml p hp) λa _=>CH hy hm a
theorem OE (hy:pz y) (hb:IJ D0 y) (hm:0<=m) {p:Pl} (hp:p∈y.pl):RS y m p<=7:=by
 have:=VN (f:=me y m) (b:=1) dD (hb.ml p hp) λa _=>CX hy hm a;unfold RS;rw[n5];grind
theorem VK {f:Pl->Rat} {b:Rat} (h0:0<=b):∀ {l:List Pl},l.length<=2->(∀a∈l,f a<=b)->mU f l<=2*b
 | [],_,_=>by show(0:Rat)<=_;grind
 | [p],_,h=>by
  have h1:=h p (aQ ..);show f p+0<=_;grind
 | [p,q],_,h=>by
  have h1:=h p (aQ ..);have h2:=h q (aK _ (aQ ..));show f p+(f q+0)<=_;grind
 |_::_::_::_,hl,_=>by simp only[bj]at hl;omega
theorem Kw {f:Nat->Rat} {b:Rat} (k:Nat) (h0:0<=b) (h:∀k,0<=f k/\f k<=b):0<=qJ y f k/\qJ y f k<=b:=by
 rw[oK];split
 ·exact⟨bS,h0⟩
 ·exact h k
theorem zB {f:Nat->Rat} (k:Nat) (h:∀k,Mu D (f k)):Mu D (qJ y f k):=by
 rw[oK];split
 ·exact Mu.zero
 ·exact h k
structure W5 (y:Ly) (m:Rat) (l:Nat):Prop where
 lm:L m<=l
 gr:∀k,L (lF y m k)<=l
 rt:∀k,L (me y m k)<=20
 ps:∀p∈y.pl,L (PS y m p)<=l
 rs:∀p∈y.pl,L (RS y m p)<=20
 dl:∀i k,L ((sF y m i).c k)<=l
 dr:∀i,L (sF y m i).r<=l
 sl:∀i k,L ((rR y m i).c k)<=20
 sr:∀i,L (rR y m i).r<=20
theorem G1:((QX:Nat):Rat)=67108864:=rfl
theorem MI (hy:pz y) (hb:IJ D0 y) (hm:Nj D0 D m):W5 y m (sz D+20):=by
 obtain⟨E,e⟩:=FZ hy hb hm;have hDE:=qC D E;have hE:=e.ez;have hle:=hm.le;have hDE0:0<D*E:=dK hm.Dp e.pos;obtain⟨_,_,s1,s7,sQ,s7Q,sB⟩:=L9;have h0:=hm.nn;rw[G1]at hle;have hk:∀ {a b:Rat},0<=a->a<=7*m->a<=((469762048:Nat):Rat):=λ_ h=>by
  rw[show((469762048:Nat):Rat)=469762048 from rfl];grind
 have hsub:∀i,∀p∈y.pl.take i,p∈y.pl:=λi p hp=>gQ hp;have hlen:∀i,(y.pl.take i).length<=2:=λi=>by have:=hb.pn;rw[dg];omega
 have hpy:∀p∈y.pl,∀c,0<=tk p.ld (PS y m p) c/\tk p.ld (PS y m p) c<=7*m:=λp hp c=>⟨DH (hy.ld p hp) (sv hy h0 p),eR (N1 (hy.ld p hp) (sv hy h0 p)) (OY hy hb h0 hp)⟩;have hsp:∀p∈y.pl,∀c,0<=RS y m p*x4 p.ld (PS y m p) c/\RS y m p*x4 p.ld (PS y m p) c<=7:=λp hp c=>by
  have a1:=GB (c:=c) (hy.ld p hp) (sv hy h0 p);have a2:=IT (c:=c) (hy.ld p hp) (sv hy h0 p);have a3:=D5 hy h0 p;have a4:=OE hy hb h0 hp;have a5:=nQ a2 a3;exact⟨nl a3 a1,by grind⟩
 have bpy:∀i (c:Int),0<=mU (λp=>tk p.ld (PS y m p) c) (y.pl.take i)/\mU (λp=>tk p.ld (PS y m p) c) (y.pl.take i)<=2*(7*m):=λi c=>⟨zX λp hp=>(hpy p (hsub i p hp) c).1,VK (by grind) (hlen i) λp hp=>(hpy p (hsub i p hp) c).2⟩;have bsp:∀i (c:Int),0<=mU (λp=>RS y m p*x4 p.ld (PS y m p) c) (y.pl.take i)/\mU (λp=>RS y m p*x4 p.ld (PS y m p) c) (y.pl.take i)<=2*7:=λi c=>⟨zX λp hp=>(hsp p (hsub i p hp) c).1,VK dD (hlen i) λp hp=>(hsp p (hsub i p hp) c).2⟩;have b31:∀ {a:Rat},a<=15*m->a<=((2147483648:Nat):Rat):=λh=>by
  rw[show((2147483648:Nat):Rat)=2147483648 from rfl];grind
 refine⟨?_,λk=> ?_,λk=> ?_,λp hp=> ?_,λp hp=> ?_,λi k=> ?_,λi=> ?_,λi k=> ?_,λi=> ?_⟩
 ·have:=hm.mu.size hm.Dp h0 hm.le;omega
 ·have:=(e.gr k).size hDE0 (y5 hy h0) (eR (CH hy h0 k) hm.le);omega
 ·have:=(e.rt k).size e.pos (y8 hy h0) (B:=1) (CX hy h0 k);omega
 ·have:=(e.ps p hp).1.size hDE0 (sv hy h0 p) (B:=469762048) (hk (b:=0) (sv hy h0 p) (OY hy hb h0 hp));omega
 ·have:=(e.ps p hp).2.size e.pos (D5 hy h0 p) (B:=7) (OE hy hb h0 hp);omega
 ·have a:=Kw (y:=y) (f:=lF y m) k h0 λk=>⟨y5 hy h0,CH hy h0 k⟩;have b:=bpy i k;rw[Me];have:=((zB (y:=y) k e.gr).add (Mu.mU λp hp=>(e.pl p (hsub i p hp) k).2)).size hDE0 (by grind) (B:=2147483648) (b31 (by grind));omega
 ·have b:=bpy i (-1);rw[Jn];have:=(Mu.zero.add (Mu.mU λp hp=>(e.pl p (hsub i p hp) (-1)).2)).size hDE0 (by grind) (B:=2147483648) (b31 (by grind));omega
 ·have a:=Kw (y:=y) (f:=me y m) (b:=1) k dD λk=>⟨y8 hy h0,CX hy h0 k⟩;have b:=bsp i k;rw[MM];have:=((zB (y:=y) k e.rt).add (Mu.mU λp hp=>(e.pl p (hsub i p hp) k).1)).size e.pos (by grind) (B:=QX) (by rw[G1];grind);omega
 ·have b:=bsp i (-1);rw[IW];have:=(Mu.zero.add (Mu.mU λp hp=>(e.pl p (hsub i p hp) (-1)).1)).size e.pos (by grind) (B:=QX) (by rw[G1];grind);omega
theorem SN {n:Nat} {T:List Tr} (hT:yu T) (hp:∀t∈T,∀p∈t.ps,zL n p):I5 n T:=⟨hp,λt ht=>(hT t ht).s0⟩
theorem UV (hy:pz y) (hb:IJ D0 y) (hm:Nj D0 D m) {E:Nat} (e:WR y m D E) {p:Pl} (hp:p∈y.pl):AK (qQ p.ld (PS y m p))<=32*(sz D+31):=by
 obtain⟨_,_,s1,s7,sQ,s7Q,sB⟩:=L9;have hDE:=qC D E;have hE:=e.ez;have hle:=hm.le;rw[G1]at hle;have h1:=Jv hm.d0 hm.s0 (Q:=469762048) (D:=D*E) (l:=sz D+20) oO (dK hm.Dp e.pos) (hy.ld p hp) (hb.lm p hp) (sv hy hm.nn p) (by
  have:=OY hy hb hm.nn hp;rw[show((469762048:Nat):Rat)=469762048 from rfl];grind) (e.ps p hp).1 (ey hm.dv ⟨E,rfl⟩)
 have h2:=aO (8*(sz D+20+11)) (hb.ll p hp);omega
theorem Sv (hy:pz y) (hb:IJ D0 y) (hm:Nj D0 D m):Oz y m:=by
 obtain⟨E,e⟩:=FZ hy hb hm;have l:=MI hy hb hm;have hsz:=hm.zz;have hL0:=nW;have hsT:=Au hy.rk hb.rm hm.d0 hm.s0;have hrl:=hb.rl;have hlm:=l.lm;have hwr:AK (qQ y.rk m)<=64*(sz D+31):=by
  have h1:=Jv hm.d0 hm.s0 (Q:=QX) (D:=D) (l:=sz D+20) (by have:=L9.2.2.2.2.1;omega) hm.Dp hy.rk hb.rm hm.nn hm.le hm.mu hm.dv;have h2:=aO (8*(sz D+20+11)) hb.rl;omega
 have hsl:∀p∈y.pl,xK p.ld<=24:=λp hp=>by
  have h1:=Au (hy.ld p hp) (hb.lm p hp) hm.d0 hm.s0;have:=hb.ll p hp;omega
 refine⟨by have:=hb.n;omega,SN hy.rk hy.rp,hm.nn,oO,⟨λk _=> ?_,?_⟩,λt ht p hp=> ?_,hy.mn,λp hp=>SN (hy.ld p hp) (hy.lp p hp),λp hp=> ?_,λp hp=>sv hy hm.nn p,λp hp=> ?_,λi hi=> ?_,λp hp t ht q hq=> ?_⟩
 ·show L (0:Rat)+_<=MX;omega
 ·show L (0:Rat)+_<=MX;omega
 ·have:=(hb.rm t ht).Lq (hy.rk t ht) hm.d0 hm.s0 hp;omega
 ·have h1:=Jd (l:=p.mem) (f:=lF y m) λa _=>l.gr a;have h2:=aO (sz D+20+1) (hb.ml p hp);omega
 ·have h1:=l.ps p hp;have:=hsl p hp;show 2*(L (PS y m p)+xK p.ld+2)<=MX;omega
 ·have hp:y.pl.getD i wo∈y.pl:=kE _ _ _ hi;have h1:=UV hy hb hm e hp;have h3:=l.dr i;refine⟨λk _=> ?_,?_⟩
  ·have h2:=l.dl i k;show _+AK (qQ (y.pl.getD i wo).ld (PS y m (y.pl.getD i wo)))<=MX;omega
  ·show _+AK (qQ (y.pl.getD i wo).ld (PS y m (y.pl.getD i wo)))<=MX;omega
 ·have h1:=l.ps p hp;have:=hsl p hp;have:=(hb.lm p hp t ht).Lq (hy.ld p hp t ht) hm.d0 hm.s0 hq;show _+L (PS y m p)+_+2<=MX;omega
theorem KS (hy:pz y) (hb:IJ D0 y) (hm:Nj D0 D m):Ig y m:=by
 have l:=MI hy hb hm;have hsz:=hm.zz;have hL0:=nW;have hL1:=Ih;have hsT:=Au hy.rk hb.rm hm.d0 hm.s0;have hrl:=hb.rl;have hwr:=Jz hm.d0 hm.s0 (r:=1) (k:=1) (m:=m) oO hy.rk hb.rm;have hsl:∀p∈y.pl,xK p.ld<=24:=λp hp=>by
  have h1:=Au (hy.ld p hp) (hb.lm p hp) hm.d0 hm.s0;have:=hb.ll p hp;omega
 refine⟨Sv hy hb hm,⟨λk _=> ?_,?_⟩,λt ht p hp=> ?_,λp hp=> ?_,λi hi=> ?_,λp hp=> ?_,λp hp t ht q hq=> ?_⟩
 ·show L (0:Rat)+_<=MX;omega
 ·show L (0:Rat)+_<=MX;omega
 ·have:=(hb.rm t ht).Lq (hy.rk t ht) hm.d0 hm.s0 hp;omega
 ·have h1:=Jd (l:=p.mem) (f:=me y m) λa _=>l.rt a;have h2:=aO (20+1) (hb.ml p hp);omega
 ·have hp:y.pl.getD i wo∈y.pl:=kE _ _ _ hi;have h1:=Jz hm.d0 hm.s0 (r:=RS y m (y.pl.getD i wo)) (k:=20) (m:=PS y m (y.pl.getD i wo)) (l.rs _ hp) (hy.ld _ hp) (hb.lm _ hp);have h3:=l.sr i;refine⟨λk _=> ?_,?_⟩
  ·have h2:=l.sl i k;show _+AK (qj (y.pl.getD i wo).ld (PS y m (y.pl.getD i wo)) (RS y m (y.pl.getD i wo)))<=MX;omega
  ·show _+AK (qj (y.pl.getD i wo).ld (PS y m (y.pl.getD i wo)) (RS y m (y.pl.getD i wo)))<=MX;omega
 ·have h1:=l.rs p hp;have:=hsl p hp;show L (RS y m p)+_<=MX;omega
 ·have h1:=l.rs p hp;have:=hsl p hp;have:=(hb.lm p hp t ht).Lq (hy.ld p hp t ht) hm.d0 hm.s0 hq;show _+L (RS y m p)+_+2<=MX;omega
end
section
variable {D0 D : Nat} {y : Ly} {m : Rat}
theorem SP {T:List Tr} (hT:yu T) (hb:∀t∈T,Ir D0 t) (h0:0<D0) (hs:sz D0<=2) (m:Rat):L (rB T m)<=L m+xK T+8:=by
 have h1:=FC T m (ti T m);have h2:=s8 (T.getD (lY T m) rH).sm (ri T m);have h3:L (T.getD (lY T m) rH).sm<=5:=by
  by_cases g:lY T m<T.length
  ·have hm:=kE T _ rH g;exact(hb _ hm).Ls (hT _ hm) h0 hs
  ·rw[ap,dk oO];have:=nW;show L (0:Rat)<=5;omega
 show L ((T.getD (lY T m) rH).sm-ri T m)<=_;have h4:L (ri T m)<=L m+xK T+2:=h1;omega
theorem Sp (hy:pz y) (hb:IJ D0 y) (hm:Nj D0 D m):(∀p∈y.pl,L (rB p.ld (PS y m p))<=sz D+60/\L (xP y m p)<=sz D+90)/\∀i,L (wX y m i)<=sz D+90:=by
 have l:=MI hy hb hm;have hlm:=l.lm;have h1:∀p∈y.pl,L (rB p.ld (PS y m p))<=sz D+60/\L (xP y m p)<=sz D+90:=λp hp=>by
  have a:=SP (hy.ld p hp) (hb.lm p hp) hm.d0 hm.s0 (PS y m p);have b:=Au (hy.ld p hp) (hb.lm p hp) hm.d0 hm.s0;have c:=hb.ll p hp;have d:=l.ps p hp;have e:=l.rs p hp;have f:L (xP y m p)<=_:=zw (rB p.ld (PS y m p)) (RS y m p);exact⟨oO,oO⟩
 refine⟨h1,λi=> ?_⟩;rcases(Cs y m (y.pl.take i) (rB y.rk m)).2.2 with e|⟨p,hp,_,e⟩
 ·have a:=SP hy.rk hb.rm hm.d0 hm.s0 m;have b:=Au hy.rk hb.rm hm.d0 hm.s0;have c:=hb.rl;show L ((y.pl.take i).foldl (tg y m) (rB y.rk m))<=_;rw[e];omega
 ·show L ((y.pl.take i).foldl (tg y m) (rB y.rk m))<=_;rw[e];exact(h1 p (gQ hp)).2
theorem Vw (hy:pz y) (hb:IJ D0 y) (hm:Nj D0 D m):S2 y m:=by
 obtain⟨h1,h2⟩:=Sp hy hb hm;have l:=MI hy hb hm;have:=hm.zz;refine⟨KS hy hb hm,λp hp=> ?_,λi hi=> ?_⟩
 ·have a:=(h1 p hp).1;have b:=l.rs p hp;show L (rB p.ld (PS y m p))+L (RS y m p)<=MX;omega
 ·have a:=h2 i;have b:=(h1 _ (kE y.pl i wo hi)).2;omega
theorem Sd (hy:pz y) (hb:IJ D0 y) (hm:Nj D0 D m) (hf:lY y.rk m<y.rk.length):∃D',0<D'/\D∣D'/\sz D'<=sz D+30/\Mu D' (yU y m)/\0<=yU y m/\yU y m<=(QX:Rat):=by
 obtain⟨E,e⟩:=FZ hy hb hm;have hp:=Fc hf;have h0:=hm.nn;have hle:yU y m<=(QX:Rat):=by
  have a:=(uH y m).1;have b:=Ll hy.rk hf;have c:=OM hy.rk hb.rm;have d:=uy (show y.rk.length*(8*AA)<=QX by have:=hb.rl;show y.rk.length*524288<=67108864;omega);show m+BM y m<=_;grind
 have hnn:0<=yU y m:=by show 0<=m+BM y m;grind
 rcases(uH y m).2.2 with g|⟨p,hp',hc,g⟩
 ·refine⟨D,hm.Dp,⟨1,(eI _).symm⟩,oO,?_,hnn,hle⟩;show Mu D (m+BM y m);rw[g];exact hm.mu.add (IB hy.rk hb.rm hm.mu hm.dv)
 ·obtain⟨r,r1,r2,r3⟩:=(e.ps p hp').2.int e.pos (D5 hy h0 p) (B:=7) (OE hy hb h0 hp');have hR:0<RS y m p:=hc.2;refine⟨D*r,dK hm.Dp (r3 hR),⟨r,rfl⟩,?_,?_,hnn,hle⟩
  ·have:=qC D r;have:=Bi r2;have:=qC 7 E;have:=L9.2.2.2.1;have:=e.ez;omega
  ·show Mu (D*r) (m+BM y m);rw[g];exact(hm.mu.wK r).add (Mu.quo (IB (hy.ld p hp') (hb.lm p hp') (e.ps p hp').1 (ey hm.dv ⟨E,rfl⟩)) (ux hR) r1)
theorem Vm (hy:pz y) (hb:IJ D0 y) (m0:Rat):∀(f:Nat) (m:Rat) (D:Nat),Nj D0 D m->wc y m<f->200*(sz D+30*f+100)<=MX->U7 y m0 f m
 |0,_,_,_,h,_=>absurd h (aW _)
 |f+1,m,D,hm,hmu,hs=>by
  obtain⟨h1,h2⟩:=Sp hy hb hm;have l:=MI hy hb hm;refine⟨Vw hy hb hm,λhf=> ?_⟩;obtain⟨D',d1,d2,d3,d4,d5,d6⟩:=Sd hy hb hm hf;have hm':Nj D0 D' (yU y m):=⟨hm.d0,hm.s0,d1,ey hm.dv d2,d5,d6,d4,oO⟩;have hst:wc y (yU y m)<wc y m:=G3 hy hm.nn hf;refine⟨?_,KS hy hb hm',λ_=>Vm hy hb m0 f _ D' hm' oO oO⟩;have:=h2 y.pl.length;have:=l.lm;omega
theorem OH (hy:pz y) (hb:IJ D0 y) (m0:Rat):∀(f:Nat) (m:Rat) (D:Nat),Nj D0 D m->200*(sz D+30*f+100)<=MX->∀z,Gk y m0 f m=some z->∃D',0<D'/\D∣D'/\sz D'<=sz D+30*f/\Mu D' z/\0<=z/\z<=(QX:Rat)
 |0,_,_,_,_,_,h=>by cases h
 |f+1,m,D,hm,hs,z,h=>by
  unfold Gk at h;by_cases hf:lY y.rk m<y.rk.length
  ·obtain⟨D',d1,d2,d3,d4,d5,d6⟩:=Sd hy hb hm hf;rw[aj hf]at h;split at h
   ·obtain⟨D2,e1,e2,e3,e4⟩:=OH hy hb m0 f _ D' ⟨hm.d0,hm.s0,d1,ey hm.dv d2,d5,d6,d4,oO⟩ oO z h;exact⟨D2,e1,ey d2 e2,oO,e4⟩
   ·obtain rfl:=bN h;exact⟨D',d1,d2,oO,d4,d5,d6⟩
  ·rw[ah hf]at h;cases h
theorem Pq (hb:IJ D0 y) (m:Rat):wc y m<=16:=by
 have h1:=hb.rl;have h2:∀l:List Pl,(∀p∈l,p.ld.length<=4)->(l.map λp=>p.ld.length-lY p.ld (PS y m p)).sum<=4*l.length:=λl=>by
  induction l with
  |nil=>exact λ_=>aH _
  |cons p l ih=>
   intro h;have a:=h p (aQ ..);have b:=ih λp hp=>h p (aK _ hp);rw[db,iF,bj];omega
 have h3:=h2 y.pl hb.ll;have h4:=hb.pn;unfold wc;omega
end
theorem z8 {f:Nat->Rat} {k:Nat}:∀ {n:Nat},(∀i,i<n->L (f i)<=k)->L (kg f n)<=n*(k+1)+1
 |0,_=>by rw[show kg f 0=0 from rfl,nW];omega
 |n+1,h=>by
  have a:=z8 (n:=n) λi hi=>h i oO;have b:=h n oO;have c:=Aw (kg f n) (f n);show L (kg f n+f n)<=_;rw[bA];omega
theorem Kj {f:Nat->Rat} {K:Nat}:∀ {n:Nat},(∀i,i<n->L (f i)<=K)->∃D:Nat,0<D/\sz D<=n*K+1/\∀i,i<n->Mu D (f i)
 |0,_=>⟨1,dD,by rw[E1];omega,λ_ h=>absurd h (aW _)⟩
 |n+1,h=>by
  obtain⟨D,h1,h2,h3⟩:=Kj (n:=n) λi hi=>h i oO;have hn:=h n oO;have hd:sz (f n).den<=K:=dx (s9 _) hn;refine⟨D*(f n).den,dK h1 (f n).den_pos,?_,λi hi=> ?_⟩
  ·have:=qC D (f n).den;rw[bA];omega
  ·by_cases e:i=n
   ·rw[e];exact(Mu.self _).dvd ⟨D,bF _ _⟩
   ·exact(h3 i oO).wK _
theorem Tq {q:Rat} (h:0<=q):q<=((q.num.natAbs:Nat):Rat):=by
 obtain⟨a,ha⟩:∃a:Rat,a=(q.den:Rat):=⟨_,rfl⟩;have h1:(1:Rat)<=a:=by rw[ha];exact uy q.den_pos
 have h2:q*a=(q.num:Rat):=by
  obtain⟨z,hz⟩:=Mu.self q;have h3:=fJ (a:=(q.num:Rat)) (b:=(q.den:Rat)) (by rw[<-ha];grind);rw[<-fB,eC]at h3;rw[ha];exact h3
 have h4:=nQ h1 h;have h5:0<=q.num:=Rat.num_nonneg.2 h;rw[<-cO,Int.natAbs_of_nonneg h5,<-h2];grind
theorem whole {q:Rat} {E K:Nat} (hq:0<q) (hE:0<E) (h:Mu E q) (hL:L q<=K):∃r:Nat,q*(E:Rat)=(r:Rat)/\0<r/\sz r<=K+sz E:=by
 obtain⟨r,r1,r2,r3⟩:=h.int hE (dj hq) (Tq (dj hq));refine⟨r,r1,r3 hq,?_⟩;have h1:=Bi r2;have h2:=qC q.num.natAbs E;have h3:sz q.num.natAbs<=L q:=tG q;omega
structure xe (D0:Nat) (g:mZ) (Y:Nat->Ly):Prop where
 d0:0<D0
 s0:sz D0<=2
 n0:0<g.n
 n:g.n<=8
 dn:g.ds.length<=6
 ln:∀d,d<g.ds.length->mw g d<=4
 ly:∀i,i<g.n->IJ D0 (Y i)
 cash:∀i,i<g.n->Mu D0 (A1 g i)/\A1 g i<=(AA:Rat)
 W:∀d,d<g.ds.length->0<=(g.d d).W/\Mu D0 (g.d d).W/\(g.d d).W<=(AA:Rat)
 tot:∀i,i<g.n->L (Y i).tot<=20
structure zP (D0 D:Nat) (g:mZ) (x:Nat->Rat):Prop where
 Dp:0<D
 dv:D0∣D
 mu:∀i,i<g.n->Mu D (x i)
 nn:∀i,i<g.n->0<=x i
 le:∀i,i<g.n->x i<=(QX:Rat)
 zz:200*(sz D+700)<=MX
section
variable {D0 D : Nat} {g : mZ} {Y : Nat → Ly} {B : Nat → Nat → Bool} {x d : Nat → Rat}
theorem zP.mo (X:zP D0 D g x) (b:xe D0 g Y) {i:Nat} (hi:i<g.n):Nj D0 D (x i):=⟨b.d0,b.s0,X.Dp,X.dv,X.nn i hi,X.le i hi,X.mu i hi,by have:=X.zz;omega⟩
theorem Xm (G:nB g Y B) (b:xe D0 g Y) {i:Nat} (hi:i<g.n):g.cn i<=7:=by have:=(b.ly i hi).n;rw[G.yn i hi]at this;exact this
theorem FF (G:nB g Y B) (b:xe D0 g Y) (X:zP D0 D g x):(∀i,i<g.n->∀c,L (lG Y x i c)<=sz D+20/\L (ow Y x i c)<=20):=λi hi c=>by
 have l:=MI (G.ly i hi) (b.ly i hi) (X.mo b hi);exact⟨l.dl _ c,l.sl _ c⟩
theorem WL (b:xe D0 g Y) {d:Nat} (hd:d<g.ds.length):L (g.d d).W<=5:=by
 obtain⟨h1,h2,h3⟩:=b.W d hd;have:=h2.size b.d0 h1 h3;have:=L9.1;have:=b.s0;omega
theorem Ry (q:Rat):L (pQ q)<=L q+1:=G6 q
theorem Sr (G:nB g Y B) (b:xe D0 g Y) (X:zP D0 D g x) {i:Nat} (hi:i<g.n):∃E,0<E/\sz E<=16/\(∀c,Mu E (ow Y x i c))/\∀c,Mu (D*E) (lG Y x i c):=by
 obtain⟨E,e⟩:=FZ (G.ly i hi) (b.ly i hi) (X.mo b hi);refine⟨E,e.pos,e.ez,λc=> ?_,λc=> ?_⟩
 ·show Mu E (sC (Y i) (x i) c);rw[Ho];exact(zB c e.rt).add (Mu.mU λp hp=>(e.pl p hp c).1)
 ·show Mu (D*E) (dC (Y i) (x i) c);rw[wP];exact(zB c e.gr).add (Mu.mU λp hp=>(e.pl p hp c).2)
theorem S7 (G:nB g Y B) (b:xe D0 g Y) (X:zP D0 D g x):∃E,0<E/\sz E<=129/\∀i,i<g.n->(∀c,Mu E (ow Y x i c))/\∀c,Mu (D*E) (lG Y x i c):=by
 have key:∀n,n<=g.n->∃E,0<E/\sz E<=16*n+1/\∀i,i<n->(∀c,Mu E (ow Y x i c))/\∀c,Mu (D*E) (lG Y x i c):=by
  intro n;induction n with
  |zero=>exact λ_=>⟨1,dD,by rw[E1];omega,λ_ h=>absurd h (aW _)⟩
  |succ n ih=>
   intro hn;obtain⟨E,h1,h2,h3⟩:=ih oO;obtain⟨F,f1,f2,f3,f4⟩:=Sr G b X (i:=n) oO;refine⟨E*F,dK h1 f1,by have:=qC E F;omega,λi hi=> ?_⟩;by_cases e:i=n
   ·rw[e];exact⟨λc=>(f3 c).dvd ⟨E,bF _ _⟩,λc=>(f4 c).dvd ⟨E,by rw[bF E F,bk]⟩⟩
   ·obtain⟨a,c⟩:=h3 i oO;exact⟨λk=>(a k).wK F,λk=>by rw[<-bk];exact(c k).wK F⟩
 obtain⟨E,h1,h2,h3⟩:=key g.n (aH _);have:=b.n;exact⟨E,h1,oO,h3⟩
theorem E3 {q:Nat->Rat} {k n:Nat} (hn:n<=4) (h:∀j,j<n->L (q j)<=k):L (nY q n)<=4*(k+2)+1:=by
 have h1:=z8 (f:=λj=>pQ (q j)) (k:=k+1) (n:=n) λj hj=>by have:=h j hj;have:=Ry (q j);omega
 have h2:=aO (k+1+1) hn;show L (kg (λj=>pQ (q j)) n)<=_;omega
theorem Lw (G:nB g Y B) (b:xe D0 g Y) (X:zP D0 D g x) {i j:Nat} (hi:i<g.n) (hj:j<g.n):L (qi g Y B x j i)<=17:=by
 obtain⟨E,h1,h2,h3,_⟩:=Sr G b X hi;have hM:=xZ (B:=B) G X.nn;have e:qi g Y B x j i=HG g B (lG Y x) (ow Y x) j i:=KB G.ho G.lg hi j;have how:∀d,d<g.ds.length->∀k,Mu E (qS g (ow Y x) d i k):=λd hd k=>by
  unfold qS;split
  ·next g1=>rw[g1];exact h3 _
  ·exact Mu.zero
 have hov:∀d,d<g.ds.length->∀k,k<=mw g d->Mu E (xM (g.d d).W (qD g (lG Y x) d) (qS g (ow Y x) d i) k):=λd hd k hk=>by
  rw[tQ _ _ λj hj=>BL G (H9 G X.nn) hd i oO];have hs:Mu E (kg (qS g (ow Y x) d i) k):=Mu.sum λj _=>how d hd j;split
  ·rw[dY];exact hs
  ·rw[dh];exact Mu.zero
 have hmu:Mu E (qi g Y B x j i):=by
  rw[e];unfold HG pR;refine Mu.add (Mu.sum λc _=> ?_) (Mu.sum λd hd=> ?_)
  ·split
   ·exact h3 c
   ·exact Mu.zero
  ·unfold o5;refine Mu.add (Mu.sum λk hk=> ?_) ?_
   ·split
    ·show Mu E (xM _ _ _ (k+1)-xM _ _ _ k);exact(hov d hd (k+1) hk).sub (hov d hd k oO)
    ·exact Mu.zero
   ·split
    ·unfold Dt;rw[t8];exact(Mu.sum λk _=>how d hd k).sub (hov d hd _ (aH _))
    ·exact Mu.zero
 have hle:qi g Y B x j i<=((1:Nat):Rat):=eR (za (f:=λj=>qi g Y B x j i) (λj hj=>hM.nn j hj i hi) j hj) (hM.cs i hi);have:=hmu.size h1 (hM.nn j hj i hi) hle;have:=L9.2.2.1;omega
theorem yM {α:Type} {f:Nat->List α} {k:Nat} {o:α}:o∈mL f k↔∃i,i<k/\o∈f i:=by
 unfold mL;rw[dQ];constructor
 ·rintro⟨i,h1,h2⟩;exact⟨i,cW.1 h1,h2⟩
 ·rintro⟨i,h1,h2⟩;exact⟨i,cW.2 h1,h2⟩
theorem xi {α:Type} {f:Nat->List α} {b:Nat}:∀ {k:Nat},(∀i,i<k->(f i).length<=b)->(mL f k).length<=k*b
 |0,_=>by show 0<=_;omega
 |k+1,h=>by
  have a:=xi (k:=k) λi hi=>h i oO;have c:=h k oO;rw[oC,aG,bA];omega
theorem PP (G:nB g Y B) (b:xe D0 g Y) (X:zP D0 D g x) {d:Nat} (hd:d<g.ds.length) (i:Nat) {k:Nat} (hk:k<mw g d):L (qS g (ow Y x) d i k)<=20:=by
 unfold qS;split
 ·exact(FF G b X _ (G.lg d hd k hk).1 _).2
 ·have:=nW;omega
theorem TP (G:nB g Y B) (b:xe D0 g Y) (X:zP D0 D g x) {d:Nat} (hd:d<g.ds.length) (i:Nat) {k:Nat} (hk:k<mw g d):L (wY g (lG Y x) (ow Y x) d i k)<=200:=by
 have hl:=b.ln d hd;have h:∀k,k<=mw g d->L (xM (g.d d).W (qD g (lG Y x) d) (qS g (ow Y x) d i) k)<=89:=λk hk=>by
  cases k with
  |zero=>have:=nW;show L (0:Rat)<=_;omega
  |succ k=>
   show L (if _ then _ else _)<=_;split
   ·exact E3 (k:=20) oO λj hj=>PP G b X hd i oO
   ·have:=nW;omega
 have h1:=h (k+1) hk;have h2:=h k oO;have h3:=s8 (xM (g.d d).W (qD g (lG Y x) d) (qS g (ow Y x) d i) (k+1)) (xM (g.d d).W (qD g (lG Y x) d) (qS g (ow Y x) d i) k);show L (xM _ _ _ (k+1)-xM _ _ _ k)<=200;omega
theorem Vc (G:nB g Y B) (b:xe D0 g Y) (X:zP D0 D g x) {d:Nat} (hd:d<g.ds.length) (i:Nat):L (kg (qS g (ow Y x) d i) (mw g d))<=85/\L (kg (wY g (lG Y x) (ow Y x) d i) (mw g d))<=805:=by
 have hl:=b.ln d hd;have h1:=z8 (f:=qS g (ow Y x) d i) (k:=20) (n:=mw g d) λk hk=>PP G b X hd i hk;have h2:=z8 (f:=wY g (lG Y x) (ow Y x) d i) (k:=200) (n:=mw g d) λk hk=>TP G b X hd i hk;have h3:=aO (20+1) hl;have h4:=aO (200+1) hl;exact⟨oO,oO⟩
theorem Ud (G:nB g Y B) (b:xe D0 g Y) (X:zP D0 D g x):(IP g B (lG Y x) (ow Y x)).length<=300/\∀o∈IP g B (lG Y x) (ow Y x),o.1<g.n/\o.2.1<g.n/\L o.2.2<=1000:=by
 refine⟨?_,λo ho=> ?_⟩
 ·have h1:=xi (f:=AZ g B (ow Y x)) (b:=7) (k:=g.n) λi hi=>by
   have h:=xi (f:=sS g B (ow Y x) i) (b:=1) (k:=g.cn i) λc _=>by unfold sS;split<;>simp
   have:=Xm G b hi;unfold AZ;omega
  have h2:=xi (f:=Dl g (lG Y x) (ow Y x)) (b:=40) (k:=g.ds.length) λd hd=>by
   have h:=xi (f:=wB g (lG Y x) (ow Y x) d) (b:=5) (k:=g.n) λi _=>by
    have h:=xi (f:=xI g (lG Y x) (ow Y x) d i) (b:=1) (k:=mw g d) λj _=>aH _;have h4:=b.ln d hd;have h5:(z6 g (lG Y x) (ow Y x) d i).length<=1:=by unfold z6;split<;>simp
    unfold wB;rw[aG];omega
   have:=b.n;unfold Dl;omega
  have:=b.n;have:=b.dn;unfold IP;rw[aG];omega
 ·unfold IP at ho;rcases bO.1 ho with ho|ho
  ·obtain⟨i,hi,ho⟩:=yM.1 ho;obtain⟨c,hc,ho⟩:=yM.1 ho;unfold sS at ho;split at ho
   ·next g1=>
    obtain rfl:=aZ.1 ho;obtain⟨a,ha,ea⟩:=G.ho i hi c hc g1.1;refine⟨?_,hi,?_⟩
    ·show(g.c i c).h.toNat<g.n;rw[ea];omega
    ·have:=(FF G b X i hi c).2;show L (ow Y x i c)<=1000;omega
   ·cases ho
  ·obtain⟨d,hd,ho⟩:=yM.1 ho;obtain⟨i,hi,ho⟩:=yM.1 ho;rcases bO.1 ho with ho|ho
   ·obtain⟨k,hk,ho⟩:=yM.1 ho;obtain rfl:=aZ.1 ho;refine⟨(G.lg d hd k hk).1,hi,?_⟩;have:=TP G b X hd i hk;show L (wY g (lG Y x) (ow Y x) d i k)<=1000;omega
   ·unfold z6 at ho;split at ho
    ·next g1=>
     obtain rfl:=aZ.1 ho;obtain⟨a,ha,ea⟩:=G.ho (g.lg d 0).1 (G.lg d hd 0 g1.1).1 (g.lg d 0).2 (G.lg d hd 0 g1.1).2 g1.2;have ea':Gr g d=a:=ea;refine⟨?_,hi,?_⟩
     ·show(Gr g d).toNat<g.n;rw[ea'];omega
     ·obtain⟨h1,h2⟩:=Vc G b X hd i;have:=s8 (kg (qS g (ow Y x) d i) (mw g d)) (kg (wY g (lG Y x) (ow Y x) d i) (mw g d));show L (kg (qS g (ow Y x) d i) (mw g d)-kg (wY g (lG Y x) (ow Y x) d i) (mw g d))<=1000;omega
    ·cases ho
theorem Vg {k:Nat} (a c:Nat):∀(T:List IZ) (M:Mx),L (M a c)<=k->(∀o∈T,L o.2.2<=1000)->L (T.foldl (λM o=>ry M o.1 o.2.1 o.2.2) M a c)<=k+1001*T.length
 | [],_,h,_=>h
 |o::T,M,h,hT=>by
  have h1:=hT o (aQ ..);have h2:L (ry M o.1 o.2.1 o.2.2 a c)<=k+1001:=by
   unfold ry;split
   ·next e=>
    have:=Aw (M o.1 o.2.1) o.2.2;rw[e.1,e.2]at h;omega
   ·omega
  have:=Vg a c T (ry M o.1 o.2.1 o.2.2) h2 λo ho=>hT o (aK _ ho);show L (T.foldl _ (ry M o.1 o.2.1 o.2.2) a c)<=_;rw[bj];omega
abbrev SG:Nat:=30000000000
theorem Vj (G:nB g Y B) (b:xe D0 g Y) (X:zP D0 D g x):Wl g B (lG Y x) (ow Y x) SG:=by
 have hz:=X.zz;have hMX:MX=1099511627776:=rfl;have hK2:SG=30000000000:=rfl;obtain⟨g1,g2⟩:=Ud G b X;have hq:∀d,d<g.ds.length->∀j,j<mw g d->L (qD g (lG Y x) d j)<=sz D+20:=λd hd j hj=>(FF G b X _ (G.lg d hd j hj).1 _).1;refine⟨λP o hP=> ?_,λd hd=> ?_,λd hd j hj=>⟨?_,λi _=> ?_⟩,λd hd j hj=>⟨?_,λi _=> ?_⟩,dD,λd hd i _=> ?_,λd hd=>by have:=b.ln d hd;omega⟩
 ·have hmem:∀o'∈P++[o],o'∈IP g B (lG Y x) (ow Y x):=λo' ho'=>hP.subset ho';obtain⟨o1,o2,o3⟩:=g2 o (hmem o (List.mem_append_right _ (aZ.2 rfl)));refine⟨o1,o2,?_⟩;have hl:=hP.length_le;rw[aG]at hl;have h0:=nW;have:=Vg (k:=1) o.1 o.2.1 P (λ_ _=>0) (by show L (0:Rat)<=1;omega) λo' ho'=>(g2 o' (hmem o' (gR _ ho'))).2.2;show L (P.foldl (λM o=>ry M o.1 o.2.1 o.2.2) (λ_ _=>0) o.1 o.2.1)+_<=MX;omega
 ·have:=WL b hd;omega
 ·have:=hq d hd j hj;omega
 ·have:=PP G b X hd i hj;omega
 ·have:=E3 (q:=qD g (lG Y x) d) (k:=sz D+20) (n:=j) (by have:=b.ln d hd;omega) λk hk=>hq d hd k oO;omega
 ·have:=E3 (q:=qS g (ow Y x) d i) (k:=20) (n:=j) (by have:=b.ln d hd;omega) λk hk=>PP G b X hd i oO;omega
 ·have hl:=b.ln d hd;obtain⟨h1,h2⟩:=Vc G b X hd i;have hs:∀(f:Nat->Rat) (k n:Nat),(∀j,j<n->L (f j)<=k)->xN (ky n λj=>j8 (f j))<=n*(k+1):=λf k n h=>by
   induction n with
   |zero=>exact aB _
   |succ n ih=>
    have a:=ih λj hj=>h j oO;have c:=h n oO;rw[om,bA,ue];show xN (ky n λj=>j8 (f j))+(Lr (j8 (f n))+1+0)<=_;rw[Lr_ofQ];omega
  have e1:=hs (qS g (ow Y x) d i) 20 (mw g d) λj hj=>PP G b X hd i hj;have e2:=hs (wY g (lG Y x) (ow Y x) d i) 200 (mw g d) λj hj=>TP G b X hd i hj;have h3:=aO (20+1) hl;have h4:=aO (200+1) hl;exact⟨oO,oO,oO⟩
theorem Wk (G:nB g Y B) (b:xe D0 g Y) (X:zP D0 D g x) {c:Nat} (hc:c<g.n):Mv (qi g Y B x) g.n c:=by
 have hMX:MX=1099511627776:=rfl;have h:∀i,i<=g.n->L (qP (qi g Y B x) c i)<=8*18+1:=λi hi=>by
  have h1:=z8 (f:=λi=>qi g Y B x i c) (k:=17) (n:=i) λj hj=>Lw G b X hc oO;have h2:=aO (17+1) (show i<=8 by have:=b.n;omega);show L (kg (λi=>qi g Y B x i c) i)<=_;omega
 refine⟨λi hi=> ?_,?_⟩
 ·have:=h i oO;have:=Lw G b X hc hi;omega
 ·have:=h g.n (aH _);omega
end
def LB:Nat:=1376256
theorem Ve:BB 20 8=LB:=dD
theorem Np {f:Nat->Rat} {k n:Nat} (hn:n<=4) (h:∀i,i<n->L (f i)<=k):L (kg f n)<=4*(k+1)+1:=by
 have h1:=z8 h;have h2:=aO (k+1) hn;omega
theorem Wj {r:Nat} (h:r<=8):BB 20 r<=LB:=by rw[<-Ve];exact Bn 20 h
section
variable {D0 D : Nat} {g : mZ} {Y : Nat → Ly} {B : Nat → Nat → Bool} {x d : Nat → Rat} {t : Rat}
theorem Bf (G:nB g Y B) (b:xe D0 g Y) (X:zP D0 D g x) {C:List Nat} (hC:∀c∈C,c<g.n):Ms 20 (pi (qi g Y B x) C):=λa ha r hr=>by
 obtain⟨i,hi,rfl⟩:=tf ha;obtain⟨j,hj,rfl⟩:=tf hr;show Lr (j8 (sx (qi g Y B x) C i j))<=20;rw[Lr_ofQ];have h1:=Lw G b X (hC _ (o7 hj)) (hC _ (o7 hi));have h2:=s8 (qi g Y B x (C.getD i 0) (C.getD j 0)) (if i=j then 1 else 0);have h3:L (if i=j then 1 else 0:Rat)<=1:=by
  have:=Ih;have:=nW;split<;>omega
 show L (qi g Y B x (C.getD i 0) (C.getD j 0)-if i=j then 1 else 0)<=20;omega
theorem S1 (G:nB g Y B) (b:xe D0 g Y) (X:zP D0 D g x) (hC:rP g Y B x≠ []):∀i,L (A3 g Y B x i)<=LB:=by
 have hn8:=b.n;obtain⟨_,_,l3,_,_,f,hf,hfP,hk⟩:=yP (C:=rP g Y B x) (xZ G X.nn) rfl hC oO;have hCn:∀c∈rP g Y B x,c<g.n:=λc hc=>(yl (qi g Y B x) g.n (List.replicate g.n true) g.n).2 c hc;have hCl:(rP g Y B x).length<=g.n:=zY _ _ _ _;have hr:=Bf G b X hCn;intro i;have h0:=nW;have h1:=Ih;show L (uz (rP g Y B x) (Mj (qi g Y B x) (rP g Y B x)) (rP g Y B x).length i)<=LB;unfold uz;rw[bR];split
 ·next hi=>
  have hj:=List.idxOf_lt_length_of_mem hi;generalize (rP g Y B x).idxOf i=j at hj;have hk':Mj (qi g Y B x) (rP g Y B x) j=_:=hk j hj;rw[hk'];have hL:=(GT (n:=(rP g Y B x).length) (m:=(rP g Y B x).length) (M:=RM (pi (qi g Y B x) (rP g Y B x))) (K:=20) (λa ha c hc=>Mk hr (by rw[show(pi (qi g Y B x) (rP g Y B x)).length=(rP g Y B x).length from mQ _ _ _];exact ha) (by unfold pi;rw[pD _ ha,j9];exact hc)) (rP g Y B x).length (aH _)).1;have I:=rinv (rP g Y B x).length (RM (pi (qi g Y B x) (rP g Y B x))) (rP g Y B x).length;have hP:=yZ (rP g Y B x).length (RM (pi (qi g Y B x) (rP g Y B x))) (rP g Y B x).length;have hB:=Wj (r:=(lD (rP g Y B x).length (RM (pi (qi g Y B x) (rP g Y B x))) (rP g Y B x).length).P.length) oO;have hLB:LB=1376256:=rfl;have hf':f<(rP g Y B x).length:=hf;unfold kv;split
  ·omega
  ·split
   ·next hm=>
    have h2:=List.idxOf_lt_length_of_mem hm;rw[BO];have:=hL ((lD (rP g Y B x).length (RM (pi (qi g Y B x) (rP g Y B x))) (rP g Y B x).length).P.idxOf j) oO f hf';omega
   ·omega
 ·show L (0:Rat)<=LB;have hLB:LB=1376256:=rfl;omega
theorem SD (b:xe D0 g Y) (G:nB g Y B) {i:Nat} (hi:i<g.n):L (A1 g i)<=5:=by
 obtain⟨h1,h2⟩:=b.cash i hi;have:=h1.size b.d0 (G.cash i hi) h2;have:=L9.1;have:=b.s0;omega
theorem Vb (b:xe D0 g Y) (G:nB g Y B):RB 20 (zN g (List.range g.n)):=λr hr=>by
 obtain⟨k,hk,rfl⟩:=tf hr;rw[dI]at hk;rw[Lr_ofQ,BO,rF hk];have:=SD b G hk;omega
theorem Ui (G:nB g Y B) (b:xe D0 g Y) (X:zP D0 D g x) (hC:rP g Y B x=[]) {i:Nat} (hi:i<g.n):L (zR g Y B x i)<=LB:=by
 have hn8:=b.n;obtain⟨_,_,_,_,hP,hf⟩:=zy (g:=g) (xZ G X.nn) hC b.n0 oO G.cash;have hr:=Bf (C:=List.range g.n) G b X λc hc=>cW.1 hc;have hl:(pi (qi g Y B x) (List.range g.n)).length=g.n:=by rw[show(pi (qi g Y B x) (List.range g.n)).length=(List.range g.n).length from mQ _ _ _,dI]
 have e:zR g Y B x i=_:=hf i hi;rw[e];have hL:=(GT (n:=g.n) (m:=g.n+1) (M:=Dv (pi (qi g Y B x) (List.range g.n)) (zN g (List.range g.n))) (K:=20) (λa ha c hc=>by
  unfold Dv;rw[hl];split
  ·next h=>exact Mk hr (by rw[hl];exact ha) (by unfold pi;rw[pD _ (by rw[dI];exact ha),j9,dI];exact h)
  ·rw[aj oO];unfold VX zN;rw[kz _ _ (by rw[dI];exact ha),toQ_ofQ,BO,rF ha];have:=SD b G ha;omega) g.n oO).1 i hi g.n oO
 unfold Ni at hP⊢;rw[hl]at hP⊢;rw[hP]at hL;have:=Wj hn8;omega
structure Ik (g:mZ) (d:Nat->Rat):Prop where
 nn:∀i,i<g.n->0<=d i
 L:∀i,i<g.n->L (d i)<=LB
def FU:Nat:=17
theorem Uc (b:xe D0 g Y) {i:Nat} (hi:i<g.n) (m:Rat):wc (Y i) m<FU:=Nat.lt_succ_of_le (Pq (b.ly i hi) m)
theorem T6 (G:nB g Y B) (b:xe D0 g Y) (X:zP D0 D g x) {e k:Nat} (he:e<g.ds.length) (hk:k<=mw g e):L (zS g (lG Y x) e k)<=4*sz D+200:=by
 have hl:=b.ln e he;have h1:=Np (f:=qD g (lG Y x) e) (k:=sz D+20) (n:=k) oO λj hj=>(FF G b X _ (G.lg e he j (show j<mw g e by omega)).1 _).1;have h3:=s8 (pQ (g.d e).W) (kg (qD g (lG Y x) e) k);have h4:=Ry (g.d e).W;have h5:=WL b he;rw[CA];omega
theorem K7 (G:nB g Y B) (b:xe D0 g Y) (X:zP D0 D g x) (hd:Ik g d) {e k:Nat} (he:e<g.ds.length) (hk:k<=mw g e):L (By g (ow Y x) d e k)<=4*LB+200:=by
 have hl:=b.ln e he;have h1:=Np (f:=De g (ow Y x) d e) (k:=20+LB) (n:=k) oO λj hj=>by
  have a:=(FF G b X _ (G.lg e he j (show j<mw g e by omega)).1 (g.lg e j).2).2;have c:=hd.L _ (G.lg e he j (show j<mw g e by omega)).1;have:=zM (ow Y x (g.lg e j).1 (g.lg e j).2) (d (g.lg e j).1);show L (ow Y x (g.lg e j).1 (g.lg e j).2*d (g.lg e j).1)<=_;omega
 rw[CL];omega
theorem Nt (G:nB g Y B) (b:xe D0 g Y) (X:zP D0 D g x) {i:Nat} (hi:i<g.n) {y:Rat} (h:Gk (Y i) (x i) FU (x i)=some y):∃D',0<D'/\D∣D'/\sz D'<=sz D+510/\Mu D' y/\L y<=sz D+520:=by
 have hFU:FU=17:=rfl;obtain⟨D',h1,h2,h3,h4,h5,h6⟩:=OH (G.ly i hi) (b.ly i hi) (x i) FU (x i) D (X.mo b hi) (by have:=X.zz;omega) y h;refine⟨D',h1,h2,oO,h4,?_⟩;have:=h4.size h1 h5 h6;have:=L9.2.2.2.2.1;omega
theorem Vs (X:zP D0 D g x) {i:Nat} (hi:i<g.n):L (x i)<=sz D+4:=by
 have:=(X.mu i hi).size X.Dp (X.nn i hi) (X.le i hi);have:=L9.2.2.2.2.1;omega
theorem IL (G:nB g Y B) (b:xe D0 g Y) (X:zP D0 D g x) (hd:Ik g d) {r:Rat} (hc:yT g Y (λ_=>FU) (lG Y x) (ow Y x) x d r):L r<=4*sz D+4*LB+1600:=by
 rcases hc with⟨i,hi,hd0,y,hz,e⟩|⟨e,he,k,hk,h1,h2,e1⟩
 ·obtain⟨_,_,_,_,_,hy⟩:=Nt G b X hi hz;have h1:=Vs X hi;have h2:=hd.L i hi;have h3:=s8 y (x i);have h4:=zw (y-x i) (d i);rw[e];omega
 ·have h3:=T6 G b X he (k:=k+1) oO;have h4:=K7 G b X hd he (k:=k+1) oO;have h5:=zw (zS g (lG Y x) e (k+1)) (By g (ow Y x) d e (k+1));rw[e1];omega
theorem JY {o:Option Rat} {S:Rat->Prop} {k:Nat} (h:Mn o S) (hS:∀r,S r->L r<=k) (hk:1<=k):L (o.getD 0)<=k:=by
 cases o with
 |none=>have:=nW;show L (0:Rat)<=k;omega
 |some r=>exact hS r (h.2 r rfl)
theorem Vd (G:nB g Y B) (b:xe D0 g Y) (X:zP D0 D g x) (hd:Ik g d):U8 g Y (λ_=>FU) (lG Y x) (ow Y x) x d:=by
 have hz:=X.zz;have hMX:MX=1099511627776:=rfl;have hLB:LB=1376256:=rfl;have hFU:FU=17:=rfl;have hcL:=λr=>IL (r:=r) G b X hd;refine⟨λi hi=>by have:=hd.L i hi;omega,λi hi hd0=>⟨KS (G.ly i hi) (b.ly i hi) (X.mo b hi),Vm (G.ly i hi) (b.ly i hi) (x i) FU (x i) D (X.mo b hi) (Uc b hi _) oO,λy hy=> ?_⟩,λe he=>by have:=WL b he;omega,λe he k hk=> ?_⟩
 ·obtain⟨_,_,_,_,_,hyL⟩:=Nt G b X hi hy;have h1:=Vs X hi;have h2:=hd.L i hi;have h3:=s8 y (x i);have h4:=hcL _ (.inl ⟨i,hi,hd0,y,hy,rfl⟩);have h5:=JY (Jj Y (λ_=>FU) x d i) (k:=4*sz D+4*LB+1600) (λr ⟨a,ha,hr⟩=>hcL r (.inl ⟨a,oO,hr⟩)) oO;exact⟨oO,oO,oO⟩
 ·have a1:=T6 G b X he (k:=k) oO;have a2:=T6 G b X he (k:=k+1) hk;have a3:=K7 G b X hd he (k:=k) oO;have a4:=K7 G b X hd he (k:=k+1) hk;obtain⟨g1,g2⟩:=G.lg e he k hk;have b1:=FF G b X _ g1 (g.lg e k).2;have b2:=hd.L _ g1;have b3:=zM (ow Y x (g.lg e k).1 (g.lg e k).2) (d (g.lg e k).1);have b4:L (qD g (lG Y x) e k)<=sz D+20:=b1.1;refine⟨oO,oO,oO,oO,oO,λc1 c2=>⟨oO,?_⟩⟩;have h4:=hcL _ (.inr ⟨e,he,k,hk,c1,c2,rfl⟩);have h5:=JY (IA g (lG Y x) (ow Y x) d (e:=e) (Iv g Y (λ_=>FU) (lG Y x) (ow Y x) x d e) k) (k:=4*sz D+4*LB+1600) (λr hr=>by
   rcases hr with(hr|⟨e',he',hr⟩)|⟨j,hj,hr⟩
   ·exact hcL r (.inl hr)
   ·exact hcL r (.inr ⟨e',oO,hr⟩)
   ·exact hcL r (.inr ⟨e,he,j,oO,hr⟩)) oO
  omega
def Qp:Nat:=28905000
theorem Ki (G:nB g Y B) (b:xe D0 g Y) (X:zP D0 D g x) (hd:Ik g d) (ht:Mu D t) {h:Rat} (hc:h=1-t\/yT g Y (λ_=>FU) (lG Y x) (ow Y x) x d h):
  ∃D',0<D'/\D0∣D'/\sz D'<=sz D+Qp/\(∀i,i<g.n->Mu D' (x i+h*d i))/\Mu D' (t+h)/\Mu D' t:=by
 have hLB:LB=1376256:=rfl;have hGS:Qp=28905000:=rfl;have hn8:=b.n;obtain⟨Dd,d1,d2,d3⟩:=Kj (f:=d) (K:=LB) (n:=g.n) λi hi=>hd.L i hi;have d4:sz Dd<=8*LB+1:=by have:=aO LB hn8;omega
 have fin:∀E:Nat,0<E->D∣E->sz E<=sz D+12*LB+1000->Mu E h->∃D',0<D'/\D0∣D'/\sz D'<=sz D+Qp/\(∀i,i<g.n->Mu D' (x i+h*d i))/\Mu D' (t+h)/\Mu D' t:=λE e1 e2 e3 e4=>by
  refine⟨E*Dd,dK e1 d1,ey X.dv (ey e2 ⟨Dd,rfl⟩),?_,λi hi=> ?_,(((ht.dvd e2).add e4).wK Dd),(ht.dvd e2).wK Dd⟩
  ·have:=qC E Dd;omega
  ·exact(((X.mu i hi).dvd e2).wK Dd).add (e4.mul (d3 i hi))
 rcases hc with hc|⟨i,hi,hd0,y,hz,e⟩|⟨e,he,k,hk,h1,h2,e1⟩
 ·exact fin D X.Dp ⟨1,(eI _).symm⟩ oO (by rw[hc];exact Mu.one.sub ht)
 ·obtain⟨D',p1,p2,p3,p4,_⟩:=Nt G b X hi hz;obtain⟨r,r1,r2,r3⟩:=whole hd0 d1 (d3 i hi) (hd.L i hi);refine fin (D'*r) (dK p1 r2) (ey p2 ⟨r,rfl⟩) ?_ ?_
  ·have:=qC D' r;omega
  ·rw[e];exact Mu.quo ((p4.sub ((X.mu i hi).dvd p2)).wK Dd) (ux hd0) r1
 ·obtain⟨E,q1,q2,q3⟩:=S7 (B:=B) G b X;have hrt:Mu (E*Dd) (By g (ow Y x) d e (k+1)):=by
   rw[CL];exact Mu.sum λj hj=>((q3 _ (G.lg e he j (show j<mw g e by omega)).1).1 _).mul (d3 _ (G.lg e he j (show j<mw g e by omega)).1)
  have hlf:Mu (D*(E*Dd)) (zS g (lG Y x) e (k+1)):=by
   rw[CA,<-bk];refine Mu.wK (Mu.sub ?_ (Mu.sum λj hj=>(q3 _ (G.lg e he j (show j<mw g e by omega)).1).2 _)) Dd;have hW:Mu D0 (pQ (g.d e).W):=by
    rcases mJ (g.d e).W with c|c
    ·rw[c.1];exact(b.W e he).2.1
    ·rw[c.1];exact Mu.zero
   exact hW.dvd (ey X.dv ⟨E,rfl⟩)
  obtain⟨r,r1,r2,r3⟩:=whole h2 (dK q1 d1) hrt (K7 G b X hd he (k:=k+1) hk);refine fin (D*r) (dK X.Dp r2) ⟨r,rfl⟩ ?_ ?_
  ·have:=qC D r;have:=qC E Dd;omega
  ·rw[e1];exact Mu.quo hlf (ux h2) r1
end
theorem SY {y:Ly} {m:Rat} (hy:pz y) (hm:0<=m):kg (dC y m) y.n<=Qn y.rk:=by
 have e:kg (dC y m) y.n=kg (qJ y (lF y m)) y.n+mU (λp=>kg (λk=>tk p.ld (PS y m p) k) y.n) y.pl:=by
  rw[<-yH (λp k=>tk p.ld (PS y m p) k),<-n6];exact kp λk _=>wP y m k
 have hq:∀ {T:List Tr} {m:Rat},yu T->(∀t∈T,∀p∈t.ps,zL y.n p)->0<=m->kg (λk=>tk T m k) y.n<=Rx T m:=fun {T m} hT hp hm=>by
  have h1:=zj (n:=y.n) (l:=qQ T m) (BE hp);have h2:=DH (c:= -1) hT hm;unfold tk at h2;show kg (λk:Nat=>rC k (qQ T m)) y.n<=qs (qQ T m);grind
 have h1:mU (λp=>kg (λk=>tk p.ld (PS y m p) k) y.n) y.pl<=mU (λp=>PS y m p) y.pl:=yb λp hp=>eR (hq (hy.ld p hp) (hy.lp p hp) (sv hy hm p)) (Nr (hy.ld p hp) (sv hy hm p));have h2:=yO hy (lF y m);have h4:=hq hy.rk hy.rp hm;have h5:kg (lF y m) y.n=kg (λk=>tk y.rk m k) y.n:=kp λk _=>pE y m k;have h6:mU (λp=>n7 p.mem (lF y m)) y.pl=mU (λp=>PS y m p) y.pl:=rfl;have h7:=P8 hy.rk hm;rw[h5,h6]at h2;rw[e];grind
section
variable {D0 D : Nat} {g : mZ} {Y : Nat → Ly} {B : Nat → Nat → Bool} {x : Nat → Rat} {t : Rat}
theorem Vu (G:nB g Y B) (b:xe D0 g Y) (hx:∀i,i<g.n->0<=x i) {j:Nat} (hj:j<g.n):F0 g B (lG Y x) j<=33554432:=by
 have hz:∀i,i<g.n->(λ_:Nat=>(0:Rat)) i<=x i:=hx;have h0:∀i,i<g.n->0<=(λ_:Nat=>(0:Rat)) i:=λ_ _=>bS;have h1:=Qd (B:=B) G (Eb G h0) (Bj G h0 hz);have h2:kg (F0 g B (lG Y λ_=>0)) g.n=0:=lr λj hj=>by
  have:=(Uv (B:=B) G).fx j hj;grind
 have h3:kg (λi=>kg (lG Y x i) (g.cn i)-kg (lG Y (λ_=>0) i) (g.cn i)) g.n<=kg (λ_=>4194304) g.n:=oa λi hi=>by
  have a:=SY (G.ly i hi) (hx i hi);rw[G.yn i hi]at a;have c:=OM (G.ly i hi).rk (b.ly i hi).rm;have d:=uy (show(Y i).rk.length*(8*AA)<=4194304 by have:=(b.ly i hi).rl;show(Y i).rk.length*524288<=4194304;omega);rw[show((4194304:Nat):Rat)=4194304 from rfl]at d;have e:kg (lG Y (λ_=>0) i) (g.cn i)=0:=lr λc _=>JT (G.ly i hi);have f:kg (lG Y x i) (g.cn i)=kg (dC (Y i) (x i)) (g.cn i):=rfl;rw[e,f];grind
 have h4:∀n:Nat,n<=8->kg (λ_=>(4194304:Rat)) n<=33554432:=λn hn=>by
  have:∀n:Nat,kg (λ_=>(4194304:Rat)) n=(n:Rat)*4194304:=λn=>by
   induction n with
   |zero=>show(0:Rat)=((0:Nat):Rat)*_;rw[show((0:Nat):Rat)=0 from rfl];grind
   |succ n ih=>show kg _ n+_=_;rw[ih,gS,show((1:Nat):Rat)=1 from rfl];grind
  rw[this];have:=uy hn;rw[show((8:Nat):Rat)=8 from rfl]at this;grind
 have h5:=za (f:=F0 g B (lG Y x)) (λj _=>Vn G (Eb G hx) j) j hj;have h6:=h4 g.n b.n;grind
theorem WC (G:nB g Y B) (b:xe D0 g Y) (I:Inv g Y B x t) {j:Nat} (hj:j<g.n):x j<=(QX:Rat):=by
 have h1:=Vu G b I.nn hj;have h2:=I.fx j hj;have h3:=(b.cash j hj).2;rw[show((AA:Nat):Rat)=65536 from rfl]at h3;have h4:=nQ I.t1 (G.cash j hj);rw[G1,h2];grind
theorem TG (b:xe D0 g Y) (x:Nat->Rat):H7 g Y x<=152:=by
 have hs:∀(f:Nat->Nat) (k n:Nat),(∀i,i<n->f i<=k)->Jm f n<=n*k:=λf k n h=>by
  induction n with
  |zero=>exact aB _
  |succ n ih=>
   have a:=ih λi hi=>h i oO;have c:=h n oO;show Jm f n+f n<=_;rw[bA];omega
 have h1:=hs (λi=>wc (Y i) (x i)) 16 g.n λi hi=>Pq (b.ly i hi) _;have h2:=hs (λe=>Jm (λk=>if 0<pQ (g.d e).W-kg (qD g (lG Y x) e) (k+1)then 1 else 0) (mw g e)) 4 g.ds.length λe he=>by
  have:=hs (λk=>if 0<pQ (g.d e).W-kg (qD g (lG Y x) e) (k+1)then 1 else 0) 1 (mw g e) λk _=>by split<;>omega
  have:=b.ln e he;omega
 have:=b.n;have:=b.dn;unfold H7;omega
def W6 (D0:Nat) (g:mZ) (k:Nat) (x:Nat->Rat) (t:Rat):Prop:=∃D,0<D/\D0∣D/\sz D<=k/\(∀i,i<g.n->Mu D (x i))/\Mu D t
def Uj (k f:Nat):Prop:=200*(k+Qp*f+700)<=MX
theorem Uj.step {k f:Nat} (h:Uj k (f+1)):Uj (k+Qp) f/\200*(k+700)<=MX:=by
 unfold Uj at h⊢;have e:Qp*(f+1)=Qp*f+Qp:=rfl;rw[e]at h;omega
theorem WE (G:nB g Y B) (b:xe D0 g Y):∀(f:Nat) (x:Nat->Rat) (t:Rat) (k:Nat),Inv g Y B x t->W6 D0 g k x t->H7 g Y x+(if t=1 then 0 else 1)<f->Uj k f->
  UB g Y B FU 20 SG f x t/\∃D,zP D0 D g (Mw g Y B FU f x t):=by
 intro f;induction f with
 |zero=>exact λ_ _ _ _ _ h _=>absurd h (aW _)
 |succ f ih=>
  rintro x t k I ⟨D,s1,s2,s3,s4,s5⟩ hm hk;have hMX:MX=1099511627776:=rfl;have hLB:LB=1376256:=rfl;have hn8:=b.n;obtain⟨hk2,hk⟩:=hk.step;have X:zP D0 D g x:=⟨s1,s2,s4,I.nn,λi hi=>WC G b I hi,dx (bB 200 (Nat.add_le_add_right s3 700)) hk⟩;have hF:∀i,i<g.n->∀m,wc (Y i) m<FU:=λi hi m=>Uc b hi m;have hz:=X.zz;have hLt:L t<=sz D+1:=by
   have:=s5.size s1 I.t0 (B:=1) I.t1;have:=L9.2.2.1;omega
  have hL1:=Ih;have hxL:=λi hi=>Vs (i:=i) X hi;have hSt:∀(h1:rP g Y B x≠ []->Ik g (A3 g Y B x)) (h2:rP g Y B x=[]->Ik g (zR g Y B x)),WX g Y B FU 20 SG x t:=λh1 h2=>by
   refine⟨λi hi=>KS (G.ly i hi) (b.ly i hi) (X.mo b hi),Vj G b X,λc hc=>Wk G b X hc,λi hi j hj=>by have:=Lw G b X hj hi;omega,λhC=> ?_,λhC ht=> ?_⟩
   ·have hd:=h1 hC;have hcL:=λr=>IL (r:=r) G b X hd;have hH:=JY (Hh g Y (λ_=>FU) (lG Y x) (ow Y x) x (A3 g Y B x)) (k:=4*sz D+4*LB+1600) hcL oO;have hCl:(rP g Y B x).length<=g.n:=zY _ _ _ _;refine⟨Bf G b X λc hc=>(yl (qi g Y B x) g.n (List.replicate g.n true) g.n).2 c hc,by have:=Wj (r:=(rP g Y B x).length) oO;omega,(yP (C:=rP g Y B x) (xZ G I.nn) rfl hC oO).1,Vd G b X hd,λi hi=> ?_⟩;have a1:=hxL i hi;have a2:=hd.L i hi;show L (x i)+L ((KT g Y (λ_=>FU) (lG Y x) (ow Y x) x (A3 g Y B x)).getD 0)+_+2<=MX;omega
   ·have hd:=h2 hC;have hcL:=λr=>IL (r:=r) G b X hd;have hH:=JY (Hh g Y (λ_=>FU) (lG Y x) (ow Y x) x (zR g Y B x)) (k:=4*sz D+4*LB+1600) hcL oO;obtain⟨_,_,_,_,_,f6⟩:=zV G hF oO b.n0 I hC ht;have hLs:=s8 1 t;have hfh:L (yx g Y B FU x t)<=4*sz D+4*LB+1600:=by
     rcases f6 with f6|f6
     ·rw[f6];omega
     ·exact hcL _ f6
    refine⟨Bf G b X λc hc=>cW.1 hc,Vb b G,dD,λ_=>(zy (g:=g) (xZ G I.nn) hC b.n0 oO G.cash).2.1,Vd G b X hd,oO,?_,oO,λi hi=> ?_⟩
    ·show L ((KT g Y (λ_=>FU) (lG Y x) (ow Y x) x (zR g Y B x)).getD 0)+_<=MX;omega
    ·have a1:=hxL i hi;have a2:=hd.L i hi;omega
  have hd1:rP g Y B x≠ []->Ik g (A3 g Y B x):=λhC=>by
   obtain⟨_,l2,l3,_⟩:=yP (C:=rP g Y B x) (xZ G I.nn) rfl hC oO;refine⟨λi _=> ?_,λi _=>S1 G b X hC i⟩;by_cases e:i∈rP g Y B x
   ·exact dj (l2 i e)
   ·have:A3 g Y B x i=0:=l3 i e;rw[this];exact bS
  have hd2:rP g Y B x=[]->Ik g (zR g Y B x):=λhC=>⟨(zy (g:=g) (xZ G I.nn) hC b.n0 oO G.cash).2.2.1,λi hi=>Ui G b X hC hi⟩;unfold UB Mw;by_cases hC:rP g Y B x=[]
  ·rw[ah (λh=>h hC),ah (λh=>h hC)];by_cases ht:t=1
   ·rw[aj ht];exact⟨⟨hSt hd1 hd2,.inl ht⟩,D,X⟩
   ·rw[ah ht];obtain⟨_,f2,f3,I2,hm2,f6⟩:=zV G hF oO b.n0 I hC ht;rw[ah ht]at hm;obtain⟨D',p1,p2,p3,p4,p5,_⟩:=Ki G b X (hd2 hC) s5 f6;obtain⟨r1,r2⟩:=ih (Gi g Y B FU x t) (t+yx g Y B FU x t) (k+Qp) I2 ⟨D',p1,p2,oO,p4,p5⟩ oO hk2;exact⟨⟨hSt hd1 hd2,.inr r1⟩,r2⟩
  ·rw[aj hC,aj hC];obtain⟨H,eS,h1,h2,I2,hm2⟩:=Ea G hF oO I hC;obtain⟨D',p1,p2,p3,p4,_,p6⟩:=Ki G b X (hd1 hC) s5 (.inr h2);have eX:Mi g Y B FU x=λi=>x i+H*A3 g Y B x i:=by
    funext i;unfold Mi;rw[eS];rfl
   obtain⟨r1,r2⟩:=ih (Mi g Y B FU x) t (k+Qp) I2 ⟨D',p1,p2,oO,by rw[eX];exact p4,p6⟩ oO hk2;exact⟨⟨hSt hd1 hd2,r1⟩,r2⟩
noncomputable def Oj (g:mZ) (Y:Nat->Ly) (B:Nat->Nat->Bool):Nat->Rat:=Mw g Y B FU 154 (λ_=>0) 0
theorem OR (G:nB g Y B) (b:xe D0 g Y):UB g Y B FU 20 SG 154 (λ_=>0) 0/\Sn g Y B (Oj g Y B)/\∃D,zP D0 D g (Oj g Y B):=by
 have hm:=TG b λ_=>0;have hm2:H7 g Y (λ_=>0)+(if(0:Rat)=1 then 0 else 1)<154:=by split<;>omega
 have hn8:=b.n;obtain⟨h1,h2⟩:=WE G b 154 (λ_=>0) 0 2 (Uv G) ⟨D0,b.d0,⟨1,(eI _).symm⟩,b.s0,λ_ _=>Mu.zero,Mu.zero⟩ hm2 (show Uj 2 154 from by unfold Uj;decide);exact⟨h1,EO G (λi hi m=>Uc b hi m) oO b.n0 154 _ _ (Uv G) hm2,h2⟩
theorem WG (G:nB g Y B) (b:xe D0 g Y) (X:zP D0 D g x) {d:Nat} (hd:d<g.ds.length) {k:Nat} (hk:k<mw g d):L (tJ (g.d d).W (qD g (lG Y x) d) k)<=8*sz D+500:=by
 have hl:=b.ln d hd;have h:∀k,k<=mw g d->L (wu (g.d d).W (qD g (lG Y x) d) k)<=4*sz D+200:=λk hk=>by
  have h1:=E3 (q:=qD g (lG Y x) d) (k:=sz D+20) (n:=k) oO λj hj=>(FF G b X _ (G.lg d hd j (show j<mw g d by omega)).1 _).1;have h2:=Ry (g.d d).W;have h3:=WL b hd;have h4:=s8 (nY (qD g (lG Y x) d) k) (pQ (g.d d).W);have h5:=Ry (nY (qD g (lG Y x) d) k-pQ (g.d d).W);rw[pY];omega
 have h1:=h (k+1) hk;have h2:=h k oO;have h3:=s8 (wu (g.d d).W (qD g (lG Y x) d) (k+1)) (wu (g.d d).W (qD g (lG Y x) d) k);show L (wu _ _ (k+1)-wu _ _ k)<=_;omega
theorem NQ (G:nB g Y B) (b:xe D0 g Y) (X:zP D0 D g x):∀d,d<=g.ds.length->∀i c,L (Db g (lG Y x) d i c)<=8*sz D+500
 |0,_,i,c=>by have:=nW;show L (0:Rat)<=_;omega
 |d+1,hd,i,c=>by
  have ih:=NQ G b X d oO;have key:∀k,k<=mw g d->∀i c,L (Lf g (lG Y x) d (Db g (lG Y x) d) k i c)<=8*sz D+500:=by
   intro k;induction k with
   |zero=>exact λ_=>ih
   |succ k ih2=>
    intro hk i c;show L (Ds _ _ _ _ i c)<=_;unfold Ds;split
    ·exact WG G b X oO hk
    ·exact ih2 oO i c
  exact key (mw g d) (aH _) i c
theorem N5 (G:nB g Y B) (b:xe D0 g Y) (X:zP D0 D g x):(∀i,i<g.n->Oz (Y i) (x i))/\(∀i,i<g.n->L (x i)+L (Y i).tot+3<=MX)/\W1 g (lG Y x) SG/\∀i,i<g.n->∀c,c<g.cn i->L (lG Y x i c)+L (Db g (lG Y x) g.ds.length i c)<=MX:=by
 have hMX:MX=1099511627776:=rfl;have hz:=X.zz;have m:=Vj G b X;refine⟨λi hi=>Sv (G.ly i hi) (b.ly i hi) (X.mo b hi),λi hi=> ?_,⟨m.W,λd hd j hj=>(m.q d hd j hj).1,λd hd j hj=>(m.s d hd j hj).1,m.k,m.ln⟩,λi hi c _=> ?_⟩
 ·have:=Vs X hi;have:=b.tot i hi;omega
 ·have:=(FF G b X i hi c).1;have:=NQ G b X g.ds.length (aH _) i c;omega
end
def Df (x y:Int):Bool:=decide (x<y)
theorem Lm {α:Type} (A B:List α) (x d:α):(A++x::B).getD A.length d=x:=by
 rw[ap,cZ (aH _),ec];rfl
theorem N4 {α:Type} (A B:List α) (x y:α):(A++x::B).set A.length y=A++y::B:=by
 rw[iX _ _ (aH _),ec];rfl
theorem PO (x:Int) (w:World):lU Tryz.prog 207 #[.int .i64 x] w λv w'=>v= .bool false/\w'=w:=by
 refine enter Tryz.func207 rfl Tryz.ntmps207 rfl ?_;refine J5 ?_;refine jt ?_;refine kB rfl rfl ?_;exact⟨bQ Value.bool (ae (λh=>h rfl)),rfl⟩
theorem Ix (x y:Int) (w:World):lU Tryz.prog 191 #[.int .i64 x,.int .i64 y] w λv w'=>v= .bool (decide (x<y))/\w'=w:=by
 refine enter Tryz.func191 rfl Tryz.ntmps191 rfl ?_;refine J2 ?_;refine jh (j6 Tryz.call207 rfl (PO x _) ?_);rintro _ wq1 ⟨rfl,hq1⟩;replace hq1:=hq1.symm;subst hq1;refine J1 ?_;refine kL (ka 7 kR rfl rfl) (kL (ka 7 kR rfl rfl) (kL (ka 7 kR rfl rfl) (jp (kA (vb rfl rfl) rfl ?_))));refine J1 ?_;refine ke (j7 12 kR rfl rfl) (ko rfl (ke (j7 12 kR rfl rfl) (ko rfl (ke (j7 12 kR rfl rfl) (wm rfl rfl (jp (kA (vb rfl rfl) rfl ?_)))))));refine J1 ?_;refine jt ?_;refine kB rfl rfl ?_;exact⟨rfl,rfl⟩
theorem Dj (v:Value) (w:World):lU Tryz.prog 185 #[v,.int .i64 0,.int .i64 0] w λr w'=>r= .tuple #[]/\w'=w:=by
 refine enter Tryz.func185 rfl Tryz.ntmps185 rfl ?_;refine V3 ?_;refine ku (σ:=Unit) (λ_ ρ w'=>ρ 2=iB 0/\ρ 6=iB 1/\w'=w) (λ_=>0) () ⟨rfl,vi rfl oO,rfl⟩ ?_;rintro _ ρ w2 ⟨h2,h6,rfl⟩;refine J4 ?_;refine jt ?_;exact pU rfl ⟨rfl,rfl⟩
theorem HR {w0:World} {b:Nat} {t:TypeId} {H:List kU} (Pre M Suf:List Int) (sp:List Value) (n cp a e:Nat)
  (hn:Pre.length+M.length+Suf.length=n) (ha:a=Pre.length) (he:e=Pre.length+M.length) (hmax:n<=1000000) (w:World) (hS:St w0 w ((b,t,(Pre++M++Suf).flatMap sK++sp)::H)):
  lU Tryz.prog 185 #[.slice (some ⟨b,0,none⟩) n cp,.int .i64 a,.int .i64 e] w λv w'=>v= .tuple #[]/\St w0 w' ((b,t,(Pre++sI Df M++Suf).flatMap sK++sp)::H):=by
 refine enter Tryz.func185 rfl Tryz.ntmps185 rfl ?_;refine V3 ?_;refine ku (σ:=Nat) (λk ρ w'=>1<=k/\(k<=M.length\/M.length=0)/\ρ 0= .slice (some ⟨b,0,none⟩) n cp/\ρ 1=iB a/\ρ 2=iB e/\ρ 6=iB ((a:Int)+k)/\
   St w0 w' ((b,t,(Pre++sI Df (M.take k)++(M.drop k++Suf)).flatMap sK++sp)::H)) (λk=>M.length+1-k) 1
  ⟨aH _,oO,rfl,rfl,rfl,rfl,?_⟩ ?_
 ·have e1:Pre++sI Df (M.take 1)++(M.drop 1++Suf)=Pre++M++Suf:=by
   cases M with
   |nil=>rfl
   |cons x M=>show Pre++[x]++(M++Suf)=_;simp
  rw[e1];exact hS
 clear hS;rintro k ρ w2 ⟨hk1,hkM,h0,h1,h2,h6,hS⟩;refine V3 ?_;by_cases hlt:k<M.length
 ·refine V1 ?_;obtain⟨x,hx⟩:=jz (M.getD k 0);obtain⟨S,hSe⟩:=jz (sI Df (M.take k));obtain⟨R,hR⟩:=jz (M.drop (k+1)++Suf);have hSl:S.length=k:=by rw[hSe,Ab,dg];omega
  have hRl:R.length=M.length-(k+1)+Suf.length:=by rw[hR,aG,fe]
  have hdr:M.drop k++Suf=x::R:=by
   rw[dX hlt,hR,hx,ap,aJ hlt];rfl
  have hnx:sI Df (M.take (k+1))=yQ Df S x:=by
   rw[lE M k 0 hlt,Iz,<-hx,<-hSe]
  rw[<-hSe,hdr]at hS;refine J2 ?_;refine jb ?_;refine kx (λρ w'=>ρ 0= .slice (some ⟨b,0,none⟩) n cp/\ρ 1=iB a/\ρ 2=iB e/\ρ 6=iB ((a:Int)+k)/\St w0 w' ((b,t,(Pre++yQ Df S x++R).flatMap sK++sp)::H)) ?_ ?_
  ·refine ja ?_;refine ku (σ:=List Int×List Int) (λs ρ w'=>S=s.1++s.2/\(∀y∈s.2,Df x y=true)/\ρ 0= .slice (some ⟨b,0,none⟩) n cp/\ρ 1=iB a/\ρ 2=iB e/\ρ 6=iB ((a:Int)+k)/\ρ 7=iB ((a:Int)+s.1.length)/\
     St w0 w' ((b,t,(Pre++s.1++x::(s.2++R)).flatMap sK++sp)::H)) (λs=>s.1.length) (S,[])
    ⟨(aU _).symm,(λy hy=>(by cases hy)),jY,jY,jY,jY,vi rfl (by rw[hSl]),hS⟩ ?_
   clear hS;rintro⟨A,B⟩ ρ w3 ⟨hAB,hB,h0,h1,h2,h6,h7,hS⟩;simp only at hAB hB h7 hS;have hABl:A.length+B.length=k:=by rw[<-aG,<-hAB,hSl]
   have hLl:(Pre++A++x::(B++R)).length=n:=by simp only[aG,bj];omega
   refine ja ?_;rcases List.eq_nil_or_concat A with hA|⟨A',y,hA⟩
   ·subst hA;refine ja ?_;refine kC [jo 0,jo 1,jo 2,jo 3,jo 4,jo 5,jo 6,ju 7,jo 8,jo 9,jo 10,jo 11,ju 12,jv 13,jo 14] kR kR hS ?_;intro wz1 hS hBz1;refine J4 ?_;refine nO rfl (ka 19 kR rfl (ae (by simp))) (nO rfl (ka 19 kR rfl (ae (by simp))) (nO rfl (ka 19 kR rfl (ae (by simp))) (nO rfl (ka 19 kR rfl (ae (by simp))) (nO rfl (ka 19 kR rfl (ae (by simp))) (nO rfl (ka 19 kR rfl (ae (by simp))) (nO rfl (ka 19 kR rfl (ae (by simp))) (nO rfl (ka 19 kR rfl (ae (by simp))) (nO rfl (ka 19 kR rfl (ae (by simp))) (nO rfl (ka 19 kR rfl (ae (by simp))) (jl rfl (kA (vb rfl (ae (by simp))) rfl ?_)))))))))));refine ja ?_;refine lx rfl (rfl) ?_;refine jt ?_;refine⟨_,rfl,jY,jY,jY,jY,?_⟩;rw[hAB,H6 hB (λy hy=>by cases hy)];simpa using hS
   ·rw[List.concat_eq_append]at hA;subst hA;have hA'l:(A'++[y]).length=A'.length+1:=by simp
    have hg1:(Pre++(A'++[y])++x::(B++R)).getD (a+A'.length+1) 0=x:=by
     rw[show a+A'.length+1=(Pre++(A'++[y])).length by simp[ha];omega];exact Lm _ _ _ _
    have hg2:(Pre++(A'++[y])++x::(B++R)).getD (a+A'.length) 0=y:=by
     rw[show Pre++(A'++[y])++x::(B++R)=(Pre++A')++y::(x::(B++R)) by simp,show a+A'.length=(Pre++A').length by simp[ha]];exact Lm _ _ _ _
    refine ja ?_;refine kC [jo 0,jo 1,jo 2,jo 3,jo 4,jo 5,jo 6,ju 7,jo 8,jo 9,jo 10,jo 11,ju 12,jv 13,jo 14] kR kR hS ?_;intro wz2 hS hBz2;refine J4 ?_;refine kN rfl (j7 19 kR rfl dT) (ko h0 (kN rfl (j7 19 kR rfl dT) (ko h7 (kN rfl (j7 19 kR rfl dT) (kD (i:=a+A'.length+1) rfl rfl oO dO py ?_)))));refine mG rfl (j7 19 kR rfl dT) (Cp (k:=0) (i:=a+A'.length+1) (enc:=sK) 0 (λ_=>rfl) rfl nm hS rfl (by first|omega|simp) dO rfl (.inr rfl) ?_);refine kN rfl (j7 19 kR rfl dT) (ko h0 (kN rfl (j7 19 kR rfl dT) (ko h7 (kN rfl (j7 19 kR rfl dT) (sk rfl rfl (cF _ oO) (kN rfl (j7 19 kR rfl dT) (kD (i:=a+A'.length) rfl rfl oO dO py ?_)))))));refine mG rfl (j7 19 kR rfl dT) (Cp (k:=0) (i:=a+A'.length) (enc:=sK) 0 (λ_=>rfl) rfl nm hS rfl (by first|omega|simp) dO rfl (.inr rfl) ?_);rw[hg1,hg2];refine yr rfl (j7 19 kR rfl dT) (j6 Tryz.call191 rfl (Ix x y _) ?_);rintro _ wq3 ⟨rfl,hq3⟩;replace hq3:=hq3.symm;subst hq3;refine⟨Below.refl _ _,?_⟩;refine jl rfl (kA (vb rfl dT) rfl ?_);refine ja ?_;by_cases hcy:x<y
    ·refine k9 rfl (ao hcy) ?_;refine ja ?_;refine nc (λρ'=>ρ' 0= .slice (some ⟨b,0,none⟩) n cp/\ρ' 1= .int .i64 a/\ρ' 2= .int .i64 e/\ρ' 6= .int .i64 ((a:Int)+k)/\ρ' 7= .int .i64 ((a:Int)+(A'++[y]).length)/\True) ⟨h0,h1,h2,h6,h7,trivial⟩ ?_;rintro ρk4 ⟨hk4_0,hk4_1,hk4_2,hk4_6,hk4_7,-⟩;have hset:((Pre++(A'++[y])++x::(B++R)).set (a+A'.length+1) y).set (a+A'.length) x=Pre++A'++x::(y::B++R):=by
      rw[show a+A'.length+1=(Pre++(A'++[y])).length by simp[ha];omega,N4,show Pre++(A'++[y])++y::(B++R)=(Pre++A')++y::(y::(B++R)) by simp,show a+A'.length=(Pre++A').length by simp[ha],N4];simp
     refine ja ?_;refine kC [jo 0,jo 1,jo 2,jo 3,jo 4,jo 5,jo 6,jo 7,jo 8,ju 9,jo 10,jo 11,jo 12,ju 13,jo 14,jw 15,jo 16,jw 17] kR kR hS ?_;intro wz5 hS hBz5;refine J8 ?_;refine jl rfl (kD (i:=a+A'.length) rfl rfl oO dO py ?_);refine jm rfl (Cp (k:=0) (i:=a+A'.length) (enc:=sK) (v:= .int .i64 y) 0 (λ_=>rfl) rfl nm hS rfl (by simp) oO (by rw[hg2];rfl) (.inr rfl) ?_);refine J2 ?_;refine jl rfl (kD (i:=a+A'.length+1) rfl rfl oO dO py ?_);refine jm rfl (Cp (k:=0) (i:=a+A'.length+1) (enc:=sK) (v:= .int .i64 x) 0 (λ_=>rfl) rfl nm hS rfl (by simp) oO (by rw[hg1];rfl) (.inr rfl) ?_);refine jl rfl (kD (i:=a+A'.length+1) rfl rfl oO dO py ?_);refine jx rfl (B3 (k:=0) (i:=a+A'.length+1) (enc:=sK) y (λ_=>rfl) rfl rfl nm hS rfl (by first|omega|simp) dO rfl rfl ?_);intro wz6 hS;refine jl rfl (kD (i:=a+A'.length) rfl rfl oO dO py ?_);refine jx rfl (B3 (k:=0) (i:=a+A'.length) (enc:=sK) x (λ_=>rfl) rfl rfl nm hS rfl (by first|omega|simp) dO rfl rfl ?_);intro wz7 hS;refine V3 ?_;replace hS:St w0 _ ((b,t,(((Pre++(A'++[y])++x::(B++R)).set (a+A'.length+1) y).set (a+A'.length) x).flatMap sK++sp)::H):=hS;rw[hset]at hS;exact⟨(A',y::B),_,rfl,⟨by rw[hAB];simp,λz hz=>(bJ.1 hz).elim (λe=>by rw[e];exact ao hcy) (hB z),jY,jY,jY,jY,vi rfl (show(a:Int)+((A'++[y]).length:Nat)-1=(a:Int)+(A'.length:Nat) by omega),hS⟩,(show A'.length<(A'++[y]).length by omega)⟩
    ·refine lx rfl (ae hcy) ?_;refine jt ?_;refine⟨_,rfl,jY,jY,jY,jY,?_⟩;rw[hAB,H6 hB (λz hz=>by
      rw[List.getLast?_append,List.getLast?_singleton]at hz;obtain rfl:y=z:=by simpa using hz
      exact ae hcy)]
     simpa using hS
  clear hS;rintro ρ w3 ⟨h0,h1,h2,h6,hS⟩;refine V3 ?_;exact⟨k+1,_,rfl,⟨oO,.inl hlt,jY,jY,jY,vi rfl oO,by rw[hnx,<-hR];exact hS⟩,oO⟩
 ·refine J1 ?_;refine jt ?_;have e1:M.take k=M:=aV oO;have e2:M.drop k=[]:=fb oO;rw[e1,e2]at hS;refine pU rfl ⟨rfl,?_⟩;simpa using hS
end Go.Proofs.YtoeiejliehgopaaGreatDoor
