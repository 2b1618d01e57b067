import Derived.Test.YtoeiejliehgopaaGreatDoorUd6
set_option maxRecDepth 20000
set_option maxHeartbeats 8000000
namespace Go.Proofs.YtoeiejliehgopaaGreatDoor
open Go Go.RowKit Go.Sx
def M8 (M:Mx) (n c:Nat):Prop:=(∀i,i<n->L (ri M c i)+L (M i c)<=MX)/\L (ri M c n)+1<=MX
theorem JJ (p:Nat) (v:Value) (vs:List Value) (n:Nat) (M:Mx) (c:Nat) (w:World) (hp:At w ⟨p,0,none⟩ [v]) (hA:qE j6 3 w v (wD n n (qM M)) vs) (hc:c<n) (hL:M8 M n c):
  lW Tryz.prog 100 #[.int .i64 c,.pointer (some ⟨p,0,none⟩)] w λu w'=>u= .bool (GQ M n c)/\Below w.heap.size w w':=by
 have hS:=St.init w;refine enter Tryz.func100 rfl Tryz.ntmps100 rfl ?_;refine Y1 ?_;refine jq (oL (v:=v) (cs:=[v]) rfl qb (hp.j5 hS.j5) rfl rfl (.inr rfl) ?_);refine J1 ?_;refine jh (j7 Tryz.call101 rfl (N0 v vs n n M c _ (hA.j5 hS.j5) hc hL.1 hL.2) ?_);rintro r w3 ⟨rfl,hB3⟩;replace hS:=hS.ko hB3;refine J1 ?_;refine jt ?_;refine kD rfl rfl ?_;exact⟨rfl,hS.j5⟩
theorem Pt {C:List Nat} {f:Nat->Bool} {i:Nat} (hi:i<C.length) (h:(C.take i).any f=false):(f (C.getD i 0)=false->(C.take (i+1)).any f=false)/\(f (C.getD i 0)=true->C.any f=true):=by
 refine⟨λh1=> ?_,λh1=>dA.2 ⟨_,kH C i 0 hi,h1⟩⟩;rw[lC C i 0 hi,List.any_append,h,List.any_cons,h1];rfl
theorem Ka (p:Nat) (v vc:Value) (vs:List Value) (n:Nat) (M:Mx) (C:List Nat) (w:World) (hp:At w ⟨p,0,none⟩ [v]) (hA:qE j6 3 w v (wD n n (qM M)) vs) (hc:Sl tg 1 w vc (nI C)) (hCn:∀c∈C,c<n) (hL:∀c,c<n->M8 M n c):
  lW Tryz.prog 137 #[vc,.func (.func 100) #[] #[.pointer (some ⟨p,0,none⟩)]] w λr w'=>(∃k:Int,r= .int .i64 k/\(0<=k↔C.any (GQ M n)=true))/\Below w.heap.size w w':=by
 have hmax:=hc.maxLen;have hnl:=sc C;rw[hnl]at hmax;have hS:=St.init w;refine enter Tryz.func137 rfl Tryz.ntmps137 rfl ?_;refine J2 ?_;refine jp (kj rfl (hc.j5 hS.j5) ⟨_,Tryz.underlying46⟩ ?_);refine V1 ?_;rw[hnl];refine kx (σ:=Nat) (λi ρ w'=>i<=C.length/\(C.take i).any (GQ M n)=false/\ρ 0=vc/\ρ 1= .func (.func 100) #[] #[.pointer (some ⟨p,0,none⟩)]/\ρ 7=iB C.length/\ρ 8=iB i/\St w w' []) (λi=>C.length-i) 0
  ⟨ax _,rfl,rfl,rfl,rfl,rfl,hS⟩ ?_
 clear hS;rintro i ρ w2 ⟨hi,hn,h0,h1,h7,h8,hS⟩;refine V1 ?_;by_cases hlt:i<C.length
 ·refine V1 ?_;obtain⟨t1,t2⟩:=Pt hlt hn;obtain⟨k,hk⟩:=jz (C.getD i 0);have hkn:k<n:=hCn k (by rw[hk];exact kH _ _ _ hlt);have hni:(nI C).getD i 0=(k:Int):=by unfold nI;rw[getD_map _ _ 0 _ hlt,hk]
  rw[<-hk]at t1 t2;refine J5 ?_;refine jp (kp (i:=i) rfl rfl (hc.j5 hS.j5) oO dO pH (jq (ky (i:=i) 0 rfl ni (hc.j5 hS.j5) dO rfl rfl (.inr rfl) ?_)));rw[hni];refine jh (zN Tryz.call100 rfl rfl (JJ p v vs n M k _ (hp.j5 hS.j5) (hA.j5 hS.j5) hkn (hL k hkn)) ?_);rintro r w3 ⟨rfl,hB3⟩;replace hS:=hS.ko hB3;refine ja ?_;cases hb:GQ M n k with
  |true=>
   refine k9 rfl (rfl) ?_;refine J2 ?_;refine jt ?_;refine kD rfl rfl ?_;exact⟨⟨_,rfl,⟨λ_=>t2 hb,λ_=>oO⟩⟩,hS.j5⟩
  |false=>
   refine lx rfl (rfl) ?_;refine V2 ?_;exact⟨i+1,_,rfl,⟨hlt,t1 hb,h0,h1,h7,vi rfl oO,hS⟩,oO⟩
 ·refine J1 ?_;refine jt ?_;obtain rfl:i=C.length:=oO;rw[bK]at hn;refine J1 ?_;refine jt ?_;refine kD rfl rfl ?_;exact⟨⟨_,rfl,⟨λh=>oO,λh=>by rw[hn]at h;cases h⟩⟩,hS.j5⟩
theorem DR (p:Nat) (v vc:Value) (vs:List Value) (n:Nat) (M:Mx) (C:List Nat) (w:World) (hp:At w ⟨p,0,none⟩ [v]) (hA:qE j6 3 w v (wD n n (qM M)) vs) (hc:Sl tg 1 w vc (nI C)) (hCn:∀c∈C,c<n) (hL:∀c,c<n->M8 M n c):
  lW Tryz.prog 99 #[vc,.func (.func 100) #[] #[.pointer (some ⟨p,0,none⟩)]] w λr w'=>r= .bool (C.any (GQ M n))/\Below w.heap.size w w':=by
 have hS:=St.init w;refine enter Tryz.func99 rfl Tryz.ntmps99 rfl ?_;refine J3 ?_;refine jh (j7 Tryz.call137 rfl (Ka p v vc vs n M C _ hp hA hc hCn hL) ?_);rintro r w3 ⟨⟨k,rfl,hk⟩,hB3⟩;replace hS:=hS.ko hB3;refine J2 ?_;refine jt ?_;refine kD rfl rfl ?_;refine⟨bI Value.bool ?_,hS.j5⟩;rw[fZ,fF];exact hk
theorem Nd (vo:Value) (l:List Bool) (w:World) (ho:Sl nG 1 w vo l) (hl:l.length<=1000000):
  lW Tryz.prog 98 #[vo] w λr w'=>∃LO,Gl nG 4 1 r l LO/\St w w' ([]++LO):=by
 obtain⟨a,c,rfl,h1,h2,h3⟩:=ho.form;have hS:=St.init w;have hW:=hS.j5;refine enter Tryz.func98 rfl Tryz.ntmps98 rfl ?_;refine J2 ?_;refine jp (BO rfl rfl (ht:=⟨_,Tryz.underlying36⟩) ?_);refine ja ?_;cases a with
 |none=>
  refine k9 rfl (rfl) ?_;refine J1 ?_;refine jt ?_;refine kD rfl rfl ?_;have:=h3 rfl;obtain rfl:l=[]:=cB oO;exact⟨[],Gl.nil _ _ _,hS⟩
 |some a=>
  refine lx rfl (rfl) ?_;refine jr ?_;refine jh (Oh qa hS ?_);intro b5 wz1 hS hBz1;refine J1 ?_;refine jh (AP rfl rfl qa dD (H:=[]) (Gl.OL (z:=nG false) (n:=0) rfl dD) hS (ho.j5 hS.j5) mA (λu hu=>by obtain⟨b,_,hb⟩:=du.1 hu;rw[aQ.1 hb];rfl) (by simp;omega) (by simp;omega) ?_);intro va2 La2 wa2 hG hS hga2 hgu2;refine J1 ?_;refine jt ?_;refine kD rfl rfl ?_;exact⟨_,hG,hS⟩
inductive N5 (M:Mx) (n:Nat) (B:List Bool):Nat->Prop
 |base (j:Nat):B.getD j false=true->N5 M n B j
 |step (i j:Nat):N5 M n B i->i<n->j<n->0<M j i->N5 M n B j
def XN (A B:List Bool):Prop:=∀k,A.getD k false=true->B.getD k false=true
def cf (B:List Bool):Nat:=B.count false
theorem On:∀(B:List Bool) (j:Nat),j<B.length->B.getD j false=false->cf (B.set j true)<cf B
 | [],_,h,_=>absurd h (aS _)
 |b::B,0,_,h=>by
  have:b=false:=h;subst this;show List.count false (true::B)<List.count false (false::B);simp
 |b::B,j+1,h,hb=>by
  have:=On B j (by simpa using h) (by simpa using hb);show List.count false (b::B.set j true)<List.count false (b::B);unfold cf at this;rw[fm,fm];omega
structure RI (M:Mx) (n:Nat) (A B:List Bool):Prop where
 len:B.length=n
 le:XN A B
 rea:∀k,B.getD k false=true->N5 M n A k
structure PI (M:Mx) (n:Nat) (B C:List Bool) (ch:Bool) (j i:Nat):Prop where
 no:ch=false->C=B/\∀a b,(a<j\/a=j/\b<i)->a<n->b<n->B.getD b false=true->0<M a b->B.getD a false=true
 yes:ch=true->cf C<cf B
theorem RI.set {M:Mx} {n:Nat} {A B:List Bool} (h:RI M n A B) {i j:Nat} (hi:i<n) (hj:j<n) (hb:B.getD i false=true) (hm:0<M j i):RI M n A (B.set j true):=by
 have hl:j<B.length:=by rw[h.len];exact hj
 refine⟨by rw[cj];exact h.len,λk hk=> ?_,λk hk=> ?_⟩
 ·rw[nq _ _ _ hl];split
  ·rfl
  ·exact h.le k hk
 ·rw[nq _ _ _ hl]at hk;by_cases e:k=j
  ·rw[e];exact .step i j (h.rea i hb) hi hj hm
  ·rw[ah e]at hk;exact h.rea k hk
theorem PI.set {M:Mx} {n:Nat} {B C:List Bool} {ch:Bool} {i j:Nat} (h:PI M n B C ch j i) (hj:j<C.length) (hb:C.getD j false=false):PI M n B (C.set j true) true j (i+1):=by
 refine⟨(by intro e;cases e),λ_=> ?_⟩;have h1:=On C j hj hb;cases ch with
 |true=>have:=h.yes rfl;omega
 |false=>rw[(h.no rfl).1]at h1⊢;exact h1
theorem PI.skip {M:Mx} {n:Nat} {B C:List Bool} {ch:Bool} {i j:Nat} (h:PI M n B C ch j i) (hb:C.getD i false=true->0<M j i->C.getD j false=true):PI M n B C ch j (i+1):=by
 refine⟨λe=> ?_,h.yes⟩;obtain⟨h1,h2⟩:=h.no e;refine⟨h1,λa b hab ha hbn g1 g2=> ?_⟩;by_cases e2:a=j/\b=i
 ·rw[e2.1,e2.2]at g2;rw[e2.2]at g1;rw[e2.1];rw[h1]at hb;exact hb g1 g2
 ·exact h2 a b oO ha hbn g1 g2
theorem PI.row {M:Mx} {n:Nat} {B C:List Bool} {ch:Bool} {j:Nat} (h:PI M n B C ch j n):PI M n B C ch (j+1) 0:=by
 refine⟨λe=> ?_,h.yes⟩;obtain⟨h1,h2⟩:=h.no e;exact⟨h1,λa b hab ha hbn g1 g2=>h2 a b oO ha hbn g1 g2⟩
theorem JZ {M:Mx} {n:Nat} {A B:List Bool} (h:RI M n A B) (hc:∀a b,a<n->b<n->B.getD b false=true->0<M a b->B.getD a false=true) {k:Nat} (hk:N5 M n A k):B.getD k false=true:=by
 induction hk with
 |base j hj=>exact h.le j hj
 |step i j _ hi hj hm ih=>exact hc j i hj hi ih hm
theorem Pz (v vf:Value) (vs:List Value) (n:Nat) (M:Mx) (A:List Bool) (w:World) (hA:qE j6 3 w v (wD n n (qM M)) vs) (hf:Sl nG 1 w vf A) (hfl:A.length=n) (hn:n<=1000) (hL:∀i,i<n->∀j,j<n->L (M i j)<=MX):
  lW Tryz.prog 57 #[v,vf] w λr w'=>∃B LO,Gl nG 4 1 r B LO/\B.length=n/\(∀k,B.getD k false=true↔N5 M n A k)/\St w w' LO:=by
 have hS:=St.init w;have hmx:=hA.sl.maxLen;have hlen:=hA.len;rw[mQ]at hlen;refine enter Tryz.func57 rfl Tryz.ntmps57 rfl ?_;refine J2 ?_;refine jh (j7 Tryz.call98 rfl (Nd vf A _ (hf.j5 hS.j5) oO) ?_);rintro r w3 ⟨LC,hG,hS3⟩;replace hS:=hS.join hS3;rw[aK]at hS;obtain⟨a5,c5,rfl⟩:=hG.len;rw[hfl];refine J2 ?_;refine jb ?_;refine kz (λρ w'=>∃B LO,ρ 5= .slice a5 n c5/\Gl nG 4 1 (.slice a5 n c5) B LO/\B.length=n/\(∀k,B.getD k false=true↔N5 M n A k)/\St w w' ([]++LO)) ?_ ?_
 ·refine ja ?_;refine kx (σ:=List Bool×Bool) (λs ρ w'=>RI M n A s.1/\(s.2=false->∀a b,a<n->b<n->s.1.getD b false=true->0<M a b->s.1.getD a false=true)/\ρ 0=v/\ρ 5= .slice a5 n c5/\ρ 6= .bool s.2/\∃LO,Gl nG 4 1 (.slice a5 n c5) s.1 LO/\St w w' ([]++LO)) (λs=>2*cf s.1+(bif s.2 then 1 else 0)) (A,true)
   ⟨⟨hfl,λk h=>h,λk h=> .base k h⟩,(by intro e;cases e),rfl,rfl,rfl,LC,hfl▸hG,hS⟩ ?_
  clear hS hS3 hG;rintro⟨B,ch⟩ ρ w2 ⟨hRI,hcl,h0,h5,h6,LO,hG,hS⟩;dsimp only at hRI hcl h6 hG;refine V1 ?_;cases ch with
  |false=>
   refine lx rfl (rfl) ?_;refine jt ?_;exact⟨_,rfl,B,LO,h5,hG,hRI.len,λk=>⟨hRI.rea k,λh=>JZ hRI (hcl rfl) h⟩,hS⟩
  |true=>
   refine k9 rfl (rfl) ?_;refine J2 ?_;refine jp (kj rfl (hA.sl.j5 hS.j5) ⟨_,Tryz.underlying35⟩ ?_);refine J1 ?_;refine jb ?_;rw[hlen];refine kz (λρ w'=>∃C ch,ρ 0=v/\ρ 5= .slice a5 n c5/\ρ 6= .bool ch/\RI M n A C/\PI M n B C ch n 0/\∃LO,Gl nG 4 1 (.slice a5 n c5) C LO/\St w w' ([]++LO)) ?_ ?_
   ·refine ja ?_;refine kx (σ:=Nat) (λj ρ w'=>j<=n/\ρ 0=v/\ρ 5= .slice a5 n c5/\ρ 14=v/\ρ 15=iB n/\ρ 16=iB j/\∃C ch,ρ 6= .bool ch/\RI M n A C/\PI M n B C ch j 0/\∃LO,Gl nG 4 1 (.slice a5 n c5) C LO/\St w w' ([]++LO)) (λj=>n-j) 0
     ⟨ax _,jY,jY,rfl,rfl,rfl,B,false,rfl,hRI,⟨λ_=>⟨rfl,λa b h=>absurd h oO⟩,by intro e;cases e⟩,LO,hG,hS⟩ ?_
    clear hS hG;rintro j ρ w3 ⟨hj,h0,h5,h14,h15,h16,C,ch,h6,hRI,hPI,LO,hG,hS⟩;refine V1 ?_;by_cases hlt:j<n
    ·refine V1 ?_;have hrow:=hA.row j (by rw[mQ];exact hlt);rw[pD _ hlt]at hrow;have htl:=ka n (qM M j);obtain⟨vr,hvr⟩:=jz (vs.getD j undef);rw[<-hvr]at hrow;refine J1 ?_;refine jp (kp (i:=j) h14 h16 (hA.sl.j5 hS.j5) oO dO lL (jq (ky (i:=j) undef rfl lV (hA.sl.j5 hS.j5) dO rfl rfl (.inr rfl) ?_)));refine V2 ?_;rw[<-hvr];refine jr ?_;refine jp (ks rfl (jp (kj rfl (hrow.j5 hS.j5) ⟨_,Tryz.underlying34⟩ ?_)));refine J1 ?_;refine jb ?_;rw[htl];refine kz (λρ w'=>ρ 0=v/\ρ 5= .slice a5 n c5/\ρ 14=v/\ρ 15=iB n/\ρ 16=iB j/\∃C ch,ρ 6= .bool ch/\RI M n A C/\PI M n B C ch j n/\∃LO,Gl nG 4 1 (.slice a5 n c5) C LO/\St w w' ([]++LO)) ?_ ?_
     ·refine ja ?_;refine kx (σ:=Nat) (λi ρ w'=>i<=n/\ρ 0=v/\ρ 5= .slice a5 n c5/\ρ 7=iB j/\ρ 14=v/\ρ 15=iB n/\ρ 16=iB j/\ρ 21=vr/\ρ 22=iB n/\ρ 23=iB i/\∃C ch,ρ 6= .bool ch/\RI M n A C/\PI M n B C ch j i/\∃LO,Gl nG 4 1 (.slice a5 n c5) C LO/\St w w' ([]++LO)) (λi=>n-i) 0
       ⟨ax _,jY,jY,rfl,jY,jY,jY,rfl,rfl,rfl,C,ch,jY,hRI,hPI,LO,hG,hS⟩ ?_
      clear hS hG hRI hPI h6;rintro i ρ w4 ⟨hi,h0,h5,h7,h14,h15,h16,h21,h22,h23,C,ch,h6,hRI,hPI,LO,hG,hS⟩;have hCl:=hRI.len;refine V1 ?_;by_cases hil:i<n
      ·refine V1 ?_;have hg:(ku n (qM M j)).getD i kP=j9 (M j i):=kw _ _ hil;refine J1 ?_;refine jp (kp (i:=i) h21 h23 (hrow.j5 hS.j5) oO dO kM (jq (ky (i:=i) kP rfl ki (hrow.j5 hS.j5) dO rfl rfl (.inl rfl) ?_)));refine J1 ?_;intro b10 wz1 hS hBz1;refine J2 ?_;intro wz2 hS;refine ja ?_;rw[hg]at hS;replace hS:St w _ ([(b10,32,j6 (j9 (M j i)))]++LO):=hS;by_cases hbi:C.getD i false=true
       ·by_cases hbj:C.getD j false=true
        ·refine J2 ?_;refine jp (kp (i:=i) rfl rfl (hG.sl hS mA) oO dO qa (jq (ky (i:=i) false rfl qn (hG.sl hS mA) dO rfl rfl (.inr rfl) ?_)));refine J1 ?_;refine kf (j8 32 kR rfl hbi) (ks h5 (kf (j8 32 kR rfl hbi) (ks h7 (kf (j8 32 kR rfl hbi) (kp (i:=j) rfl rfl (hG.sl hS mA) oO dO qa (lD (j8 32 kR rfl hbi) (ky (i:=j) false rfl qn (hG.sl hS mA) dO rfl rfl (.inr rfl) (kf (j8 32 kR rfl hbi) (x9 rfl (jp (kC (vb rfl hbi) rfl ?_)))))))))));refine J1 ?_;refine kN (kb 39 kR rfl (bI not hbj)) (kN (kb 39 kR rfl (bI not hbj)) (kN (kb 39 kR rfl (bI not hbj)) (jp (kC (vb rfl (bI not hbj)) rfl ?_))));refine ja ?_;refine lx rfl (rfl) ?_;refine V2 ?_;exact⟨i+1,_,rfl,⟨hil,jY,jY,jY,jY,jY,jY,jY,jY,vi rfl oO,C,ch,jY,hRI,hPI.skip λ_ _=>hbj,LO,hG,hS.drop (ab _ _)⟩,oO⟩
        ·have hbj':C.getD j false=false:=by simpa using hbj
         refine J2 ?_;refine jp (kp (i:=i) rfl rfl (hG.sl hS mA) oO dO qa (jq (ky (i:=i) false rfl qn (hG.sl hS mA) dO rfl rfl (.inr rfl) ?_)));refine J1 ?_;refine kf (j8 32 kR rfl hbi) (ks h5 (kf (j8 32 kR rfl hbi) (ks h7 (kf (j8 32 kR rfl hbi) (kp (i:=j) rfl rfl (hG.sl hS mA) oO dO qa (lD (j8 32 kR rfl hbi) (ky (i:=j) false rfl qn (hG.sl hS mA) dO rfl rfl (.inr rfl) (kf (j8 32 kR rfl hbi) (x9 rfl (jp (kC (vb rfl hbi) rfl ?_)))))))))));refine J1 ?_;refine lD (j8 39 kR rfl (bI not hbj')) (kX (k:=0) rfl ki hS rfl rfl rfl (.inl rfl) (oS (j8 39 kR rfl (bI not hbj')) (j7 Tryz.call80 rfl (st (j9 (M j i)) _ (by rw[Lr_ofQ];exact hL j hlt i hil)) ?_)));rintro _ wc3 ⟨rfl,hBc3⟩;replace hS:=hS.ko hBc3;refine kf (j8 39 kR rfl (bI not hbj')) (uc rfl rfl (jp (kC (vb rfl (bI not hbj')) rfl ?_)));refine ja ?_;rw[toQ_ofQ];by_cases hm:0<M j i
         ·refine k9 rfl (ak (nB.2 hm)) ?_;refine J2 ?_;refine jp (kp (i:=j) rfl rfl (hG.sl hS mA) oO dO qa (jh (tX (i:=j) true mA rfl rfl qn hG hS oO rfl rfl ?_)));intro wz4 hS;refine V1 ?_;obtain⟨LC2,hG,hS⟩:=hS;refine V2 ?_;exact⟨i+1,_,rfl,⟨hil,jY,jY,jY,jY,jY,jY,jY,jY,vi rfl oO,_,true,rfl,hRI.set hil hlt hbi hm,hPI.set (by rw[hCl];exact hlt) hbj',_,hG,hS.drop (ab _ _)⟩,oO⟩
         ·refine lx rfl (ae (λg=>hm (nB.1 g))) ?_;refine V2 ?_;exact⟨i+1,_,rfl,⟨hil,jY,jY,jY,jY,jY,jY,jY,jY,vi rfl oO,C,ch,jY,hRI,hPI.skip λ_ g=>absurd g hm,LO,hG,hS.drop (ab _ _)⟩,oO⟩
       ·have hbi':C.getD i false=false:=by simpa using hbi
        refine J2 ?_;refine jp (kp (i:=i) rfl rfl (hG.sl hS mA) oO dO qa (jq (ky (i:=i) false rfl qn (hG.sl hS mA) dO rfl rfl (.inr rfl) ?_)));refine J1 ?_;refine kN (kb 32 kR rfl hbi') (kN (kb 32 kR rfl hbi') (kN (kb 32 kR rfl hbi') (kN (kb 32 kR rfl hbi') (kN (kb 32 kR rfl hbi') (jp (kC (vb rfl hbi') rfl ?_))))));refine J1 ?_;refine kN (kb 39 kR rfl rfl) (kN (kb 39 kR rfl rfl) (kN (kb 39 kR rfl rfl) (jp (kC (vb rfl rfl) rfl ?_))));refine ja ?_;refine lx rfl (rfl) ?_;refine V2 ?_;exact⟨i+1,_,rfl,⟨hil,jY,jY,jY,jY,jY,jY,jY,jY,vi rfl oO,C,ch,jY,hRI,hPI.skip λg _=>absurd g hbi,LO,hG,hS.drop (ab _ _)⟩,oO⟩
      ·refine J1 ?_;refine jt ?_;obtain rfl:i=n:=oO;exact⟨_,rfl,h0,h5,h14,h15,h16,C,ch,h6,hRI,hPI,LO,hG,hS⟩
     clear hS hG hRI hPI h6;rintro ρ w4 ⟨h0,h5,h14,h15,h16,C,ch,h6,hRI,hPI,LO,hG,hS⟩;refine V2 ?_;exact⟨j+1,_,rfl,⟨hlt,jY,jY,jY,jY,vi rfl oO,C,ch,jY,hRI,hPI.row,LO,hG,hS⟩,oO⟩
    ·refine J1 ?_;refine jt ?_;obtain rfl:j=n:=oO;exact⟨_,rfl,C,ch,h0,h5,h6,hRI,hPI,LO,hG,hS⟩
   clear hS hG hRI h6;rintro ρ w3 ⟨C,ch,h0,h5,h6,hRI,hPI,LO,hG,hS⟩;refine⟨(C,ch),_,rfl,⟨hRI,λe=> ?_,h0,h5,h6,LO,hG,hS⟩,?_⟩
   ·obtain⟨e1,e2⟩:=hPI.no e;dsimp only;rw[e1];exact λa b ha hb=>e2 a b (.inl ha) ha hb
   ·cases ch with
    |true=>
     have:=hPI.yes rfl;show 2*cf C+1<2*cf B+1;omega
    |false=>
     rw[(hPI.no rfl).1];show 2*cf B+0<2*cf B+1;omega
 clear hS hG;rintro ρ w2 ⟨B,LO,h5,hG,hBl,hB,hS⟩;refine J2 ?_;refine jt ?_;refine kD rfl rfl ?_;exact⟨B,LO,hG,hBl,hB,hS⟩
noncomputable def SU (M:Mx) (n:Nat) (A:List Bool):List Bool:=ku n λk=> @decide (N5 M n A k) (Classical.propDecidable _)
theorem KF (M:Mx) (n:Nat) (A:List Bool) {k:Nat} (hk:k<n):(SU M n A).getD k false=true↔N5 M n A k:=by
 unfold SU;rw[kw _ _ hk];exact @fF _ (Classical.propDecidable _)
theorem TS {M:Mx} {n:Nat} {A B:List Bool} (hl:B.length=n) (h:∀k,B.getD k false=true↔N5 M n A k):B=SU M n A:=by
 rw[Ki B false,hl];unfold SU;refine kB λk _=> ?_;rw[fZ,h k];exact(@fF _ (Classical.propDecidable _)).symm
def xj (n i:Nat):List Bool:=(List.replicate n false).set i true
noncomputable def tB (M:Mx) (n i:Nat):List Nat:=tQ (SU M n (xj n i)) n
theorem u7 {B:List Bool} {k i:Nat}:i∈tQ B k↔i<k/\B.getD i false=true:=by
 unfold tQ;rw[dS,cS]
theorem EK {n i:Nat} (hi:i<n) (k:Nat):(xj n i).getD k false=true↔k=i:=by
 unfold xj;rw[nq _ _ _ (by rw[eI];exact hi)];by_cases e:k=i
 ·simp[e]
 ·rw[ah e,ai,gj];by_cases g:k<n
  ·simp[g,e]
  ·simp[g,e]
theorem tC {M:Mx} {n i k:Nat}:k∈tB M n i↔k<n/\N5 M n (xj n i) k:=by
 unfold tB;rw[u7];constructor
 ·rintro⟨h1,h2⟩;exact⟨h1,(KF _ _ _ h1).1 h2⟩
 ·rintro⟨h1,h2⟩;exact⟨h1,(KF _ _ _ h1).2 h2⟩
theorem OZ {M:Mx} {n i:Nat} (hi:i<n):i∈tB M n i:=tC.2 ⟨hi,.base i ((EK hi i).2 rfl)⟩
theorem QF {M:Mx} {n i:Nat} (hi:i<n):tB M n i≠ []:=λe=>by have:=OZ (M:=M) hi;rw[e]at this;cases this
noncomputable def qm (M:Mx) (n:Nat) (F:List Bool):Nat->List Nat
 |0=>[]
 |k+1=>if F.getD k false=true/\(tB M n k).any (GQ M n)=false/\(qm M n F k=[]\/(tB M n k).length<(qm M n F k).length)then tB M n k else qm M n F k
theorem AN (M:Mx) (n:Nat) (F:List Bool):∀k,(qm M n F k).length<=n
 |0=>ax _
 |k+1=>by
  unfold qm;split
  ·exact Av _ _
  ·exact AN M n F k
theorem Nu (v vf:Value) (vs:List Value) (n:Nat) (M:Mx) (F:List Bool) (w:World) (hA:qE j6 3 w v (wD n n (qM M)) vs) (hf:Sl nG 1 w vf F) (hfl:F.length=n) (hn:n<=1000) (hL:∀i,i<n->∀j,j<n->L (M i j)<=MX) (hk:∀c,c<n->M8 M n c):
  lW Tryz.prog 59 #[v,vf] w λr w'=>∃LO,Gl tg 3 1 r (nI (qm M n F n)) LO/\(qm M n F n=[]->r=ke)/\St w w' LO:=by
 have hS:=St.init w;have hmx:=hA.sl.maxLen;have hlen:=hA.len;rw[mQ]at hlen;obtain⟨a0,c0,hv,_⟩:=hA.sl.form;subst hv;rw[hlen]at hA⊢;refine enter Tryz.func59 rfl Tryz.ntmps59 rfl ?_;refine jr ?_;refine jh (lj rfl rfl hS ?_);intro b2 wz1 hS hBz1;refine V1 ?_;replace hS:St w _ ([(b2,35,[.slice a0 n c0])]++[]):=hS;refine J2 ?_;refine jp (kj rfl (hf.j5 hS.j5) ⟨_,Tryz.underlying36⟩ ?_);refine J1 ?_;refine jb ?_;rw[hfl];refine kz (λρ w'=>∃vb LB,ρ 5=vb/\Gl tg 3 1 vb (nI (qm M n F n)) LB/\(qm M n F n=[]->vb=ke)/\St w w' ([(b2,35,[.slice a0 n c0])]++LB)) ?_ ?_
 ·refine ja ?_;refine kx (σ:=Nat) (λi ρ w'=>i<=n/\ρ 1=vf/\ρ 2=pB b2/\ρ 10=vf/\ρ 11=iB n/\ρ 12=iB i/\∃vb LB,ρ 5=vb/\Gl tg 3 1 vb (nI (qm M n F i)) LB/\(qm M n F i=[]->vb=ke)/\St w w' ([(b2,35,[.slice a0 n c0])]++LB)) (λi=>n-i) 0
   ⟨ax _,rfl,rfl,rfl,rfl,rfl,ke,[],rfl,Gl.nil _ _ _,λ_=>rfl,hS⟩ ?_
  clear hS;rintro i ρ w2 ⟨hi,h1,h2,h10,h11,h12,vb,LB,h5,hG,hnil,hS⟩;refine V1 ?_;by_cases hlt:i<n
  ·refine J2 ?_;refine jp (kp (i:=i) h10 h12 (hf.j5 hS.j5) oO dO qa (jq (ky (i:=i) false rfl qn (hf.j5 hS.j5) dO rfl rfl (.inr rfl) ?_)));refine V4 ?_;cases hF:F.getD i false with
   |false=>
    refine k9 rfl (rfl) ?_;refine jt ?_;have e:qm M n F (i+1)=qm M n F i:=by
     show(if _ then _ else _)=_;rw[ah (by rw[hF];rintro⟨h,_⟩;cases h)]
    refine V2 ?_;refine⟨i+1,_,rfl,⟨hlt,jY,jY,jY,jY,vi rfl oO,vb,LB,jY,?_⟩,oO⟩;rw[e];exact⟨hG,hnil,hS⟩
   |true=>
    refine lx rfl (rfl) ?_;refine J1 ?_;refine jp (kj rfl (hf.j5 hS.j5) ⟨_,Tryz.underlying36⟩ (jh (lU (enc:=nG) (n:=n) false rfl rfl qa rfl oO oO oO oO hS ?_)));intro b21 wz2 hS hBz2;refine V1 ?_;replace hS:St w _ ((b21,4,(List.replicate n false).flatMap nG)::([(b2,35,[.slice a0 n c0])]++LB)):=hS;refine J2 ?_;refine jp (kF (i:=i) rfl rfl oO dO qa ?_);refine jh (zy (k:=0) (i:=i) (enc:=nG) true (λ_=>rfl) rfl rfl qn hS rfl (by first|omega|simp) dO rfl rfl ?_);intro wz3 hS;refine ja ?_;replace hS:St w _ ((b21,4,(xj n i).flatMap nG)::([(b2,35,[.slice a0 n c0])]++LB)):=hS;have hul:(xj n i).length=n:=by unfold xj;rw[cj,eI]
    have hU:=hS.sle (k:=0) (n:=n) (cap:=n) rfl mA oO oO oO;rw[aU oO]at hU;have hAW:=hA.j5 hS.j5;refine J2 ?_;refine jh (j7 Tryz.call57 rfl (Pz (.slice a0 n c0) _ vs n M (xj n i) _ hAW hU hul hn hL) ?_);rintro r w3 ⟨B,LR,hGR,hBl,hB,hS3⟩;obtain rfl:=TS hBl hB;replace hS:=hS.join hS3;refine jh (j7 Tryz.call62 rfl (L5 r _ _ (hGR.sl (H:=[]) hS3 mA) oO) ?_);rintro r2 w4 ⟨LC,hGC,hS4⟩;rw[hBl]at hGC;replace hGC:Gl tg 3 1 r2 (nI (tB M n i)) LC:=hGC;replace hS:=hS.join hS4;replace hS:=(hS.drop (bk (bJ LC) ((ab _ _).trans (ao LR _)))).perm ay;refine V1 ?_;have hC:=hGC.sl (H:=[]) hS4 (λ_=>rfl);have hcl:=Av (SU M n (xj n i)) n;have hbl:=AN M n F i;have hAW2:=hA.j5 hS.j5;have hcn:∀c∈tB M n i,c<n:=λc hc=>(tC.1 hc).1;have hcne:=QF (M:=M) hlt;replace hcl:(tB M n i).length<=n:=hcl;obtain⟨C,hCd⟩:=jz (tB M n i);obtain⟨D,hDd⟩:=jz (qm M n F i);have hbs:qm M n F (i+1)=if F.getD i false=true/\C.any (GQ M n)=false/\(D=[]\/C.length<D.length)then C else D:=by rw[hCd,hDd];rfl
    rw[<-hDd]at hG hbl hnil;rw[<-hCd]at hcl hcn hcne hGC hC;have hnC:=sc C;have hnD:=sc D;obtain⟨a9,c9,hr2⟩:=hGC.len;rw[hnC]at hr2;subst hr2;replace hS:St w _ (([(b2,35,[.slice a0 n c0])]++LB)++LC):=hS;refine ja ?_;refine nb (λρ'=>ρ' 1=vf/\ρ' 2= .pointer (some ⟨b2,0,none⟩)/\ρ' 5=vb/\ρ' 9= .slice a9 C.length c9/\ρ' 10=vf/\ρ' 11= .int .i64 n/\ρ' 12= .int .i64 i/\True) ⟨h1,h2,h5,rfl,h10,h11,h12,trivial⟩ ?_;rintro ρk4 ⟨hk4_1,hk4_2,hk4_5,hk4_9,hk4_10,hk4_11,hk4_12,-⟩;refine J1 ?_;refine jp (PF hk4_2 (jh (j7 Tryz.call99 rfl (DR b2 (.slice a0 n c0) _ vs n M C _ (hS.at (k:=0) rfl 0 1) hAW2 hC hcn hk) ?_)));rintro r3 w5 ⟨rfl,hB5⟩;replace hS:=hS.ko hB5;refine ja ?_;cases hlk:C.any (GQ M n)with
    |true=>
     refine k9 rfl (rfl) ?_;refine jt ?_;rw[ah (by rw[hlk];rintro⟨_,h,_⟩;cases h)]at hbs;refine V2 ?_;refine⟨i+1,_,rfl,⟨hlt,jY,jY,jY,jY,vi rfl oO,vb,LB,jY,?_⟩,oO⟩;rw[hbs];exact⟨hG,hnil,hS.drop (ap _ _)⟩
    |false=>
     refine lx rfl (rfl) ?_;refine ja ?_;have hSC:St w _ ([(b2,35,[.slice a0 n c0])]++LC):=hS.drop (bk (ap _ _) (bJ _));by_cases hD:D=[]
     ·obtain rfl:=hnil hD;refine J1 ?_;refine jp (BO rfl rfl (ht:=⟨_,Tryz.underlying46⟩) ?_);refine J1 ?_;refine kN (kb 34 kR rfl rfl) (kN (kb 34 kR rfl rfl) (kN (kb 34 kR rfl rfl) (kN (kb 34 kR rfl rfl) (kN (kb 34 kR rfl rfl) (jp (kC (vb rfl rfl) rfl ?_))))));refine ja ?_;refine k9 rfl (rfl) ?_;refine V4 ?_;rw[aj ⟨hF,hlk,.inl hD⟩]at hbs;refine⟨i+1,_,rfl,⟨hlt,jY,jY,jY,jY,vi rfl oO,_,LC,rfl,?_⟩,oO⟩;rw[hbs];exact⟨hGC,λe=>absurd e hcne,hSC⟩
     ·have hvb:∃b cap,vb= .slice (some ⟨b,0,none⟩) D.length cap:=by
       obtain⟨_,⟨_,h2,_⟩|⟨b,cap,_,h1,_⟩⟩:=hG
       ·exact absurd (gi.1 (by rw[<-hnD,h2])) hD
       ·exact⟨b,cap,by rw[h1,hnD]⟩
      obtain⟨bb,cb,rfl⟩:=hvb;refine J1 ?_;refine jp (BO rfl rfl (ht:=⟨_,Tryz.underlying46⟩) ?_);refine J1 ?_;refine kf (j8 34 kR rfl rfl) (ks hk4_9 (kf (j8 34 kR rfl rfl) (pR rfl ⟨_,Tryz.underlying46⟩ (kf (j8 34 kR rfl rfl) (ks hk4_5 (kf (j8 34 kR rfl rfl) (pR rfl ⟨_,Tryz.underlying46⟩ (kf (j8 34 kR rfl rfl) (wm rfl rfl (jp (kC (vb rfl rfl) rfl ?_)))))))))));refine ja ?_;by_cases hlt2:C.length<D.length
      ·refine V5 ?_;rw[aj ⟨hF,hlk,.inr hlt2⟩]at hbs;refine⟨i+1,_,rfl,⟨hlt,jY,jY,jY,jY,vi rfl oO,_,LC,rfl,?_⟩,oO⟩;rw[hbs];exact⟨hGC,λe=>absurd e hcne,hSC⟩
      ·refine V3 ?_;rw[ah (by rintro⟨_,_,h|h⟩<;>contradiction)]at hbs;refine⟨i+1,_,rfl,⟨hlt,jY,jY,jY,jY,vi rfl oO,_,LB,jY,?_⟩,oO⟩;rw[hbs];exact⟨hG,hnil,hS.drop (ap _ _)⟩
  ·refine J1 ?_;refine jt ?_;obtain rfl:i=n:=oO;exact⟨_,rfl,vb,LB,h5,hG,hnil,hS⟩
 clear hS;rintro ρ w2 ⟨vb,LB,h5,hG,hnil,hS⟩;refine J2 ?_;refine jt ?_;refine kD rfl rfl ?_;exact⟨LB,hG,hnil,hS.drop (ao _ _)⟩
def pQ (q:Rat):Rat:=DX q 0
theorem Hf (q:Rat):L (pQ q)<=L q+1:=by
 unfold pQ DX;split
 ·omega
 ·rw[n8];omega
theorem ov (q:Rat) (w:World) (hq:L q+2<=MX):
  lW Tryz.prog 91 #[lu (j9 q)] w λr w'=>r=lu (j9 (pQ q))/\Below w.heap.size w w':=by
 have hS:=St.init w;have h0:=n8;refine enter Tryz.func91 rfl Tryz.ntmps91 rfl ?_;refine jr ?_;refine jh (lj (new:=j6 (j9 q)) rfl rfl hS ?_);intro b1 wz1 hS hBz1;refine J1 ?_;intro b2 wz2 hS hBz2;refine J1 ?_;refine jp (kQ rfl pI (jh (j7 Tryz.call52 rfl (Gn (j9 q) kP _ (by rw[Lr_ofQ,pd,Lr_ofQ];omega)) ?_)));rintro r w2 ⟨rfl,hB2⟩;rw[pd,toQ_ofQ,toQ_ofQ];replace hS:=hS.ko hB2;refine J1 ?_;intro wz3 hS;refine jt ?_;refine mq (k:=0) rfl rfl ki hS rfl rfl ?_;exact⟨rfl,hS.j5⟩
def oc (q:Nat->Rat) (k:Nat):Rat:=kg (λj=>pQ (q j)) k
def wE (W:Rat) (q:Nat->Rat):Nat->Rat
 |0=>0
 |k+1=>pQ (oc q (k+1)-pQ W)
def rR (W:Rat) (q:Nat->Rat) (k:Nat):Rat:=wE W q (k+1)-wE W q k
def ww (f:Nat->Rat) (i k:Nat):Rat:=if k<i then f k else 0
theorem vH (f:Nat->Rat) (n i:Nat):(ku n λk=>j9 (ww f i k)).set i (j9 (f i))=ku n λk=>j9 (ww f (i+1) k):=BN n (ww f i) (ww f (i+1)) i (f i) (λk _=>by
 unfold ww;by_cases e:k=i
 ·rw[aj e,aj oO,e]
 ·rw[ah e];by_cases e2:k<i
  ·rw[aj e2,aj oO]
  ·rw[ah e2,ah oO])
theorem vh (f:Nat->Rat) (n:Nat):(ku n λk=>j9 (ww f n k))=ku n λk=>j9 (f k):=kB λk hk=>by unfold ww;rw[aj hk]
theorem Jz (va:Value) (n:Nat) (W:Rat) (q:Nat->Rat) (K:Nat) (w:World) (ha:Sl j6 3 w va (ku n λk=>j9 (q k))) (hn:n<=1000) (hW:L W<=K) (hq:∀k,k<n->L (q k)<=K) (hs:∀k,k<=n->L (oc q k)<=K) (hK:8*K+20<=MX):
  lW Tryz.prog 53 #[lu (j9 W),va] w λr w'=>∃LO,Gl j6 32 3 r (ku n λk=>j9 (rR W q k)) LO/\St w w' LO:=by
 have hS:=St.init w;have hla:=ka n λk=>j9 (q k);have hz:j6 kP=j6 (j9 (wE W q 0)):=by rw[lA];rfl
 have hpW:=Hf W;refine enter Tryz.func53 rfl Tryz.ntmps53 rfl ?_;refine jr ?_;refine jh (lj (new:=j6 (j9 W)) rfl rfl hS ?_);intro b2 wz1 hS hBz1;refine J2 ?_;refine jp (kj rfl (ha.j5 hS.j5) ⟨_,Tryz.underlying34⟩ (jh (lU (enc:=j6) (n:=n) kP rfl rfl kM rfl oO oO oO oO hS ?_)));intro b13 wz2 hS hBz2;refine Y1 ?_;refine jp (kQ rfl pI (jp (kQ rfl pI ?_)));refine J1 ?_;intro b6 wz3 hS hBz3;refine J1 ?_;intro b7 wz4 hS hBz4;refine J1 ?_;intro wz5 hS;refine J1 ?_;intro wz6 hS;refine ja ?_;replace hS:St w _ ((b7,32,j6 kP)::(b6,32,j6 kP)::(b13,32,(List.replicate n kP).flatMap j6)::[(b2,32,j6 (j9 W))]):=hS;rw[hz,lE]at hS;replace hS:St w _ ([(b7,32,j6 (j9 (wE W q 0))),(b6,32,j6 (j9 (oc q 0))),(b2,32,j6 (j9 W))]++[(b13,32,(ku n λk=>j9 (zC.c k)).flatMap j6)]):=hS.perm (List.Perm.cons _ (List.Perm.cons _ (List.Perm.swap _ _ _)));have hG:Gl j6 32 3 (.slice (some ⟨b13,0,none⟩) n n) (ku n λk=>j9 (ww (rR W q) 0 k)) [(b13,32,(ku n λk=>j9 (ww (rR W q) 0 k)).flatMap j6)]:=pN (ka _ _) oO;refine J1 ?_;refine jp (kj rfl (ha.j5 hS.j5) ⟨_,Tryz.underlying34⟩ ?_);refine J1 ?_;refine jb ?_;rw[hla];refine kz (λρ w'=>∃LO,ρ 5= .slice (some ⟨b13,0,none⟩) n n/\Gl j6 32 3 (.slice (some ⟨b13,0,none⟩) n n) (ku n λk=>j9 (rR W q k)) LO/\St w w' LO) ?_ ?_
 ·refine ja ?_;refine kx (σ:=Nat) (λi ρ w'=>i<=n/\ρ 2=pB b2/\ρ 5= .slice (some ⟨b13,0,none⟩) n n/\ρ 6=pB b6/\ρ 7=pB b7/\ρ 16=va/\ρ 17=iB n/\ρ 18=iB i/\∃LO,Gl j6 32 3 (.slice (some ⟨b13,0,none⟩) n n) (ku n λk=>j9 (ww (rR W q) i k)) LO/\
    St w w' ([(b7,32,j6 (j9 (wE W q i))),(b6,32,j6 (j9 (oc q i))),(b2,32,j6 (j9 W))]++LO)) (λi=>n-i) 0
   ⟨ax _,rfl,rfl,rfl,rfl,rfl,rfl,rfl,_,hG,hS⟩ ?_
  clear hS hG;rintro i ρ w2 ⟨hi,h2,h5,h6,h7,h16,h17,h18,LO,hG,hS⟩;have htl:=ka n λk=>j9 (ww (rR W q) i k);refine V1 ?_;by_cases hlt:i<n
  ·refine V1 ?_;have hg:(ku n λk=>j9 (q k)).getD i kP=j9 (q i):=kw _ _ hlt;have hqi:=hq i hlt;have hs1:=hs i hi;have hs2:=hs (i+1) hlt;have hpq:=Hf (q i);have hsb:=tV (oc q (i+1)) (pQ W);have hov:L (wE W q i)<=2*K+4:=by
    cases i with
    |zero=>show L 0<=_;rw[n8];omega
    |succ i=>
     have h1:=Hf (oc q (i+1)-pQ W);have h2:=tV (oc q (i+1)) (pQ W);show L (pQ _)<=_;omega
   have hov2:L (wE W q (i+1))<=2*K+4:=by
    have h1:=Hf (oc q (i+1)-pQ W);show L (pQ _)<=_;omega
   have hadd:=λw=>oo (j9 (oc q i)) (j9 (pQ (q i))) w (by rw[Lr_ofQ,Lr_ofQ];omega);rw[toQ_ofQ,toQ_ofQ]at hadd;have hsub:=λw=>mD (j9 (oc q (i+1))) (j9 (pQ W)) w (by rw[Lr_ofQ,Lr_ofQ];omega);rw[toQ_ofQ,toQ_ofQ]at hsub;have hsub2:=λw=>mD (j9 (wE W q (i+1))) (j9 (wE W q i)) w (by rw[Lr_ofQ,Lr_ofQ];omega);rw[toQ_ofQ,toQ_ofQ]at hsub2;refine J1 ?_;refine jp (kp (i:=i) h16 h18 (ha.j5 hS.j5) oO dO kM (jq (ky (i:=i) kP rfl ki (ha.j5 hS.j5) dO rfl rfl (.inl rfl) ?_)));refine J1 ?_;intro b9 wz7 hS hBz7;refine J2 ?_;intro wz8 hS;refine ja ?_;rw[hg]at hS;replace hS:St w _ ([(b9,32,j6 (j9 (q i))),(b7,32,j6 (j9 (wE W q i))),(b6,32,j6 (j9 (oc q i))),(b2,32,j6 (j9 W))]++LO):=hS;refine ja ?_;refine kE [ju 0,ju 1,jv 2,jv 3,jw 4] kR kR hS ?_;intro wz9 hS hBz9;refine J2 ?_;refine jn rfl (j7 Tryz.call91 rfl (ov (q i) _ oO) ?_);rintro _ wc10 ⟨rfl,hBc10⟩;replace hS:=hS.ko hBc10;refine⟨hBc10,?_⟩;refine jn rfl (j7 Tryz.call18 rfl (hadd _) ?_);rintro _ wc11 ⟨rfl,hBc11⟩;replace hS:=hS.ko hBc11;refine⟨hBc11,?_⟩;refine J1 ?_;intro wz12 hS;refine ja ?_;replace hS:St w _ ([(b9,32,j6 (j9 (q i))),(b7,32,j6 (j9 (wE W q i))),(b6,32,j6 (j9 (oc q (i+1)))),(b2,32,j6 (j9 W))]++LO):=hS;refine kz (λρ w'=>ρ 2=pB b2/\ρ 5= .slice (some ⟨b13,0,none⟩) n n/\ρ 6=pB b6/\ρ 7=pB b7/\ρ 16=va/\ρ 17=iB n/\ρ 18=iB i/\ρ 8=iB i/\∃b10,ρ 10=pB b10/\St w w' ([(b10,32,j6 (j9 (wE W q (i+1)))),(b9,32,j6 (j9 (q i))),(b7,32,j6 (j9 (wE W q i))),(b6,32,j6 (j9 (oc q (i+1)))),(b2,32,j6 (j9 W))]++LO)) ?_ ?_
   ·refine ja ?_;refine xw 5 [ju 0,ju 1,jv 2,jv 3,jv 4,jw 6] kR kR hS ?_;intro wz13 hS hBz13;refine qF kR rfl rfl (kX (k:=2) h6 ki hS rfl rfl rfl (.inl rfl) (qF kR rfl rfl (kX (k:=3) h2 ki hS rfl rfl rfl (.inl rfl) ?_)));refine tF rfl rfl ?_ ?_
    ·refine J1 ?_;intro b10 wz14 hS hBz14;refine⟨hBz14,?_⟩;refine jn rfl (j7 Tryz.call91 rfl (ov W _ oO) ?_);rintro ra w3 ⟨rfl,hB3⟩;refine⟨hB3,?_⟩;replace hS:=hS.ko hB3;refine jn rfl (j7 Tryz.call16 rfl (hsub _) ?_);rintro rb w4 ⟨rfl,hB4⟩;refine⟨hB4,?_⟩;replace hS:=hS.ko hB4;refine jn rfl (j7 Tryz.call91 rfl (ov _ _ oO) ?_);rintro rc w5 ⟨rfl,hB5⟩;refine⟨hB5,?_⟩;replace hS:=hS.ko hB5;refine J1 ?_;intro wz15 hS;refine ja ?_;replace hS:St w _ ([(b10,32,j6 (j9 (wE W q (i+1)))),(b9,32,j6 (j9 (q i))),(b7,32,j6 (j9 (wE W q i))),(b6,32,j6 (j9 (oc q (i+1)))),(b2,32,j6 (j9 W))]++LO):=hS;exact⟨_,rfl,jY,jY,jY,jY,jY,jY,jY,rfl,b10,rfl,hS⟩
    ·refine j7 Tryz.call91 rfl (ov W _ oO) ?_;rintro ra w3 ⟨rfl,hB3⟩;refine⟨hB3,?_⟩;replace hS:=hS.ko hB3;refine tF rfl rfl ?_ ?_
     ·refine J1 ?_;intro b10 wz16 hS hBz16;refine⟨hBz16,?_⟩;refine jn rfl (j7 Tryz.call16 rfl (hsub _) ?_);rintro rb w4 ⟨rfl,hB4⟩;refine⟨hB4,?_⟩;replace hS:=hS.ko hB4;refine jn rfl (j7 Tryz.call91 rfl (ov _ _ oO) ?_);rintro rc w5 ⟨rfl,hB5⟩;refine⟨hB5,?_⟩;replace hS:=hS.ko hB5;refine J1 ?_;intro wz17 hS;refine ja ?_;replace hS:St w _ ([(b10,32,j6 (j9 (wE W q (i+1)))),(b9,32,j6 (j9 (q i))),(b7,32,j6 (j9 (wE W q i))),(b6,32,j6 (j9 (oc q (i+1)))),(b2,32,j6 (j9 W))]++LO):=hS;exact⟨_,rfl,jY,jY,jY,jY,jY,jY,jY,rfl,b10,rfl,hS⟩
     ·refine j7 Tryz.call16 rfl (hsub _) ?_;rintro rb w4 ⟨rfl,hB4⟩;refine⟨hB4,?_⟩;replace hS:=hS.ko hB4;refine tF rfl rfl ?_ ?_
      ·refine J1 ?_;intro b10 wz18 hS hBz18;refine⟨hBz18,?_⟩;refine jn rfl (j7 Tryz.call91 rfl (ov _ _ oO) ?_);rintro rc w5 ⟨rfl,hB5⟩;refine⟨hB5,?_⟩;replace hS:=hS.ko hB5;refine J1 ?_;intro wz19 hS;refine ja ?_;replace hS:St w _ ([(b10,32,j6 (j9 (wE W q (i+1)))),(b9,32,j6 (j9 (q i))),(b7,32,j6 (j9 (wE W q i))),(b6,32,j6 (j9 (oc q (i+1)))),(b2,32,j6 (j9 W))]++LO):=hS;exact⟨_,rfl,jY,jY,jY,jY,jY,jY,jY,rfl,b10,rfl,hS⟩
      ·refine j7 Tryz.call91 rfl (ov _ _ oO) ?_;rintro rc w5 ⟨rfl,hB5⟩;refine⟨hB5,?_⟩;replace hS:=hS.ko hB5;refine AR kR ?_;refine J1 ?_;intro b10 wz20 hS hBz20;refine⟨hBz20,?_⟩;refine J1 ?_;intro wz21 hS;refine ja ?_;replace hS:St w _ ([(b10,32,j6 (j9 (wE W q (i+1)))),(b9,32,j6 (j9 (q i))),(b7,32,j6 (j9 (wE W q i))),(b6,32,j6 (j9 (oc q (i+1)))),(b2,32,j6 (j9 W))]++LO):=hS;exact⟨_,rfl,jY,jY,jY,jY,jY,jY,jY,rfl,b10,rfl,hS⟩
   clear hS h2 h5 h6 h7 h16 h17 h18;rintro ρ w6 ⟨h2,h5,h6,h7,h16,h17,h18,h8,b10,h10,hS⟩;refine J4 ?_;refine jh (j7 Tryz.call16 rfl (hsub2 _) ?_);rintro _ wc22 ⟨rfl,hBc22⟩;replace hS:=hS.ko hBc22;refine jp (kp (i:=i) rfl rfl (hG.sl hS kt) oO dO kM (jh (tX (i:=i) (j9 (rR W q i)) kt rfl rfl ki hG hS oO rfl rfl ?_)));intro wz23 hS;refine ja ?_;obtain⟨LC2,hG,hS⟩:=hS;rw[vH]at hG;refine J2 ?_;intro wz24 hS;refine V2 ?_;exact⟨i+1,_,rfl,⟨hlt,jY,jY,jY,jY,jY,jY,vi rfl oO,_,hG,hS.drop ((ab _ _).trans (ab _ _))⟩,oO⟩
  ·refine J1 ?_;refine jt ?_;obtain rfl:n=i:=oO;rw[vh]at hG;exact⟨_,rfl,LO,h5,hG,hS.drop (ao _ _)⟩
 clear hS hG;rintro ρ w2 ⟨LO,h5,hG,hS⟩;refine J2 ?_;refine jt ?_;refine kD rfl rfl ?_;exact⟨LO,hG,hS⟩
def xU (W:Rat) (q s:Nat->Rat):Nat->Rat
 |0=>0
 |k+1=>if pQ W<=oc q (k+1)then oc s (k+1)else 0
def Dz (W:Rat) (q s:Nat->Rat) (k:Nat):Rat:=xU W q s (k+1)-xU W q s k
theorem Qb (va vb:Value) (n:Nat) (W:Rat) (q s:Nat->Rat) (K:Nat) (w:World) (ha:Sl j6 3 w va (ku n λk=>j9 (q k))) (hb:Sl j6 3 w vb (ku n λk=>j9 (s k))) (hn:n<=1000) (hW:L W<=K) (hq:∀k,k<n->L (q k)<=K/\L (s k)<=K) (hs:∀k,k<=n->L (oc q k)<=K/\L (oc s k)<=K) (hK:8*K+20<=MX):
  lW Tryz.prog 95 #[lu (j9 W),va,vb] w λr w'=>∃LO,Gl j6 32 3 r (ku n λk=>j9 (Dz W q s k)) LO/\St w w' LO:=by
 have hS:=St.init w;have hla:=ka n λk=>j9 (q k);have hlb:=ka n λk=>j9 (s k);have hz:j6 kP=j6 (j9 (xU W q s 0)):=by rw[lA];rfl
 have hpW:=Hf W;refine enter Tryz.func95 rfl Tryz.ntmps95 rfl ?_;refine jr ?_;refine jh (lj (new:=j6 (j9 W)) rfl rfl hS ?_);intro b3 wz1 hS hBz1;refine J2 ?_;refine jp (kj rfl (ha.j5 hS.j5) ⟨_,Tryz.underlying34⟩ (jh (lU (enc:=j6) (n:=n) kP rfl rfl kM rfl oO oO oO oO hS ?_)));intro b16 wz2 hS hBz2;refine Y1 ?_;refine jp (kQ rfl pI (jp (kQ rfl pI (jp (kQ rfl pI ?_)))));refine J1 ?_;intro b8 wz3 hS hBz3;refine J1 ?_;intro b9 wz4 hS hBz4;refine J1 ?_;intro b10 wz5 hS hBz5;refine J1 ?_;intro wz6 hS;refine J1 ?_;intro wz7 hS;refine J1 ?_;intro wz8 hS;refine ja ?_;replace hS:St w _ ((b10,32,j6 kP)::(b9,32,j6 kP)::(b8,32,j6 kP)::(b16,32,(List.replicate n kP).flatMap j6)::[(b3,32,j6 (j9 W))]):=hS;rw[hz,lE]at hS;replace hS:St w _ ([(b10,32,j6 (j9 (xU W q s 0))),(b9,32,j6 (j9 (oc s 0))),(b8,32,j6 (j9 (oc q 0))),(b3,32,j6 (j9 W))]++[(b16,32,(ku n λk=>j9 (zC.c k)).flatMap j6)]):=hS.perm (List.Perm.cons _ (List.Perm.cons _ (List.Perm.cons _ (List.Perm.swap _ _ _))));have hG:Gl j6 32 3 (.slice (some ⟨b16,0,none⟩) n n) (ku n λk=>j9 (ww (Dz W q s) 0 k)) [(b16,32,(ku n λk=>j9 (ww (Dz W q s) 0 k)).flatMap j6)]:=pN (ka _ _) oO;refine J1 ?_;refine jp (kj rfl (ha.j5 hS.j5) ⟨_,Tryz.underlying34⟩ ?_);refine J1 ?_;refine jb ?_;rw[hla];refine kz (λρ w'=>∃LO,ρ 7= .slice (some ⟨b16,0,none⟩) n n/\Gl j6 32 3 (.slice (some ⟨b16,0,none⟩) n n) (ku n λk=>j9 (Dz W q s k)) LO/\St w w' LO) ?_ ?_
 ·refine ja ?_;refine kx (σ:=Nat) (λi ρ w'=>i<=n/\ρ 2=vb/\ρ 3=pB b3/\ρ 7= .slice (some ⟨b16,0,none⟩) n n/\ρ 8=pB b8/\ρ 9=pB b9/\ρ 10=pB b10/\ρ 20=va/\ρ 21=iB n/\ρ 22=iB i/\∃LO,Gl j6 32 3 (.slice (some ⟨b16,0,none⟩) n n) (ku n λk=>j9 (ww (Dz W q s) i k)) LO/\
    St w w' ([(b10,32,j6 (j9 (xU W q s i))),(b9,32,j6 (j9 (oc s i))),(b8,32,j6 (j9 (oc q i))),(b3,32,j6 (j9 W))]++LO)) (λi=>n-i) 0
   ⟨ax _,rfl,rfl,rfl,rfl,rfl,rfl,rfl,rfl,rfl,_,hG,hS⟩ ?_
  clear hS hG;rintro i ρ w2 ⟨hi,h2,h3,h7,h8,h9,h10,h20,h21,h22,LO,hG,hS⟩;have htl:=ka n λk=>j9 (ww (Dz W q s) i k);refine V1 ?_;by_cases hlt:i<n
  ·refine V1 ?_;have hg:(ku n λk=>j9 (q k)).getD i kP=j9 (q i):=kw _ _ hlt;have hg2:(ku n λk=>j9 (s k)).getD i kP=j9 (s i):=kw _ _ hlt;obtain⟨hqi,hsi⟩:=hq i hlt;obtain⟨hs1,hs1'⟩:=hs i hi;obtain⟨hs2,hs2'⟩:=hs (i+1) hlt;have hpq:=Hf (q i);have hps:=Hf (s i);have h0:=n8;have hov:L (xU W q s i)<=K+1:=by
    cases i with
    |zero=>show L 0<=_;omega
    |succ i=>
     show L (if _ then _ else _)<=_;split<;>omega
   have hov2:L (xU W q s (i+1))<=K+1:=by
    show L (if _ then _ else _)<=_;split<;>omega
   have hadd:=λw=>oo (j9 (oc q i)) (j9 (pQ (q i))) w (by rw[Lr_ofQ,Lr_ofQ];omega);rw[toQ_ofQ,toQ_ofQ]at hadd;have hadd2:=λw=>oo (j9 (oc s i)) (j9 (pQ (s i))) w (by rw[Lr_ofQ,Lr_ofQ];omega);rw[toQ_ofQ,toQ_ofQ]at hadd2;have hsub2:=λw=>mD (j9 (xU W q s (i+1))) (j9 (xU W q s i)) w (by rw[Lr_ofQ,Lr_ofQ];omega);rw[toQ_ofQ,toQ_ofQ]at hsub2;refine J1 ?_;refine jp (kp (i:=i) h20 h22 (ha.j5 hS.j5) oO dO kM (jq (ky (i:=i) kP rfl ki (ha.j5 hS.j5) dO rfl rfl (.inl rfl) ?_)));refine J1 ?_;intro b12 wz9 hS hBz9;refine J2 ?_;intro wz10 hS;refine ja ?_;rw[hg]at hS;replace hS:St w _ ([(b12,32,j6 (j9 (q i))),(b10,32,j6 (j9 (xU W q s i))),(b9,32,j6 (j9 (oc s i))),(b8,32,j6 (j9 (oc q i))),(b3,32,j6 (j9 W))]++LO):=hS;refine ja ?_;refine kE [ju 0,ju 1,jv 2,jv 3,jw 4] kR kR hS ?_;intro wz11 hS hBz11;refine J2 ?_;refine jn rfl (j7 Tryz.call91 rfl (ov (q i) _ oO) ?_);rintro _ wc12 ⟨rfl,hBc12⟩;replace hS:=hS.ko hBc12;refine⟨hBc12,?_⟩;refine jn rfl (j7 Tryz.call18 rfl (hadd _) ?_);rintro _ wc13 ⟨rfl,hBc13⟩;replace hS:=hS.ko hBc13;refine⟨hBc13,?_⟩;refine J1 ?_;intro wz14 hS;refine J2 ?_;refine jp (kj rfl (hb.j5 hS.j5) ⟨_,Tryz.underlying34⟩ ?_);refine V2 ?_;refine kE [ju 0,jo 1,jo 2,jo 3,ju 4,jv 5,jv 6,jw 7] kR kR hS ?_;intro wz15 hS hBz15;refine J3 ?_;refine jl rfl (kp (i:=i) rfl rfl (hb.j5 hS.j5) oO dO kM (jm rfl (ky (i:=i) kP rfl ki (hb.j5 hS.j5) dO rfl rfl (.inl rfl) ?_)));rw[hg2];refine jn rfl (j7 Tryz.call91 rfl (ov (s i) _ oO) ?_);rintro _ wc16 ⟨rfl,hBc16⟩;replace hS:=hS.ko hBc16;refine⟨hBc16,?_⟩;refine jn rfl (j7 Tryz.call18 rfl (hadd2 _) ?_);rintro _ wc17 ⟨rfl,hBc17⟩;replace hS:=hS.ko hBc17;refine⟨hBc17,?_⟩;refine J1 ?_;intro wz18 hS;refine jr ?_;refine jp (kQ rfl pI ?_);refine J1 ?_;intro b13 wz19 hS hBz19;refine J1 ?_;intro wz20 hS;refine ja ?_;replace hS:St w _ ([(b13,32,j6 kP),(b12,32,j6 (j9 (q i))),(b10,32,j6 (j9 (xU W q s i))),(b9,32,j6 (j9 (oc s (i+1)))),(b8,32,j6 (j9 (oc q (i+1)))),(b3,32,j6 (j9 W))]++LO):=hS;refine ja ?_;refine kE [ju 0,ju 1,jv 2,jv 3,jo 4] kR kR hS ?_;intro wz21 hS hBz21;refine J2 ?_;refine jn rfl (j7 Tryz.call91 rfl (ov W _ oO) ?_);rintro _ wc22 ⟨rfl,hBc22⟩;replace hS:=hS.ko hBc22;refine⟨hBc22,?_⟩;refine jn rfl (j7 Tryz.call50 rfl (pm (j9 (oc q (i+1))) (j9 (pQ W)) _ (by rw[Lr_ofQ,Lr_ofQ];omega)) ?_);rintro _ wc23 ⟨rfl,hBc23⟩;replace hS:=hS.ko hBc23;refine⟨hBc23,?_⟩;refine V1 ?_;rw[toQ_ofQ,toQ_ofQ];refine kz (λρ w'=>ρ 2=vb/\ρ 3=pB b3/\ρ 7= .slice (some ⟨b16,0,none⟩) n n/\ρ 8=pB b8/\ρ 9=pB b9/\ρ 10=pB b10/\ρ 20=va/\ρ 21=iB n/\ρ 22=iB i/\ρ 11=iB i/\ρ 13=pB b13/\St w w' ([(b13,32,j6 (j9 (xU W q s (i+1)))),(b12,32,j6 (j9 (q i))),(b10,32,j6 (j9 (xU W q s i))),(b9,32,j6 (j9 (oc s (i+1)))),(b8,32,j6 (j9 (oc q (i+1)))),(b3,32,j6 (j9 W))]++LO)) ?_ ?_
   ·refine ja ?_;by_cases hge:pQ W<=oc q (i+1)
    ·refine k9 rfl ((Fa _ _).trans (ak hge)) ?_;refine J2 ?_;intro wz24 hS;refine ja ?_;have e:xU W q s (i+1)=oc s (i+1):=aj hge;rw[e];exact⟨_,rfl,jY,jY,jY,jY,jY,jY,jY,jY,jY,rfl,rfl,hS⟩
    ·refine lx rfl ((Fa _ _).trans (ae hge)) ?_;refine ja ?_;have e:xU W q s (i+1)=0:=ah hge;rw[e,<-lA];exact⟨_,rfl,jY,jY,jY,jY,jY,jY,jY,jY,jY,rfl,rfl,hS⟩
   clear hS h2 h3 h7 h8 h9 h10 h20 h21 h22;rintro ρ w6 ⟨h2,h3,h7,h8,h9,h10,h20,h21,h22,h11,h13,hS⟩;refine J4 ?_;refine jh (j7 Tryz.call16 rfl (hsub2 _) ?_);rintro _ wc25 ⟨rfl,hBc25⟩;replace hS:=hS.ko hBc25;refine jp (kp (i:=i) rfl rfl (hG.sl hS kt) oO dO kM (jh (tX (i:=i) (j9 (Dz W q s i)) kt rfl rfl ki hG hS oO rfl rfl ?_)));intro wz26 hS;refine ja ?_;obtain⟨LC2,hG,hS⟩:=hS;rw[vH]at hG;refine J2 ?_;intro wz27 hS;refine V2 ?_;exact⟨i+1,_,rfl,⟨hlt,jY,jY,jY,jY,jY,jY,jY,jY,vi rfl oO,_,hG,hS.drop ((ab _ _).trans (ab _ _))⟩,oO⟩
  ·refine J1 ?_;refine jt ?_;obtain rfl:n=i:=oO;rw[vh]at hG;exact⟨_,rfl,LO,h7,hG,hS.drop (ao _ _)⟩
 clear hS hG;rintro ρ w2 ⟨LO,h7,hG,hS⟩;refine J2 ?_;refine jt ?_;refine kD rfl rfl ?_;exact⟨LO,hG,hS⟩
structure rG where
 h:Int
 rk:Int
 q:Rat
structure QP where
 cash:Rat
 cl:List rG
structure sV where
 W:Rat
 legs:List (Nat×Nat)
def o6:rG:=⟨0,0,0⟩
def Xc:QP:=⟨0,[]⟩
def t8:sV:=⟨0,[]⟩
def Mj:Rat×Value:=(0,undef)
def p9:Rat×Value×Value:=(0,undef,undef)
def lZ (c:rG):List Value:= .int .i64 c.h:: .int .i64 c.rk::j6 (j9 c.q)
def m9 (p:Nat×Nat):List Value:=[.int .i64 p.1,.int .i64 p.2]
def kA (e:Rat×Value×Value):List Value:=j6 (j9 e.1)++[e.2.1,e.2.2]
def lz (d:Rat×Value):List Value:=j6 (j9 d.1)++[d.2]
theorem mY (c:rG):(lZ c).length=5:=rfl
theorem pg (c:Nat×Nat):(m9 c).length=2:=rfl
theorem mP (c:Rat×Value×Value):(kA c).length=5:=rfl
theorem nJ (c:Rat×Value):(lz c).length=4:=rfl
structure mT where
 es:List QP
 ds:List sV
def mT.e (g:mT) (i:Nat):QP:=g.es.getD i Xc
def mT.d (g:mT) (k:Nat):sV:=g.ds.getD k t8
def mT.c (g:mT) (i c:Nat):rG:=(g.e i).cl.getD c o6
def mT.n (g:mT):Nat:=g.es.length
def mT.cn (g:mT) (i:Nat):Nat:=(g.e i).cl.length
def mT.lg (g:mT) (k j:Nat):Nat×Nat:=(g.d k).legs.getD j (0,0)
structure EE (w:World) (vE vD:Value) (g:mT) (ev:List (Value×Value)) (dv:List Value):Prop where
 es:Sl kA 5 w vE (ku g.n λi=>((g.e i).cash,ev.getD i pW))
 ds:Sl lz 4 w vD (ku g.ds.length λk=>((g.d k).W,dv.getD k undef))
 cl:∀i,i<g.n->Sl lZ 5 w (ev.getD i pW).1 (g.e i).cl
 lg:∀k,k<g.ds.length->Sl m9 2 w (dv.getD k undef) (g.d k).legs
 ag:∀i,i<g.n->∃a l c,(ev.getD i pW).2= .slice a l c
theorem EE.j5 {w w':World} {vE vD:Value} {g:mT} {ev:List (Value×Value)} {dv:List Value} (h:EE w vE vD g ev dv) (hb:Below w.heap.size w w'):EE w' vE vD g ev dv:=⟨h.es.j5 hb,h.ds.j5 hb,λi hi=>(h.cl i hi).j5 hb,λi hi=>(h.lg i hi).j5 hb,h.ag⟩
structure LV where
 vR:Value
 vP:Value
 vs:List Value
 pv:List (Value×Value)
 lv:List (List Value)
def Ho:LV:=⟨undef,undef,[],[],[]⟩
def XA:Ly:=⟨0,[],[],0⟩
def ET (p:Ly×LV):List Value:=pK p.1.n p.2.vR p.2.vP p.1.tot
theorem Es (c:Ly×LV):(ET c).length=6:=rfl
structure Ex (w:World) (bs:Nat) (vE vD vL vI:Value) (g:mT) (Y:Nat->Ly) (B:Nat->Nat->Bool) (ev:List (Value×Value)) (dv:List Value) (V:Nat->LV) (iv:List Value):Prop where
 at0:At w ⟨bs,0,none⟩ [vE,vD,vL,vI]
 gr:EE w vE vD g ev dv
 la:Sl ET 6 w vL (ku g.n λi=>(Y i,V i))
 lm:∀i,i<g.n->QH w (V i).vR (V i).vP (Y i) (V i).vs (V i).pv (V i).lv
 yn:∀i,i<g.n->(Y i).n=g.cn i
 il:iv.length=g.n
 ii:Sl sU 1 w vI iv
 ir:∀i,i<g.n->Sl nG 1 w (iv.getD i undef) (ku (g.cn i) (B i))
theorem Ex.j5 {w w':World} {bs:Nat} {vE vD vL vI:Value} {g:mT} {Y:Nat->Ly} {B:Nat->Nat->Bool} {ev:List (Value×Value)} {dv:List Value} {V:Nat->LV} {iv:List Value} (h:Ex w bs vE vD vL vI g Y B ev dv V iv) (hb:Below w.heap.size w w'):Ex w' bs vE vD vL vI g Y B ev dv V iv:=
 ⟨h.at0.j5 hb,h.gr.j5 hb,h.la.j5 hb,λi hi=>(h.lm i hi).j5 hb,h.yn,h.il,h.ii.j5 hb,λi hi=>(h.ir i hi).j5 hb⟩
def tp (n:Nat) (cn:Nat->Nat) (f:Nat->Nat->Rat):List (List RR):=ku n λi=>ku (cn i) λc=>j9 (f i c)
theorem nu (n:Nat) (cn:Nat->Nat) (f:Nat->Nat->Rat):(tp n cn f).length=n:=ka _ _
theorem xO {n:Nat} (cn:Nat->Nat) (f:Nat->Nat->Rat) {i:Nat} (hi:i<n):(tp n cn f).getD i []=ku (cn i) λc=>j9 (f i c):=kw _ _ hi
def nV (g:mT):Prop:=∀k,k<g.ds.length->∀j,j<(g.d k).legs.length->(g.lg k j).1<g.n/\(g.lg k j).2<g.cn (g.lg k j).1
def NN (W:Rat) (v:Value):Value:= .agg #[.bool (j9 W).neg,.string (j9 W).num,.string (j9 W).den,v]
theorem FA (vl v:Value) (vs:List Value) (W:Rat) (l:List (Nat×Nat)) (n:Nat) (cn:Nat->Nat) (f:Nat->Nat->Rat) (w:World) (hl:Sl m9 2 w vl l) (hA:qE j6 3 w v (tp n cn f) vs) (hok:∀j,j<l.length->(l.getD j (0,0)).1<n/\(l.getD j (0,0)).2<cn (l.getD j (0,0)).1) (hn:l.length<=1000):
  lW Tryz.prog 54 #[NN W vl,v] w λr w'=>∃LO,Gl j6 32 3 r (ku l.length λj=>j9 (f (l.getD j (0,0)).1 (l.getD j (0,0)).2)) LO/\St w w' LO:=by
 have hS:=St.init w;have hmx:=hl.maxLen;have hmx2:=hA.sl.maxLen;have hlen:=hA.len;rw[nu]at hlen;obtain⟨m,hm⟩:=jz l.length;obtain⟨F,hF⟩:∃F:Nat->Rat,F=λj=>f (l.getD j (0,0)).1 (l.getD j (0,0)).2:=⟨_,rfl⟩;rw[<-hm]at hok hn⊢;have hFe:(ku m λj=>j9 (f (l.getD j (0,0)).1 (l.getD j (0,0)).2))=ku m λj=>j9 (F j):=by rw[hF]
 rw[hFe];obtain⟨al,cl,hvl,_⟩:=hl.form;subst hvl;refine enter Tryz.func54 rfl Tryz.ntmps54 rfl ?_;refine jr ?_;refine jh (lj (new:=lz (W,.slice al l.length cl)) rfl rfl hS ?_);intro b2 wz1 hS hBz1;refine J3 ?_;refine jp (kj rfl (hl.j5 hS.j5) ⟨_,Tryz.underlying62⟩ (jh (lU (enc:=j6) (n:=m) kP rfl rfl kM rfl oO oO oO oO hS ?_)));intro b11 wz2 hS hBz2;refine V1 ?_;replace hS:St w _ ((b11,32,(List.replicate m kP).flatMap j6)::[(b2,64,lz (W,.slice al l.length cl))]):=hS;rw[lE]at hS;replace hS:St w _ ([(b2,64,lz (W,.slice al l.length cl))]++[(b11,32,(ku m λk=>j9 (zC.c k)).flatMap j6)]):=hS.perm (List.Perm.swap _ _ _);have hG:Gl j6 32 3 (.slice (some ⟨b11,0,none⟩) m m) (ku m λk=>j9 (ww F 0 k)) [(b11,32,(ku m λk=>j9 (ww F 0 k)).flatMap j6)]:=pN (ka _ _) oO;refine J2 ?_;refine jp (kj rfl (hl.j5 hS.j5) ⟨_,Tryz.underlying62⟩ ?_);refine J1 ?_;refine jb ?_;rw[<-hm];refine kz (λρ w'=>∃LO,ρ 5= .slice (some ⟨b11,0,none⟩) m m/\Gl j6 32 3 (.slice (some ⟨b11,0,none⟩) m m) (ku m λj=>j9 (F j)) LO/\St w w' LO) ?_ ?_
 ·refine ja ?_;refine kx (σ:=Nat) (λi ρ w'=>i<=m/\ρ 1=v/\ρ 5= .slice (some ⟨b11,0,none⟩) m m/\ρ 13= .slice al m cl/\ρ 14=iB m/\ρ 15=iB i/\∃LO,Gl j6 32 3 (.slice (some ⟨b11,0,none⟩) m m) (ku m λk=>j9 (ww F i k)) LO/\St w w' ([]++LO)) (λi=>m-i) 0
   ⟨ax _,rfl,rfl,(by rw[hm];rfl),rfl,rfl,_,hG,hS.drop (ao [_] _)⟩ ?_
  clear hS hG;rintro i ρ w2 ⟨hi,h1,h5,h13,h14,h15,LO,hG,hS⟩;rw[hm]at h13;have htl:=ka m λk=>j9 (ww F i k);refine V1 ?_;by_cases hlt:i<m
  ·refine V1 ?_;obtain⟨p,hp⟩:=jz (l.getD i (0,0));obtain⟨h1n,h2n⟩:=hok i hlt;rw[<-hp]at h1n h2n;have hFi:F i=f p.1 p.2:=by rw[hF,hp]
   have hrow:=hA.row p.1 (by rw[nu];exact h1n);rw[xO cn f h1n]at hrow;have hrl:=ka (cn p.1) λc=>j9 (f p.1 c);have hg:(ku (cn p.1) λc=>j9 (f p.1 c)).getD p.2 kP=j9 (F i):=by rw[hFi];exact kw _ _ h2n
   refine J1 ?_;refine jp (kp (i:=i) h13 h15 (hl.j5 hS.j5) oO dO pU (jq (ky (i:=i) (0,0) rfl qq (hl.j5 hS.j5) dO rfl rfl (.inl rfl) ?_)));refine J1 ?_;intro b7 wz3 hS hBz3;refine J2 ?_;intro wz4 hS;refine ja ?_;rw[<-hp]at hS;replace hS:St w _ ([(b7,66,m9 p)]++LO):=hS;refine ja ?_;refine kE [jo 0,jo 1,jo 2,jo 3,ju 4,jo 5,ju 6,jo 7,ju 8,jo 9,ju 10,jo 11,jw 12] kR kR hS ?_;intro wz5 hS hBz5;refine J5 ?_;refine jl rfl (kp (i:=p.1) rfl rfl (hA.sl.j5 hS.j5) oO dO lL (jm rfl (ky (i:=p.1) undef rfl lV (hA.sl.j5 hS.j5) dO rfl rfl (.inr rfl) ?_)));refine J2 ?_;refine jl rfl (kp (i:=p.2) rfl rfl (hrow.j5 hS.j5) oO dO kM (jm rfl (ky (i:=p.2) kP rfl ki (hrow.j5 hS.j5) dO rfl rfl (.inl rfl) (jl rfl (kp (i:=i) rfl rfl (hG.sl hS kt) oO dO kM (jx rfl (tX (i:=i) (j9 (F i)) kt rfl rfl ki hG hS oO (by rw[hg];rfl) rfl ?_)))))));intro wz6 hS;refine ja ?_;obtain⟨LC2,hG,hS⟩:=hS;rw[vH]at hG;refine V2 ?_;exact⟨i+1,_,rfl,⟨hlt,jY,jY,(by rw[hm];assumption),jY,vi rfl oO,_,hG,hS.drop (ab _ _)⟩,oO⟩
  ·refine J1 ?_;refine jt ?_;obtain rfl:m=i:=oO;rw[vh]at hG;exact⟨_,rfl,LO,h5,hG,hS⟩
 clear hS hG;rintro ρ w2 ⟨LO,h5,hG,hS⟩;refine J2 ?_;refine jt ?_;refine kD rfl rfl ?_;exact⟨LO,hG,hS⟩
section
variable {w : World} {bs : Nat} {vE vD vL vI : Value} {g : mT} {Y : Nat → Ly} {B : Nat → Nat → Bool} {ev : List (Value × Value)} {dv : List Value} {V : Nat → LV} {iv : List Value}
theorem Ex.a0 (h:Ex w bs vE vD vL vI g Y B ev dv V iv):At w ⟨bs,0,none⟩ [vE]:=λj u hj=>by
 match j,hj with
 |0,hj=>exact h.at0 0 u hj
theorem Ex.a1 (h:Ex w bs vE vD vL vI g Y B ev dv V iv):At w ⟨bs,1,none⟩ [vD]:=λj u hj=>by
 match j,hj with
 |0,hj=>exact h.at0 1 u hj
theorem Ex.a2 (h:Ex w bs vE vD vL vI g Y B ev dv V iv):At w ⟨bs,2,none⟩ [vL]:=λj u hj=>by
 match j,hj with
 |0,hj=>exact h.at0 2 u hj
theorem Ex.a3 (h:Ex w bs vE vD vL vI g Y B ev dv V iv):At w ⟨bs,3,none⟩ [vI]:=λj u hj=>by
 match j,hj with
 |0,hj=>exact h.at0 3 u hj
end
def Aa (g:mT) (k:Nat):Int:=(g.c (g.lg k 0).1 (g.lg k 0).2).h
theorem Na {bs:Nat} {vE vD vL vI:Value} {g:mT} {Y:Nat->Ly} {B:Nat->Nat->Bool} {ev:List (Value×Value)} {dv:List Value} {V:Nat->LV} {iv:List Value} (k:Nat) (w:World) (hS0:Ex w bs vE vD vL vI g Y B ev dv V iv) (hk:k<g.ds.length) (h0:0<(g.d k).legs.length) (hl:nV g):
  lW Tryz.prog 96 #[.pointer (some ⟨bs,0,none⟩),NN (g.d k).W (dv.getD k undef)] w λr w'=>r= .int .i64 (Aa g k)/\Below w.heap.size w w':=by
 have hS:=St.init w;have hlg:=hS0.gr.lg k hk;obtain⟨h1,h2⟩:=hl k hk 0 h0;obtain⟨p,hp⟩:=jz (g.lg k 0);have hpl:(g.d k).legs.getD 0 (0,0)=p:=by rw[hp];rfl
 rw[<-hp]at h1 h2;have hcl:=hS0.gr.cl p.1 h1;have hel:(ku g.n λi=>((g.e i).cash,ev.getD i pW)).getD p.1 p9=((g.e p.1).cash,ev.getD p.1 pW):=kw _ _ h1;have htl:=ka g.n λi=>((g.e i).cash,ev.getD i pW);have hho:Aa g k=((g.e p.1).cl.getD p.2 o6).h:=by rw[hp];rfl
 obtain⟨al,cl,hvl,_⟩:=hlg.form;rw[hvl]at hlg⊢;obtain⟨a1,c1,hv1,_⟩:=hcl.form;rw[hv1]at hcl;have hel1:((ku g.n λi=>((g.e i).cash,ev.getD i pW)).getD p.1 p9).2.1= .slice a1 (g.e p.1).cl.length c1:=by rw[hel];exact hv1
 rw[hho];have h2':p.2<(g.e p.1).cl.length:=h2;refine enter Tryz.func96 rfl Tryz.ntmps96 rfl ?_;refine jr ?_;refine jh (lj (new:=lz ((g.d k).W,.slice al (g.d k).legs.length cl)) rfl rfl hS ?_);intro b3 wz1 hS hBz1;refine V1 ?_;refine kE [jo 0,jo 1,jo 2,jo 3,ju 4,jo 5,ju 6,jo 7,jo 8,ju 9,jo 10,jo 11,ju 12,jo 13,ju 14,jo 15,jo 16,ju 17,jo 18,jo 19,ju 20,jo 21] kR kR hS ?_;intro wz2 hS hBz2;refine J1 ?_;refine jl rfl (mN rfl ?_);refine J2 ?_;refine jm rfl (oL (v:=vE) (cs:=[vE]) rfl pu (hS0.j5 hS.j5).a0 rfl rfl (.inr rfl) ?_);refine J2 ?_;refine jl rfl (kp (i:=0) rfl rfl (hlg.j5 hS.j5) oO dO pU ?_);refine jl rfl (oG rfl (nc (hlg.j5 hS.j5) (λ_=>rfl) dD dO) vV ?_);refine jm rfl (oE (v:= .int .i64 p.1) (i:=0) (off:=0) (0,0) rfl ni (hlg.j5 hS.j5) (λ_=>rfl) dD h0 rfl (by rw[hpl];rfl) (.inr rfl) ?_);refine jl rfl (kp (i:=p.1) rfl rfl (hS0.gr.es.j5 hS.j5) oO dO pw ?_);refine jl rfl (oG rfl (nc (hS0.gr.es.j5 hS.j5) (λ_=>rfl) dD dO) qk ?_);refine jm rfl (oE (v:= .slice a1 (g.e p.1).cl.length c1) (i:=p.1) (off:=3) p9 rfl pS (hS0.gr.es.j5 hS.j5) (λ_=>rfl) dD oO rfl (by rw[<-hel1];rfl) (.inr rfl) ?_);refine J2 ?_;refine jl rfl (kp (i:=0) rfl rfl (hlg.j5 hS.j5) oO dO pU ?_);refine jl rfl (oG rfl (nc (hlg.j5 hS.j5) (λ_=>rfl) dD dO) uo ?_);refine jm rfl (oE (v:= .int .i64 p.2) (i:=0) (off:=1) (0,0) rfl ni (hlg.j5 hS.j5) (λ_=>rfl) dD h0 rfl (by rw[hpl];rfl) (.inr rfl) ?_);refine jl rfl (kp (i:=p.2) rfl rfl (hcl.j5 hS.j5) oO dO qv ?_);refine jl rfl (oG rfl (nc (hcl.j5 hS.j5) (λ_=>rfl) dD dO) sv ?_);refine jm rfl (oE (i:=p.2) (off:=0) o6 rfl ni (hcl.j5 hS.j5) (λ_=>rfl) dD dO rfl rfl (.inr rfl) ?_);refine J1 ?_;refine jt ?_;refine kD rfl rfl ?_;exact⟨rfl,hS.j5⟩
structure RowsIn {α:Type} (enc:α->List Value) (T:TypeId) (sz:Nat) (vs:List Value) (X:List (List α)) (D:List kV):Prop where
 len:vs.length=X.length
 g:∀i,i<X.length->∃L,L.Sublist D/\Gl enc T sz (vs.getD i undef) (X.getD i []) L
section
variable {α : Type} {enc : α → List Value} {T : TypeId} {sz : Nat} {vs : List Value} {X : List (List α)} {D D' L : List kV} {v : Value} {x : List α}
theorem RowsIn.nil:RowsIn enc T sz [] ([]:List (List α)) []:=⟨rfl,λ_ h=>absurd h (aS _)⟩
theorem RowsIn.mono (h:RowsIn enc T sz vs X D) (hs:D.Sublist D'):RowsIn enc T sz vs X D':=⟨h.len,λi hi=>by obtain⟨L,h1,h2⟩:=h.g i hi;exact⟨L,h1.trans hs,h2⟩⟩
theorem mI {β:Type} (l:List β) (b d:β) (i:Nat):(l++[b]).getD i d=if i<l.length then l.getD i d else if i=l.length then b else d:=by
 rw[ai];by_cases h:i<l.length
 ·rw[aj h,cZ h,ai]
 ·rw[ah h,bV oO];by_cases e:i=l.length
  ·rw[aj e,e,dU];rfl
  ·rw[ah e,dg (by simp;omega)];rfl
theorem RowsIn.snoc (h:RowsIn enc T sz vs X D) (hg:Gl enc T sz v x L):RowsIn enc T sz (vs++[v]) (X++[x]) (L++D):=by
 refine⟨by rw[aw,aw,h.len];rfl,λi hi=> ?_⟩;rw[mI,mI,h.len];rw[aw,eG]at hi;by_cases e:i<X.length
 ·rw[aj e,aj e];obtain⟨L2,h1,h2⟩:=h.g i e;exact⟨L2,h1.trans (ao _ _),h2⟩
 ·rw[ah e,ah e,aj oO,aj oO];exact⟨L,ap _ _,hg⟩
theorem RowsIn.row {w0 w:World} {P:List kV} (h:RowsIn enc T sz vs X D) (hS:St w0 w (P++D)) (hu:∀x,(enc x).length=sz) {i:Nat} (hi:i<X.length):Sl enc sz w (vs.getD i undef) (X.getD i []):=by
 obtain⟨L,h1,h2⟩:=h.g i hi;exact h2.sl (H:=[]) (hS.drop (h1.trans (ao _ _))) hu
theorem RowsIn.K0 {w0 w:World} {P Q LO:List kV} {TT:TypeId} (h:RowsIn enc T sz vs X D) (hG:Gl sU TT 1 v vs LO) (hS:St w0 w (P++D)) (hS2:St w0 w (Q++LO)) (hu:∀x,(enc x).length=sz):qE enc sz w v X vs:=
 ⟨h.len,hG.sl hS2 (λ_=>rfl),λ_ hi=>h.row hS hu hi⟩
end
def Vd:Ly×LV:=(XA,Ho)
def lH (Y:Nat->Ly) (x:Nat->Rat) (i c:Nat):Rat:=(sT (Y i) (x i) (Y i).pl.length).c c
def oJ (Y:Nat->Ly) (x:Nat->Rat) (i c:Nat):Rat:=(sa (Y i) (x i) (Y i).pl.length).c c
theorem CE (n:Nat) (cn:Nat->Nat) (f:Nat->Nat->Rat):tp (n+1) cn f=tp n cn f++[ku (cn n) λc=>j9 (f n c)]:=nZ _ _
theorem DS (v:Value) (h:v.oneCell'=true):∀u∈[v],u.oneCell'=true:=λu hu=>by rw[aQ.1 hu];exact h
theorem Xe {α:Type} (A B C:List α):((A++B)++C).Perm ((A++C)++B):=by
 rw[aF,aF];exact bU _ ay
theorem QH.N2 {w:World} {vR vP:Value} {y:Ly} {vs:List Value} {pv:List (Value×Value)} {lv:List (List Value)} (h:QH w vR vP y vs pv lv):∃aR nR cR aP nP cP,vR= .slice aR nR cR/\vP= .slice aP nP cP:=by
 obtain⟨aR,cR,h1,_⟩:=h.rk.sl.form;obtain⟨aP,cP,h2,_⟩:=h.pl.sl.form;exact⟨aR,_,cR,aP,_,cP,h1,h2⟩
theorem XF {α:Type} (A D L1 L2 Ld Ls:List α):(((((A++D)++L1)++L2)++Ld)++Ls).Perm (((A++(Ls++(Ld++D)))++L2)++L1):=by
 have e1:((((A++D)++L1)++L2)++Ld)++Ls=A++((D++(L1++L2))++(Ld++Ls)):=by simp only[aF]
 have e2:((A++(Ls++(Ld++D)))++L2)++L1=A++((Ls++Ld)++(D++(L2++L1))):=by simp only[aF]
 rw[e1,e2];refine bU A (List.perm_append_comm.trans (List.Perm.append ?_ (bU _ ?_)))<;>exact ay
theorem RV {bs:Nat} {vE vD vL vI:Value} {g:mT} {Y:Nat->Ly} {B:Nat->Nat->Bool} {ev:List (Value×Value)} {dv:List Value} {V:Nat->LV} {iv:List Value} (vx:Value) (x:Nat->Rat) (w:World) (hS0:Ex w bs vE vD vL vI g Y B ev dv V iv) (hx:Sl j6 3 w vx (ku g.n λi=>j9 (x i))) (hn:g.n<=1000) (hh:∀i,i<g.n->ID (Y i) (x i)):
  lW Tryz.prog 55 #[.pointer (some ⟨bs,0,none⟩),vx] w λr w'=>∃v1 v2 u1 u2,r= .agg #[v1,v2]/\qE j6 3 w' v1 (tp g.n g.cn (lH Y x)) u1/\qE j6 3 w' v2 (tp g.n g.cn (oJ Y x)) u2/\Below w.heap.size w w':=by
 have hS:=St.init w;have hlx:=ka g.n λi=>j9 (x i);have hly:=ka g.n λi=>(Y i,V i);obtain⟨n,hn'⟩:∃n,n=g.n:=⟨_,rfl⟩;refine enter Tryz.func55 rfl Tryz.ntmps55 rfl ?_;refine J1 ?_;intro b4 wz1 hS hBz1;refine J1 ?_;intro b5 wz2 hS hBz2;refine ja ?_;replace hS:St w _ [(b5,123,[ke,ke]),(b4,123,[ke,ke])]:=hS;refine J1 ?_;refine jp (mN rfl ?_);refine J1 ?_;refine jq (oL (v:=vL) (cs:=[vL]) rfl qK (hS0.j5 hS.j5).a2 rfl rfl (.inr rfl) (jp (kj rfl (hS0.la.j5 hS.j5) ⟨_,Tryz.underlying104⟩ ?_)));refine J1 ?_;refine jb ?_;rw[hly];refine kz (λρ w'=>ρ 4=pB b4/\ρ 5=pB b5/\∃v1 v2 u1 u2 L1 L2 D,Gl sU 34 1 v1 u1 L1/\Gl sU 34 1 v2 u2 L2/\RowsIn j6 32 3 u1 (tp g.n g.cn (lH Y x)) D/\RowsIn j6 32 3 u2 (tp g.n g.cn (oJ Y x)) D/\St w w' ((([(b5,123,[v1,v2]),(b4,123,[ke,ke])]++D)++L1)++L2)) ?_ ?_
 ·refine ja ?_;refine kx (σ:=Nat) (λi ρ w'=>i<=g.n/\ρ 0=pB bs/\ρ 1=vx/\ρ 4=pB b4/\ρ 5=pB b5/\ρ 15=vL/\ρ 16=iB g.n/\ρ 17=iB i/\∃v1 v2 u1 u2 L1 L2 D,Gl sU 34 1 v1 u1 L1/\Gl sU 34 1 v2 u2 L2/\RowsIn j6 32 3 u1 (tp i g.cn (lH Y x)) D/\RowsIn j6 32 3 u2 (tp i g.cn (oJ Y x)) D/\St w w' ((([(b5,123,[v1,v2]),(b4,123,[ke,ke])]++D)++L1)++L2)) (λi=>g.n-i) 0
   ⟨ax _,rfl,rfl,rfl,rfl,rfl,rfl,rfl,ke,ke,[],[],[],[],[],Gl.nil _ _ _,Gl.nil _ _ _,RowsIn.nil,RowsIn.nil,hS⟩ ?_
  clear hS;rintro i ρ w2 ⟨hi,h0,h1,h4,h5,h15,h16,h17,v1,v2,u1,u2,L1,L2,D,hG1,hG2,hR1,hR2,hS⟩;have hl1:=hR1.len;have hl2:=hR2.len;rw[nu]at hl1 hl2;refine V1 ?_;by_cases hlt:i<g.n
  ·refine V1 ?_;have hgy:(ku g.n λi=>(Y i,V i)).getD i Vd=(Y i,V i):=kw _ _ hlt;have hgx:(ku g.n λi=>j9 (x i)).getD i kP=j9 (x i):=kw _ _ hlt;have hyn:=hS0.yn i hlt;have hlm:=hS0.lm i hlt;obtain⟨y,hy⟩:=jz (Y i);obtain⟨q,hq⟩:=jz (V i);have hsl:=hh i hlt;obtain⟨aR,nR,cR,aP,nP,cP,hvR,hvP⟩:=hlm.N2;rw[<-hq]at hvR hvP;rw[<-hy]at hyn hsl;rw[<-hy,<-hq]at hgy hlm;rw[hvR,hvP]at hlm;refine J1 ?_;refine jp (kp (i:=i) h15 h17 (hS0.la.j5 hS.j5) oO dO Do (jq (ky (v:=NL y.n (.slice aR nR cR) (.slice aP nP cP) y.tot) (i:=i) Vd rfl oY (hS0.la.j5 hS.j5) oO rfl (by rw[hgy,<-hvR,<-hvP];rfl) (.inl rfl) ?_)));refine J1 ?_;intro b7 wz3 hS hBz3;refine J2 ?_;intro wz4 hS;refine ja ?_;replace hS:St w _ ((b7,112,pK y.n (.slice aR nR cR) (.slice aP nP cP) y.tot)::((([(b5,123,[v1,v2]),(b4,123,[ke,ke])]++D)++L1)++L2)):=hS;refine kz (λρ w'=>ρ 0=pB bs/\ρ 1=vx/\ρ 4=pB b4/\ρ 5=pB b5/\ρ 7=pB b7/\ρ 6=iB i/\ρ 15=vL/\ρ 16=iB g.n/\ρ 17=iB i/\∃vd Ld,ρ 8=vd/\Gl j6 32 3 vd (ku y.n λk=>j9 ((sT y (x i) y.pl.length).c k)) Ld/\St w w' (((b7,112,pK y.n (.slice aR nR cR) (.slice aP nP cP) y.tot)::((([(b5,123,[v1,v2]),(b4,123,[ke,ke])]++D)++L1)++L2))++Ld)) ?_ ?_
   ·refine ja ?_;refine xw 9 [ju 0,jo 1,jo 2,jo 3,ju 4,jv 5,jo 6,jo 7,jo 8,jo 10,jw 11] kR kR hS ?_;intro wz5 hS hBz5;refine qF kR rfl rfl (kX (k:=0) rfl oY hS rfl rfl rfl (.inl rfl) (mC kR rfl rfl (ks h1 (mC kR rfl rfl (ks rfl (mC kR rfl rfl (kp (i:=i) rfl rfl (hx.j5 hS.j5) oO dO kM (qF kR rfl rfl (ky (i:=i) kP rfl ki (hx.j5 hS.j5) dO rfl rfl (.inl rfl) ?_)))))))));rw[hgx];refine tF rfl rfl ?_ ?_
    ·refine J1 ?_;intro b9 wz6 hS hBz6;refine⟨hBz6,?_⟩;refine jn rfl (j7 Tryz.call48 rfl (yF _ _ y _ _ _ (x i) _ (hlm.j5 hS.j5) hsl.d) ?_);rintro rd w3 ⟨vd,Ld,rfl,hGd,hS3⟩;refine⟨hS3.j5,?_⟩;replace hS:=(hS.join hS3).perm ay;refine J5 ?_;intro wz7 hS;refine ja ?_;exact⟨_,rfl,jY,jY,jY,jY,rfl,rfl,jY,jY,jY,vd,Ld,rfl,hGd,hS.drop (ab _ _)⟩
    ·refine j7 Tryz.call48 rfl (yF _ _ y _ _ _ (x i) _ (hlm.j5 hS.j5) hsl.d) ?_;rintro rd w3 ⟨vd,Ld,rfl,hGd,hS3⟩;refine⟨hS3.j5,?_⟩;replace hS:=(hS.join hS3).perm ay;refine mC kR rfl rfl (ks rfl (mC kR rfl rfl (wA rfl rfl (mC kR rfl rfl (wA rfl rfl (AR kR ?_))))));refine J1 ?_;intro b9 wz8 hS hBz8;refine⟨hBz8,?_⟩;refine J2 ?_;intro wz9 hS;refine ja ?_;exact⟨_,rfl,jY,jY,jY,jY,rfl,rfl,jY,jY,jY,vd,Ld,rfl,hGd,hS.drop (ab _ _)⟩
   clear hS h0 h1 h4 h5 h15 h16 h17;rintro ρ w4 ⟨h0,h1,h4,h5,h7,h6,h15,h16,h17,vd,Ld,h8,hGd,hS⟩;refine ja ?_;refine kz (λρ w'=>ρ 0=pB bs/\ρ 1=vx/\ρ 4=pB b4/\ρ 5=pB b5/\ρ 7=pB b7/\ρ 6=iB i/\ρ 15=vL/\ρ 16=iB g.n/\ρ 17=iB i/\ρ 8=vd/\∃vs_ Ls,ρ 10=vs_/\Gl j6 32 3 vs_ (ku y.n λk=>j9 ((sa y (x i) y.pl.length).c k)) Ls/\St w w' ((((b7,112,pK y.n (.slice aR nR cR) (.slice aP nP cP) y.tot)::((([(b5,123,[v1,v2]),(b4,123,[ke,ke])]++D)++L1)++L2))++Ld)++Ls)) ?_ ?_
   ·refine ja ?_;refine xw 9 [ju 0,jo 1,jo 2,jo 3,ju 4,jv 5,jo 6,jo 7,jo 8,jo 10,jw 11] kR kR hS ?_;intro wz10 hS hBz10;refine qF kR rfl rfl (kX (k:=0) h7 oY hS rfl rfl rfl (.inl rfl) (mC kR rfl rfl (ks h1 (mC kR rfl rfl (ks h6 (mC kR rfl rfl (kp (i:=i) rfl rfl (hx.j5 hS.j5) oO dO kM (qF kR rfl rfl (ky (i:=i) kP rfl ki (hx.j5 hS.j5) dO rfl rfl (.inl rfl) ?_)))))))));rw[hgx];refine tF rfl rfl ?_ ?_
    ·refine J1 ?_;intro b11 wz11 hS hBz11;refine⟨hBz11,?_⟩;refine jn rfl (j7 Tryz.call92 rfl (AQ _ _ y _ _ _ (x i) _ (hlm.j5 hS.j5) hsl) ?_);rintro rd w3 ⟨vs_,Ls,rfl,hGs,hS3⟩;refine⟨hS3.j5,?_⟩;replace hS:=(hS.join hS3).perm ay;refine J5 ?_;intro wz12 hS;refine ja ?_;exact⟨_,rfl,jY,jY,jY,jY,jY,jY,jY,jY,jY,jY,vs_,Ls,rfl,hGs,hS.drop (ab _ _)⟩
    ·refine j7 Tryz.call92 rfl (AQ _ _ y _ _ _ (x i) _ (hlm.j5 hS.j5) hsl) ?_;rintro rd w3 ⟨vs_,Ls,rfl,hGs,hS3⟩;refine⟨hS3.j5,?_⟩;replace hS:=(hS.join hS3).perm ay;refine mC kR rfl rfl (ks rfl (mC kR rfl rfl (wA rfl rfl (mC kR rfl rfl (wA rfl rfl (AR kR ?_))))));refine J1 ?_;intro b11 wz13 hS hBz13;refine⟨hBz13,?_⟩;refine J2 ?_;intro wz14 hS;refine ja ?_;exact⟨_,rfl,jY,jY,jY,jY,jY,jY,jY,jY,jY,jY,vs_,Ls,rfl,hGs,hS.drop (ab _ _)⟩
   clear hS h0 h1 h4 h5 h6 h7 h8 h15 h16 h17;rintro ρ w5 ⟨h0,h1,h4,h5,h7,h6,h15,h16,h17,h8,vs_,Ls,h10,hGs,hS⟩;rw[hyn]at hGd hGs;have e1:(ku (g.cn i) λk=>j9 ((sT y (x i) y.pl.length).c k))=ku (g.cn i) λc=>j9 (lH Y x i c):=by unfold lH;rw[<-hy]
   have e2:(ku (g.cn i) λk=>j9 ((sa y (x i) y.pl.length).c k))=ku (g.cn i) λc=>j9 (oJ Y x i c):=by unfold oJ;rw[<-hy]
   rw[e1]at hGd;rw[e2]at hGs;obtain⟨ad,cd,hvd⟩:=hGd.len;obtain⟨az,cz,hvz⟩:=hGs.len;rw[ka]at hvd hvz;subst hvd hvz;replace hS:St w w5 ((([(b5,123,[v1,v2]),(b4,123,[ke,ke])]++(Ls++(Ld++D)))++L2)++L1):=(hS.drop (bk (bk (ab _ _) (bJ _)) (bJ _))).perm (XF _ _ _ _ _ _);refine J3 ?_;refine jh (mO (vs:=[_]) rfl lL rfl dD dD dD (by simp[Value.cells]) rfl hS ?_);intro b43 wz15 hS hBz15;refine jh (mz [_] rfl rfl lL dD hG1 hS rfl rfl (λ_=>rfl) (DS _ rfl) dL dL ?_);intro va16 La16 wa16 hG1 hS hga16;refine J1 ?_;refine jh (nW (k:=0) rfl rfl qb hS rfl (by simp) (by obtain⟨a,c,h⟩:=hG1.len;rw[h];rfl) ?_);intro wz17 hS;refine ja ?_;obtain⟨v1',hv1'⟩:∃v,v=va16:=⟨_,rfl⟩;rw[<-hv1']at hG1;replace hS:St w _ (((([(b5,123,[va16,v2]),(b4,123,[ke,ke])]++(Ls++(Ld++D)))++L2))++La16):=hS;rw[<-hv1']at hS;have hS':=hS.perm (Xe _ _ _);clear hS;have hS:=hS';clear hS';refine J3 ?_;refine jh (mO (vs:=[_]) rfl lL rfl dD dD dD (by simp[Value.cells]) rfl hS ?_);intro b49 wz18 hS hBz18;refine jh (mz [_] rfl rfl lL dD hG2 hS rfl rfl (λ_=>rfl) (DS _ rfl) dL dL ?_);intro va19 La19 wa19 hG2 hS hga19;refine J1 ?_;refine jh (nW (k:=0) rfl rfl qb hS rfl (by simp) (by obtain⟨a,c,h⟩:=hG2.len;rw[h];rfl) ?_);intro wz20 hS;refine V2 ?_;obtain⟨v2',hv2'⟩:∃v,v=va19:=⟨_,rfl⟩;rw[<-hv2']at hG2;replace hS:St w _ (((([(b5,123,[v1',va19]),(b4,123,[ke,ke])]++(Ls++(Ld++D)))++La16))++La19):=hS;rw[<-hv2']at hS;have hR1':=(hR1.snoc hGd).mono (ao Ls _);have hR2':=(hR2.mono (ao Ld D)).snoc hGs;rw[<-CE]at hR1' hR2';exact⟨i+1,_,rfl,⟨hlt,jY,jY,jY,jY,jY,jY,vi rfl oO,v1',v2',_,_,La16,La19,_,hG1,hG2,hR1',hR2',hS⟩,oO⟩
  ·refine J1 ?_;refine jt ?_;obtain rfl:g.n=i:=oO;exact⟨_,rfl,h4,h5,v1,v2,u1,u2,L1,L2,D,hG1,hG2,hR1,hR2,hS⟩
 clear hS;rintro ρ w2 ⟨h4,h5,v1,v2,u1,u2,L1,L2,D,hG1,hG2,hR1,hR2,hS⟩;obtain⟨a1,c1,hf1⟩:=hG1.len;obtain⟨a2,c2,hf2⟩:=hG2.len;subst hf1 hf2;refine J2 ?_;intro wz21 hS;refine ja ?_;replace hS:St w _ ((([(b5,123,[.slice a1 u1.length c1,.slice a2 u2.length c2]),(b4,123,[.slice a1 u1.length c1,.slice a2 u2.length c2])]++D)++L1)++L2):=hS;have hSa:=hS.drop (ap _ L2);have hSb:=hSa.drop (ap _ L1);refine jt ?_;refine mq (k:=1) rfl h4 t5 hS rfl rfl ?_;exact⟨_,_,u1,u2,rfl,hR1.K0 hG1 hSb hSa kt,hR2.K0 hG2 hSb hS kt,hS.j5⟩
abbrev JQ:Type:=Nat×Nat×Rat
def zt (T:List JQ):Mx:=T.foldl (λM o=>rA M o.1 o.2.1 o.2.2) (λ_ _=>0)
theorem CD (T:List JQ) (o:JQ):zt (T++[o])=rA (zt T) o.1 o.2.1 o.2.2:=by unfold zt;rw[ey];rfl
def Oe (n:Nat) (T:List JQ) (o:JQ):Prop:=o.1<n/\o.2.1<n/\L (zt T o.1 o.2.1)+L o.2.2<=MX
def XM (n:Nat) (T:List JQ):Prop:=∀P o,(P++[o])<+:T->Oe n P o
def mL {α:Type} (f:Nat->List α) (k:Nat):List α:=(List.range k).flatMap f
theorem oQ {α:Type} (f:Nat->List α) (k:Nat):mL f (k+1)=mL f k++f k:=by unfold mL;rw[iT,dk];simp
theorem Re {α:Type} (f:Nat->List α) {k m:Nat} (h:k<=m):mL f k<+:mL f m:=by
 induction m with
 |zero=>obtain rfl:k=0:=oO;exact gI _
 |succ m ih=>
  by_cases e:k=m+1
  ·rw[e];exact gI _
  ·rw[oQ];exact(ih oO).trans (jk _ _)
theorem zR {α:Type} (f:Nat->List α) {k m:Nat} (h:k<m) {p:List α} (hp:p<+:f k):mL f k++p<+:mL f m:=by
 have h1:mL f k++p<+:mL f (k+1):=by rw[oQ];exact(j3 _).2 hp
 exact h1.trans (Re f h)
section
variable (g : mT) (B : Nat → Nat → Bool) (dl sl : Nat → Nat → Rat)
def s9 (i c:Nat):List JQ:=if(g.c i c).h≠-1/\B i c=false then [((g.c i c).h.toNat,i,sl i c)]else []
def Bt (i:Nat):List JQ:=mL (s9 g B sl i) (g.cn i)
def qD (d j:Nat):Rat:=dl (g.lg d j).1 (g.lg d j).2
def rj (d i j:Nat):Rat:=if(g.lg d j).1=i then sl (g.lg d j).1 (g.lg d j).2 else 0
def xu (d i j:Nat):Rat:=Dz (g.d d).W (qD g dl d) (rj g sl d i) j
def lX (d:Nat):Nat:=(g.d d).legs.length
def x7 (d i j:Nat):List JQ:=[((g.lg d j).1,i,xu g dl sl d i j)]
def Ae (d i:Nat):List JQ:=if 0<lX g d/\Aa g d≠-1 then [((Aa g d).toNat,i,kg (rj g sl d i) (lX g d)-kg (xu g dl sl d i) (lX g d))]else []
def wG (d i:Nat):List JQ:=mL (x7 g dl sl d i) (lX g d)++Ae g dl sl d i
def D5 (d:Nat):List JQ:=mL (wG g dl sl d) g.n
def JE:List JQ:=mL (Bt g B sl) g.n++mL (D5 g dl sl) g.ds.length
def F4:Prop:=∀i,i<g.n->∀c,c<g.cn i->(g.c i c).h≠-1->∃a:Nat,a<g.n/\(g.c i c).h=a
structure W9 (K:Nat):Prop where
 gr:XM g.n (JE g B dl sl)
 W:∀d,d<g.ds.length->L (g.d d).W<=K
 q:∀d,d<g.ds.length->∀j,j<lX g d->L (qD g dl d j)<=K/\∀i,i<g.n->L (rj g sl d i j)<=K
 s:∀d,d<g.ds.length->∀j,j<=lX g d->L (oc (qD g dl d) j)<=K/\∀i,i<g.n->L (oc (rj g sl d i) j)<=K
 k:8*K+20<=MX
 so:∀d,d<g.ds.length->∀i,i<g.n->x5 (ku (lX g d) λj=>j9 (rj g sl d i j))+1<=MX/\x5 (ku (lX g d) λj=>j9 (xu g dl sl d i j))+1<=MX/\L (kg (rj g sl d i) (lX g d))+L (kg (xu g dl sl d i) (lX g d))<=MX
 ln:∀d,d<g.ds.length->lX g d<=1000
end
theorem Ch (f:Nat->Rat):∀n,xW ((ku n λk=>j9 (f k)).map toQ)=kg f n
 |0=>rfl
 |n+1=>by
  rw[nZ,bO,df,jO,EF,Ch f n,toQ_ofQ];rfl
theorem GE {α:Type} {enc:α->List Value} {e:TypeId} {size:Nat} {v:Value} {X:List α} {L P M:List kV} {w0 w:World} (hG:Gl enc e size v X L) (hs:L.Sublist P) (hS:St w0 w (P++M)) (hu:∀x,(enc x).length=size):Sl enc size w v X:=
 hG.sl (H:=[]) (hS.drop (hs.trans (ap _ _))) hu
theorem XJ {α:Type} (Lr P M Lo:List α):(Lr++((P++M)++Lo)).Perm ((P++(Lr++Lo))++M):=by
 have e1:Lr++((P++M)++Lo)=Lr++(P++(M++Lo)):=by simp only[aF]
 have e2:(P++(Lr++Lo))++M=P++(Lr++(Lo++M)):=by simp only[aF]
 rw[e1,e2];have h1:(Lr++(P++(M++Lo))).Perm (P++(Lr++(M++Lo))):=by
  rw[<-aF,<-aF P];exact bQ _ ay
 exact h1.trans (bU _ (bU _ ay))
def MD (q:Rat) (v1 v2:Value):Value:= .agg #[.bool (j9 q).neg,.string (j9 q).num,.string (j9 q).den,v1,v2]
theorem EE.form {w:World} {vE vD:Value} {g:mT} {ev:List (Value×Value)} {dv:List Value} (h:EE w vE vD g ev dv) {i:Nat} (hi:i<g.n):∃a1 c1 a2 l2 c2,ev.getD i pW=(.slice a1 (g.e i).cl.length c1,.slice a2 l2 c2):=by
 obtain⟨a1,c1,h1,_⟩:=(h.cl i hi).form;obtain⟨a2,l2,c2,h2⟩:=h.ag i hi;exact⟨a1,c1,a2,l2,c2,iG h1 h2⟩
theorem JY {bs:Nat} {vE vD vL vI v1 v2:Value} {g:mT} {Y:Nat->Ly} {B:Nat->Nat->Bool} {ev:List (Value×Value)} {dv u1 u2:List Value} {V:Nat->LV} {iv:List Value} (dl sl:Nat->Nat->Rat) (K:Nat) (w:World) (hS0:Ex w bs vE vD vL vI g Y B ev dv V iv) (hM1:qE j6 3 w v1 (tp g.n g.cn dl) u1) (hM2:qE j6 3 w v2 (tp g.n g.cn sl) u2) (hn:g.n<=1000) (hl:nV g) (hho:F4 g) (hK:W9 g B dl sl K):
  lW Tryz.prog 56 #[.pointer (some ⟨bs,0,none⟩),.agg #[v1,v2]] w λr w'=>∃bo R,r= .slice (some ⟨bo,0,none⟩) g.n g.n/\mx R g.n g.n (qM (zt (JE g B dl sl)))/\St w w' (mB j6 32 34 bo R []):=by
 have hS:=St.init w;have hly:=ka g.n λi=>(Y i,V i);have hle:=ka g.n λi=>((g.e i).cash,ev.getD i pW);have hld:=ka g.ds.length λk=>((g.d k).W,dv.getD k undef);have hu1:=hM1.len;have hu2:=hM2.len;rw[nu]at hu1 hu2;have hil:=hS0.il;refine enter Tryz.func56 rfl Tryz.ntmps56 rfl ?_;refine jr ?_;refine jh (lj (new:=[v1,v2]) rfl rfl hS ?_);intro b3 wz1 hS hBz1;refine V1 ?_;replace hS:St w _ [(b3,123,[v1,v2])]:=hS;refine J1 ?_;refine jp (mN rfl ?_);refine J1 ?_;refine jq (oL (v:=vL) (cs:=[vL]) rfl qK (hS0.j5 hS.j5).a2 rfl rfl (.inr rfl) (jp (kj rfl (hS0.la.j5 hS.j5) ⟨_,Tryz.underlying104⟩ ?_)));rw[hly];refine jh (j7 Tryz.call93 rfl (ER g.n _ hn) ?_);rintro rm w3 ⟨bo,R0,rfl,hR0,hS3⟩;replace hS:=(hS.join hS3).perm ay;refine J2 ?_;refine jp (mN rfl ?_);refine J2 ?_;refine jq (oL (v:=vE) (cs:=[vE]) rfl pu (hS0.j5 hS.j5).a0 rfl rfl (.inr rfl) (jp (kj rfl (hS0.gr.es.j5 hS.j5) ⟨_,Tryz.underlying26⟩ ?_)));refine J1 ?_;refine jb ?_;rw[hle];refine kz (λρ w'=>ρ 0=pB bs/\ρ 3=pB b3/\ρ 5= .slice (some ⟨bo,0,none⟩) g.n g.n/\∃R,mx R g.n g.n (qM (zt (mL (Bt g B sl) g.n)))/\St w w' ([(b3,123,[v1,v2])]++mB j6 32 34 bo R [])) ?_ ?_
 ·refine ja ?_;refine kx (σ:=Nat) (λi ρ w'=>i<=g.n/\ρ 0=pB bs/\ρ 3=pB b3/\ρ 5= .slice (some ⟨bo,0,none⟩) g.n g.n/\ρ 31=vE/\ρ 32=iB g.n/\ρ 33=iB i/\∃R,mx R g.n g.n (qM (zt (mL (Bt g B sl) i)))/\St w w' ([(b3,123,[v1,v2])]++mB j6 32 34 bo R [])) (λi=>g.n-i) 0
   ⟨ax _,rfl,rfl,rfl,rfl,rfl,rfl,R0,hR0,hS⟩ ?_
  clear hS hS3;rintro i ρ w2 ⟨hi,h0,h3,h5,h31,h32,h33,R,hR,hS⟩;refine V1 ?_;by_cases hlt:i<g.n
  ·refine V1 ?_;obtain⟨a1,c1,a2,l2,c2,hev⟩:=hS0.gr.form hlt;have hge:(ku g.n λi=>((g.e i).cash,ev.getD i pW)).getD i p9=((g.e i).cash,.slice a1 (g.e i).cl.length c1,.slice a2 l2 c2):=by rw[kw _ _ hlt,hev]
   have hcl:=hS0.gr.cl i hlt;rw[hev]at hcl;dsimp only at hcl;have hcm:=hcl.maxLen;refine J1 ?_;refine jp (kp (i:=i) h31 h33 (hS0.gr.es.j5 hS.j5) oO dO pw (jq (ky (v:=MD (g.e i).cash (.slice a1 (g.e i).cl.length c1) (.slice a2 l2 c2)) (i:=i) p9 rfl tq (hS0.gr.es.j5 hS.j5) oO rfl (by rw[hge];rfl) (.inl rfl) ?_)));refine J1 ?_;intro b7 wz2 hS hBz2;refine J2 ?_;intro wz3 hS;refine ja ?_;obtain⟨bE,hbE⟩:∃bE:kV,bE=(b7,51,kA ((g.e i).cash,.slice a1 (g.e i).cl.length c1,.slice a2 l2 c2)):=⟨_,rfl⟩;replace hS:St w _ ([(b7,51,kA ((g.e i).cash,.slice a1 (g.e i).cl.length c1,.slice a2 l2 c2)),(b3,123,[v1,v2])]++mB j6 32 34 bo R []):=hS;refine J2 ?_;refine jp (kj rfl (hcl.j5 hS.j5) ⟨_,Tryz.underlying48⟩ ?_);refine J1 ?_;refine jb ?_;obtain⟨T0,hT0⟩:=jz (mL (Bt g B sl) i);have hT1:mL (Bt g B sl) (i+1)=T0++mL (s9 g B sl i) (g.cn i):=by rw[oQ,hT0];rfl
   rw[<-hT0]at hR;have hpre:∀c,c<g.cn i->∀o,s9 g B sl i c=[o]->Oe g.n (T0++mL (s9 g B sl i) c) o:=by
    intro c hc o ho;refine hK.gr _ _ ?_;have h1:mL (s9 g B sl i) c++[o]<+:Bt g B sl i:=zR _ hc (by rw[ho];exact gI _);have h2:=zR (Bt g B sl) hlt h1;rw[aF,hT0];exact h2.trans (jk _ _)
   refine kz (λρ w'=>ρ 0=pB bs/\ρ 3=pB b3/\ρ 5= .slice (some ⟨bo,0,none⟩) g.n g.n/\ρ 31=vE/\ρ 32=iB g.n/\ρ 33=iB i/\∃R,mx R g.n g.n (qM (zt (T0++mL (s9 g B sl i) (g.cn i))))/\St w w' ([(b3,123,[v1,v2])]++mB j6 32 34 bo R [])) ?_ ?_
   ·refine ja ?_;refine kx (σ:=Nat) (λc ρ w'=>c<=g.cn i/\ρ 0=pB bs/\ρ 3=pB b3/\ρ 5= .slice (some ⟨bo,0,none⟩) g.n g.n/\ρ 6=iB i/\ρ 31=vE/\ρ 32=iB g.n/\ρ 33=iB i/\ρ 39= .slice a1 (g.e i).cl.length c1/\ρ 40=iB (g.cn i)/\ρ 41=iB c/\∃R,mx R g.n g.n (qM (zt (T0++mL (s9 g B sl i) c)))/\St w w' ([(b3,123,[v1,v2])]++mB j6 32 34 bo R [])) (λc=>g.cn i-c) 0
     ⟨ax _,jY,jY,jY,rfl,jY,jY,jY,rfl,rfl,rfl,R,by rw[show T0++mL (s9 g B sl i) 0=T0 from aK _];exact hR,hS.drop (ab _ _)⟩ ?_
    clear hS hR h0 h3 h5 h31 h32 h33;rintro c ρ w4 ⟨hc,h0,h3,h5,h6,h31,h32,h33,h39,h40,h41,R,hR,hS⟩;refine V1 ?_;by_cases hcl':c<g.cn i
    ·refine V1 ?_;have hir:=hS0.ir i hlt;have hbl:=ka (g.cn i) (B i);have hgb:(ku (g.cn i) (B i)).getD c false=B i c:=kw _ _ hcl';have hsucc:T0++mL (s9 g B sl i) (c+1)=T0++(mL (s9 g B sl i) c++s9 g B sl i c):=by rw[oQ]
     have hcc:c<(g.e i).cl.length:=hcl';obtain⟨k,hk⟩:=jz ((g.e i).cl.getD c o6);have hkc:g.c i c=k:=by rw[hk];rfl
     refine J1 ?_;refine jp (kp (i:=c) h39 h41 (hcl.j5 hS.j5) oO dO qv (jq (ky (i:=c) o6 rfl uh (hcl.j5 hS.j5) dO rfl rfl (.inl rfl) ?_)));refine J1 ?_;intro b9 wz4 hS hBz4;refine J2 ?_;intro wz5 hS;refine ja ?_;rw[<-hk]at hS;replace hS:St w _ ([(b9,53,lZ k),(b3,123,[v1,v2])]++mB j6 32 34 bo R []):=hS;by_cases hh1:k.h= -1
     ·have e0:s9 g B sl i c=[]:=by unfold s9;rw[hkc,ah (λq=>q.1 hh1)]
      refine J4 ?_;refine kN (kb 49 kR rfl (ae (by exact λq=>q hh1))) ?_;refine kN (kb 49 kR rfl (ae (by exact λq=>q hh1))) ?_;refine kN (kb 49 kR rfl (ae (by exact λq=>q hh1))) ?_;refine kN (kb 49 kR rfl (ae (by exact λq=>q hh1))) ?_;refine kN (kb 49 kR rfl (ae (by exact λq=>q hh1))) ?_;refine kN (kb 49 kR rfl (ae (by exact λq=>q hh1))) ?_;refine kN (kb 49 kR rfl (ae (by exact λq=>q hh1))) ?_;refine kN (kb 49 kR rfl (ae (by exact λq=>q hh1))) ?_;refine kN (kb 49 kR rfl (ae (by exact λq=>q hh1))) ?_;refine kN (kb 49 kR rfl (ae (by exact λq=>q hh1))) ?_;refine kN (kb 49 kR rfl (ae (by exact λq=>q hh1))) ?_;refine jp (kC (vb rfl (ae (by exact λq=>q hh1))) rfl ?_);refine ja ?_;refine lx rfl (rfl) ?_;refine V2 ?_;rw[e0,aK]at hsucc;rw[<-hsucc]at hR;exact⟨c+1,_,rfl,⟨hcl',jY,jY,jY,jY,jY,jY,jY,jY,jY,vi rfl oO,R,hR,hS.drop (ab _ _)⟩,oO⟩
     ·refine J4 ?_;refine kf (j8 49 kR rfl (ak hh1)) (ks h0 (kf (j8 49 kR rfl (ak hh1)) (mN rfl (kf (j8 49 kR rfl (ak hh1)) (lI rfl CK (lD (j8 49 kR rfl (ak hh1)) (oL (v:=vI) (cs:=[vI]) rfl uz (hS0.j5 hS.j5).a3 rfl rfl (.inr rfl) (kf (j8 49 kR rfl (ak hh1)) (ks h6 (kf (j8 49 kR rfl (ak hh1)) (kp (i:=i) rfl rfl (hS0.ii.j5 hS.j5) oO dO Gy (lD (j8 49 kR rfl (ak hh1)) (ky (i:=i) undef rfl xt (hS0.ii.j5 hS.j5) dO rfl rfl (.inr rfl) (kf (j8 49 kR rfl (ak hh1)) (ks rfl (kf (j8 49 kR rfl (ak hh1)) (kp (i:=c) rfl rfl (hir.j5 hS.j5) oO dO qa (lD (j8 49 kR rfl (ak hh1)) (ky (i:=c) false rfl qn (hir.j5 hS.j5) dO rfl rfl (.inr rfl) (kf (j8 49 kR rfl (ak hh1)) (x9 rfl (jp (kC (vb rfl (ak hh1)) rfl ?_)))))))))))))))))))))));refine ja ?_;cases hb:B i c with
      |true=>
       have e0:s9 g B sl i c=[]:=by unfold s9;rw[hkc,hb,ah (λq=>by cases q.2)]
       refine lx rfl ((bI not (hgb.trans hb))) ?_;refine V2 ?_;rw[e0,aK]at hsucc;rw[<-hsucc]at hR;exact⟨c+1,_,rfl,⟨hcl',jY,jY,jY,jY,jY,jY,jY,jY,jY,vi rfl oO,R,hR,hS.drop (ab _ _)⟩,oO⟩
      |false=>
       obtain⟨a,han,hha⟩:=hho i hlt c hcl' (by rw[hkc];exact hh1);rw[hkc]at hha;have e0:s9 g B sl i c=[(a,i,sl i c)]:=by unfold s9;rw[hkc,hb,aj ⟨hh1,rfl⟩,hha];rfl
       obtain⟨kh,kr,kq⟩:=k;dsimp only at hha;subst hha;have hLo:L (zt (T0++mL (s9 g B sl i) c) a i)+L (sl i c)<=MX:=(hpre c hcl' _ e0).2.2;have hgr:=λwz h=>Fe (w0:=w) (bo:=bo) (pre:=[(b9,53,lZ ⟨a,kr,kq⟩),(b3,123,[v1,v2])]) (H:=[]) g.n a i (sl i c) wz hR han hlt hLo h;have hrow:=hM2.row i (by rw[nu];exact hlt);rw[xO _ _ hlt]at hrow;have hrl:=ka (g.cn i) λc=>j9 (sl i c);have hg2:(ku (g.cn i) λc=>j9 (sl i c)).getD c kP=j9 (sl i c):=kw _ _ hcl';refine k9 rfl ((bI not (hgb.trans hb))) ?_;refine ja ?_;refine kE [jo 0,jo 1,ju 2,jo 3,jo 4,ju 5,jo 6,jo 7,ju 8,jo 9,jo 10,ju 11,jw 12] kR kR hS ?_;intro wz6 hS hBz6;refine J7 ?_;refine jl rfl (kp (i:=i) rfl rfl (hM2.sl.j5 hS.j5) oO dO lL (jm rfl (ky (i:=i) undef rfl lV (hM2.sl.j5 hS.j5) dO rfl rfl (.inr rfl) ?_)));refine J1 ?_;refine jl rfl (kp (i:=c) rfl rfl (hrow.j5 hS.j5) oO dO kM (jm rfl (ky (i:=c) kP rfl ki (hrow.j5 hS.j5) dO rfl rfl (.inl rfl) ?_)));rw[hg2];refine jx rfl (j7 Tryz.call94 rfl (hgr _ hS) ?_);rintro rg w6 ⟨rfl,R',hR',hS⟩;refine V2 ?_;have em:rA (zt (T0++mL (s9 g B sl i) c)) a i (sl i c)=zt (T0++mL (s9 g B sl i) (c+1)):=by
        rw[oQ,e0,<-aF,CD]
       rw[em]at hR';exact⟨c+1,_,rfl,⟨hcl',jY,jY,jY,jY,jY,jY,jY,jY,jY,vi rfl oO,R',hR',hS.drop (ab _ _)⟩,oO⟩
    ·refine J1 ?_;refine jt ?_;obtain rfl:c=g.cn i:=oO;exact⟨_,rfl,h0,h3,h5,h31,h32,h33,R,hR,hS⟩
   clear hS hR h0 h3 h5 h31 h32 h33;rintro ρ w4 ⟨h0,h3,h5,h31,h32,h33,R,hR,hS⟩;rw[<-hT1]at hR;refine V2 ?_;exact⟨i+1,_,rfl,⟨hlt,jY,jY,jY,jY,jY,vi rfl oO,R,hR,hS⟩,oO⟩
  ·refine J1 ?_;refine jt ?_;obtain rfl:i=g.n:=oO;exact⟨_,rfl,h0,h3,h5,R,hR,hS⟩
 clear hS hS3 hR0;rintro ρ w2 ⟨h0,h3,h5,R,hR,hS⟩;obtain⟨T0,hT0⟩:=jz (mL (Bt g B sl) g.n);have hTT:JE g B dl sl=T0++mL (D5 g dl sl) g.ds.length:=by rw[hT0];rfl
 rw[<-hT0]at hR;refine J1 ?_;refine jp (mN rfl ?_);refine J2 ?_;refine jq (oL (v:=vD) (cs:=[vD]) rfl rU (hS0.j5 hS.j5).a1 rfl rfl (.inr rfl) (jp (kj rfl (hS0.gr.ds.j5 hS.j5) ⟨_,Tryz.underlying27⟩ ?_)));refine J1 ?_;refine jb ?_;rw[hld];refine kz (λρ w'=>ρ 5= .slice (some ⟨bo,0,none⟩) g.n g.n/\∃R,mx R g.n g.n (qM (zt (JE g B dl sl)))/\St w w' ([(b3,123,[v1,v2])]++mB j6 32 34 bo R [])) ?_ ?_
 ·refine ja ?_;refine kx (σ:=Nat) (λd ρ w'=>d<=g.ds.length/\ρ 0=pB bs/\ρ 3=pB b3/\ρ 5= .slice (some ⟨bo,0,none⟩) g.n g.n/\ρ 81=vD/\ρ 82=iB g.ds.length/\ρ 83=iB d/\∃R,mx R g.n g.n (qM (zt (T0++mL (D5 g dl sl) d)))/\St w w' ([(b3,123,[v1,v2])]++mB j6 32 34 bo R [])) (λd=>g.ds.length-d) 0
   ⟨ax _,jY,jY,jY,rfl,rfl,rfl,R,by rw[show T0++mL (D5 g dl sl) 0=T0 from aK _];exact hR,hS⟩ ?_
  clear hS hR h0 h3 h5;rintro d ρ w2 ⟨hd,h0,h3,h5,h81,h82,h83,R,hR,hS⟩;have hdm:=hS0.gr.ds.maxLen;rw[hld]at hdm;refine V1 ?_;by_cases hlt:d<g.ds.length
  ·refine V1 ?_;have hlg:=hS0.gr.lg d hlt;obtain⟨al,cl,hvl,_⟩:=hlg.form;rw[hvl]at hlg;obtain⟨m,hm⟩:=jz (lX g d);have hm':(g.d d).legs.length=m:=hm.symm;rw[hm']at hvl hlg;have hmk:=hK.ln d hlt;rw[<-hm]at hmk;have hgd:(ku g.ds.length λk=>((g.d k).W,dv.getD k undef)).getD d Mj=((g.d d).W,.slice al m cl):=by rw[kw _ _ hlt,hvl]
   have hok:∀j,j<(g.d d).legs.length->((g.d d).legs.getD j (0,0)).1<g.n/\((g.d d).legs.getD j (0,0)).2<g.cn ((g.d d).legs.getD j (0,0)).1:=hl d hlt;have hhold:=λwz h=>λh0:0<(g.d d).legs.length=>Na d wz (hS0.j5 h) hlt h0 hl;rw[hvl]at hhold;refine jr ?_;refine jp (kp (i:=d) h81 h83 (hS0.gr.ds.j5 hS.j5) oO dO rV (jq (ky (v:=NN (g.d d).W (.slice al m cl)) (i:=d) Mj rfl rW (hS0.gr.ds.j5 hS.j5) oO rfl (by rw[hgd];rfl) (.inl rfl) ?_)));refine J1 ?_;intro b11 wz7 hS hBz7;refine J1 ?_;intro wz8 hS;refine ja ?_;obtain⟨bD,hbD⟩:=jz (lz ((g.d d).W,.slice al m cl));replace hS:St w _ ([(b11,64,lz ((g.d d).W,.slice al m cl)),(b3,123,[v1,v2])]++mB j6 32 34 bo R []):=hS;refine ja ?_;refine kE [ju 0,jo 1,ju 2,ju 4,jo 5,ju 6,jv 3,jv 7,jo 8,jo 9] kR kR hS ?_;intro wz9 hS hBz9;refine J6 ?_;refine jn rfl (j7 Tryz.call54 rfl (FA (.slice al m cl) v1 u1 (g.d d).W (g.d d).legs g.n g.cn dl _ (hlg.j5 hS.j5) (hM1.j5 hS.j5) hok oO) ?_);rintro rq w5 ⟨Lq,hGq,hS5⟩;refine⟨hS5.j5,?_⟩;replace hS:=(hS.join hS5).perm ay;refine jn rfl (j7 Tryz.call54 rfl (FA (.slice al m cl) v2 u2 (g.d d).W (g.d d).legs g.n g.cn sl _ (hlg.j5 hS.j5) (hM2.j5 hS.j5) hok oO) ?_);rintro rs w6 ⟨Ls,hGs,hS6⟩;refine⟨hS6.j5,?_⟩;replace hS:=(hS.join hS6).perm ay;refine V2 ?_;rw[hm']at hGq hGs;have eq:(ku m λj=>j9 (dl ((g.d d).legs.getD j (0,0)).1 ((g.d d).legs.getD j (0,0)).2))=ku m λj=>j9 (qD g dl d j):=rfl;rw[eq]at hGq;clear eq;obtain⟨sd,hsd⟩:∃sd:Nat->Rat,sd=λj=>sl (g.lg d j).1 (g.lg d j).2:=⟨_,rfl⟩;have es:(ku m λj=>j9 (sl ((g.d d).legs.getD j (0,0)).1 ((g.d d).legs.getD j (0,0)).2))=ku m λj=>j9 (sd j):=by rw[hsd];rfl
   rw[es]at hGs;clear es;obtain⟨aq,cq,hvq⟩:=hGq.len;obtain⟨az,cz,hvz⟩:=hGs.len;rw[ka]at hvq hvz;subst hvq hvz;obtain⟨T1,hT1⟩:=jz (T0++mL (D5 g dl sl) d);have hT1':T0++mL (D5 g dl sl) (d+1)=T1++mL (wG g dl sl d) g.n:=by rw[oQ,hT1,aF];rfl
   rw[<-hT1]at hR;have hpre:∀i,i<g.n->∀P o,(P++[o])<+:wG g dl sl d i->Oe g.n ((T1++mL (wG g dl sl d) i)++P) o:=by
    intro i hi P o ho;refine hK.gr _ _ ?_;have h2:=zR (wG g dl sl d) hi ho;have h3:=zR (D5 g dl sl) hlt h2;rw[hTT,hT1];simp only[aF]at h3⊢;exact(j3 _).2 h3
   rw[aF]at hS;replace hS:St w _ (([(b11,64,lz ((g.d d).W,.slice al m cl)),(b3,123,[v1,v2])]++(Lq++Ls))++mB j6 32 34 bo R []):=hS.perm (Xe _ _ _);have hqs:∀wx Z,St w wx (([(b11,64,lz ((g.d d).W,.slice al m cl)),(b3,123,[v1,v2])]++(Lq++Ls))++Z)->Sl j6 3 wx (.slice aq m cq) (ku m λj=>j9 (qD g dl d j))/\Sl j6 3 wx (.slice az m cz) (ku m λj=>j9 (sd j)):=λwx Z h=>⟨GE hGq ((ap Lq Ls).trans (ao _ _)) h kt,GE hGs ((ao Lq Ls).trans (ao _ _)) h kt⟩;obtain⟨LL,hLL⟩:=jz (Lq++Ls);rw[<-hLL]at hS hqs;have htz:=ka m λj=>j9 (sd j);clear hGq hGs hS5 hS6;refine J1 ?_;refine jp (mN rfl ?_);refine J1 ?_;refine jq (oL (v:=vL) (cs:=[vL]) rfl qK (hS0.j5 hS.j5).a2 rfl rfl (.inr rfl) (jp (kj rfl (hS0.la.j5 hS.j5) ⟨_,Tryz.underlying104⟩ ?_)));refine J1 ?_;refine jb ?_;rw[hly];refine kz (λρ w'=>ρ 0=pB bs/\ρ 3=pB b3/\ρ 5= .slice (some ⟨bo,0,none⟩) g.n g.n/\ρ 81=vD/\ρ 82=iB g.ds.length/\ρ 83=iB d/\∃R,mx R g.n g.n (qM (zt (T1++mL (wG g dl sl d) g.n)))/\St w w' ([(b3,123,[v1,v2])]++mB j6 32 34 bo R [])) ?_ ?_
   ·refine ja ?_;refine kx (σ:=Nat) (λi ρ w'=>i<=g.n/\ρ 0=pB bs/\ρ 3=pB b3/\ρ 5= .slice (some ⟨bo,0,none⟩) g.n g.n/\ρ 11=pB b11/\ρ 12= .slice aq m cq/\ρ 13= .slice az m cz/\ρ 81=vD/\ρ 82=iB g.ds.length/\ρ 83=iB d/\ρ 99=iB g.n/\ρ 100=iB i/\
      ∃R,mx R g.n g.n (qM (zt (T1++mL (wG g dl sl d) i)))/\St w w' (([(b11,64,lz ((g.d d).W,.slice al m cl)),(b3,123,[v1,v2])]++LL)++mB j6 32 34 bo R [])) (λi=>g.n-i) 0
     ⟨ax _,jY,jY,jY,rfl,rfl,rfl,jY,jY,jY,rfl,rfl,R,by rw[show T1++mL (wG g dl sl d) 0=T1 from aK _];exact hR,hS⟩ ?_
    clear hS hR h0 h3 h5 h81 h82 h83;rintro i ρ w4 ⟨hi,h0,h3,h5,h11,h12,h13,h81,h82,h83,h99,h100,R,hR,hS⟩;refine V1 ?_;by_cases hil:i<g.n
    ·refine J5 ?_;refine jh (lU (enc:=j6) (n:=m) kP rfl rfl kM rfl oO oO oO oO hS ?_);intro b105 wz10 hS hBz10;refine V1 ?_;have hS':=hS.perm (ew _ _).symm;rw[lE]at hS';clear hS;have hS:=hS';clear hS';have hG:Gl j6 32 3 (.slice (some ⟨b105,0,none⟩) m m) (ku m λk=>j9 (ww (rj g sl d i) 0 k)) [(b105,32,(ku m λk=>j9 (ww (rj g sl d i) 0 k)).flatMap j6)]:=pN (ka _ _) oO;refine J2 ?_;refine jp (kj rfl (hlg.j5 hS.j5) ⟨_,Tryz.underlying62⟩ ?_);refine J1 ?_;refine jb ?_;rw[hm'];refine kz (λρ w'=>ρ 0=pB bs/\ρ 3=pB b3/\ρ 5= .slice (some ⟨bo,0,none⟩) g.n g.n/\ρ 11=pB b11/\ρ 12= .slice aq m cq/\ρ 13= .slice az m cz/\ρ 14=iB i/\ρ 15= .slice (some ⟨b105,0,none⟩) m m/\ρ 81=vD/\ρ 82=iB g.ds.length/\ρ 83=iB d/\ρ 99=iB g.n/\ρ 100=iB i/\
       ∃Lo,Gl j6 32 3 (.slice (some ⟨b105,0,none⟩) m m) (ku m λk=>j9 (rj g sl d i k)) Lo/\St w w' ((([(b11,64,lz ((g.d d).W,.slice al m cl)),(b3,123,[v1,v2])]++LL)++mB j6 32 34 bo R [])++Lo)) ?_ ?_
     ·refine ja ?_;refine kx (σ:=Nat) (λk ρ w'=>k<=m/\ρ 0=pB bs/\ρ 3=pB b3/\ρ 5= .slice (some ⟨bo,0,none⟩) g.n g.n/\ρ 11=pB b11/\ρ 12= .slice aq m cq/\ρ 13= .slice az m cz/\ρ 14=iB i/\ρ 15= .slice (some ⟨b105,0,none⟩) m m/\ρ 81=vD/\ρ 82=iB g.ds.length/\ρ 83=iB d/\ρ 99=iB g.n/\ρ 100=iB i/\ρ 107= .slice al m cl/\ρ 108=iB m/\ρ 109=iB k/\
        ∃Lo,Gl j6 32 3 (.slice (some ⟨b105,0,none⟩) m m) (ku m λj=>j9 (ww (rj g sl d i) k j)) Lo/\St w w' ((([(b11,64,lz ((g.d d).W,.slice al m cl)),(b3,123,[v1,v2])]++LL)++mB j6 32 34 bo R [])++Lo)) (λk=>m-k) 0
       ⟨ax _,jY,jY,jY,jY,jY,jY,rfl,rfl,jY,jY,jY,jY,jY,rfl,rfl,rfl,_,hG,hS⟩ ?_
      clear hS hG h0 h3 h5 h11 h12 h13 h81 h82 h83 h99 h100;rintro k ρ w5 ⟨hk,h0,h3,h5,h11,h12,h13,h14,h15,h81,h82,h83,h99,h100,h107,h108,h109,Lo,hG,hS⟩;have htl:=ka m λj=>j9 (ww (rj g sl d i) k j);refine V1 ?_;by_cases hkl:k<m
      ·refine V1 ?_;obtain⟨p,hp⟩:=jz ((g.d d).legs.getD k (0,0));have hpl:g.lg d k=p:=by rw[hp];rfl
       have hgs:(ku m λj=>j9 (sd j)).getD k kP=j9 (sd k):=kw _ _ hkl;refine J1 ?_;refine jp (kp (i:=k) h107 h109 (hlg.j5 hS.j5) oO dO pU (jq (ky (i:=k) (0,0) rfl qq (hlg.j5 hS.j5) dO rfl rfl (.inl rfl) ?_)));refine J1 ?_;intro b17 wz11 hS hBz11;refine J2 ?_;intro wz12 hS;refine ja ?_;rw[<-hp]at hS;replace hS:St w _ (((b17,66,m9 p)::(([(b11,64,lz ((g.d d).W,.slice al m cl)),(b3,123,[v1,v2])]++LL)++mB j6 32 34 bo R []))++Lo):=hS;have hzs:∀wx,St w wx (((b17,66,m9 p)::(([(b11,64,lz ((g.d d).W,.slice al m cl)),(b3,123,[v1,v2])]++LL)++mB j6 32 34 bo R []))++Lo)->Sl j6 3 wx (.slice az m cz) (ku m λj=>j9 (sd j)):=λwx h=>(hqs wx _ ((h.drop (ap _ Lo)).drop (ab _ _))).2;refine V4 ?_;by_cases hpi:p.1=i
       ·refine V1 ?_;have how:rj g sl d i k=sd k:=by unfold rj;rw[hpl,aj hpi,hsd];dsimp only;rw[hpl]
        refine J4 ?_;refine jp (kp (i:=k) rfl rfl (hzs _ hS) oO dO kM (jq (ky (i:=k) kP rfl ki (hzs _ hS) dO rfl rfl (.inl rfl) (jp (kp (i:=k) rfl rfl (hG.sl hS kt) oO dO kM (jh (tX (i:=k) (j9 (rj g sl d i k)) kt rfl rfl ki hG hS oO (by rw[hgs,how];rfl) rfl ?_)))))));intro wz13 hS;refine ja ?_;obtain⟨LC2,hG,hS⟩:=hS;rw[vH]at hG;refine V2 ?_;exact⟨k+1,_,rfl,⟨hkl,jY,jY,jY,jY,jY,jY,jY,jY,jY,jY,jY,jY,jY,jY,jY,vi rfl oO,_,hG,hS.drop (ab _ _)⟩,oO⟩
       ·refine V1 ?_;have how:rj g sl d i k=0:=by unfold rj;rw[hpl,ah hpi]
        have e2:(ku m λj=>j9 (ww (rj g sl d i) k j))=ku m λj=>j9 (ww (rj g sl d i) (k+1) j):=kB λj _=>by
         unfold ww;by_cases q1:j=k
         ·rw[q1,ah oO,aj oO,how]
         ·by_cases q2:j<k
          ·rw[aj q2,aj oO]
          ·rw[ah q2,ah oO]
        rw[e2]at hG;refine V2 ?_;exact⟨k+1,_,rfl,⟨hkl,jY,jY,jY,jY,jY,jY,jY,jY,jY,jY,jY,jY,jY,jY,jY,vi rfl oO,_,hG,hS.drop (ab _ _)⟩,oO⟩
      ·refine J1 ?_;refine jt ?_;obtain rfl:m=k:=oO;rw[vh]at hG;exact⟨_,rfl,h0,h3,h5,h11,h12,h13,h14,h15,h81,h82,h83,h99,h100,Lo,hG,hS⟩
     clear hS hG h0 h3 h5 h11 h12 h13 h81 h82 h83 h99 h100;rintro ρ w5 ⟨h0,h3,h5,h11,h12,h13,h14,h15,h81,h82,h83,h99,h100,Lo,hG,hS⟩;have hW:=hK.W d hlt;have hsub:=λwx (h:St w wx ((([(b11,64,lz ((g.d d).W,.slice al m cl)),(b3,123,[v1,v2])]++LL)++mB j6 32 34 bo R [])++Lo))=>(hqs wx _ (h.drop (ap _ Lo))).1;refine J4 ?_;refine jh (j7 Tryz.call95 rfl (Qb (.slice aq m cq) (.slice (some ⟨b105,0,none⟩) m m) m (g.d d).W (qD g dl d) (rj g sl d i) K _ (hsub _ hS) (hG.sl hS kt) hmk hW (λj hj=>⟨(hK.q d hlt j oO).1,(hK.q d hlt j oO).2 i hil⟩) (λj hj=>⟨(hK.s d hlt j oO).1,(hK.s d hlt j oO).2 i hil⟩) hK.k) ?_);rintro rr w8 ⟨Lr,hGr,hS8⟩;replace hS:=(hS.join hS8).perm (XJ Lr _ _ Lo);have er:(ku m λj=>j9 (Dz (g.d d).W (qD g dl d) (rj g sl d i) j))=ku m λj=>j9 (xu g dl sl d i j):=rfl;rw[er]at hGr;clear er;obtain⟨ar,cr,hvr⟩:=hGr.len;rw[ka]at hvr;subst hvr;have hrt:∀wx Z,St w wx (([(b11,64,lz ((g.d d).W,.slice al m cl)),(b3,123,[v1,v2])]++LL)++(Lr++Lo)++Z)->Sl j6 3 wx (.slice ar m cr) (ku m λj=>j9 (xu g dl sl d i j))/\Sl j6 3 wx (.slice (some ⟨b105,0,none⟩) m m) (ku m λj=>j9 (rj g sl d i j)):=λwx Z h=>⟨GE hGr ((ap Lr Lo).trans (ao _ _)) h kt,GE hG ((ao Lr Lo).trans (ao _ _)) h kt⟩;obtain⟨LR,hLR⟩:=jz (Lr++Lo);rw[<-hLR]at hS hrt;clear hGr hG hS8 hsub;have hrtl:=ka m λj=>j9 (xu g dl sl d i j);have howl:=ka m λj=>j9 (rj g sl d i j);refine J4 ?_;refine jb ?_;obtain⟨T2,hT2⟩:=jz (T1++mL (wG g dl sl d) i);have hdi:wG g dl sl d i=mL (x7 g dl sl d i) m++Ae g dl sl d i:=by rw[hm];rfl
     have hT2':T1++mL (wG g dl sl d) (i+1)=T2++(mL (x7 g dl sl d i) m++Ae g dl sl d i):=by rw[oQ,hT2,aF,hdi]
     have hpre2:=hpre i hil;rw[<-hT2]at hR hpre2;refine kz (λρ w'=>ρ 0=pB bs/\ρ 3=pB b3/\ρ 5= .slice (some ⟨bo,0,none⟩) g.n g.n/\ρ 11=pB b11/\ρ 12= .slice aq m cq/\ρ 13= .slice az m cz/\ρ 14=iB i/\ρ 15= .slice (some ⟨b105,0,none⟩) m m/\ρ 18= .slice ar m cr/\ρ 81=vD/\ρ 82=iB g.ds.length/\ρ 83=iB d/\ρ 99=iB g.n/\ρ 100=iB i/\∃R,mx R g.n g.n (qM (zt (T2++mL (x7 g dl sl d i) m)))/\St w w' ((([(b11,64,lz ((g.d d).W,.slice al m cl)),(b3,123,[v1,v2])]++LL)++LR)++mB j6 32 34 bo R [])) ?_ ?_
     ·refine ja ?_;refine kx (σ:=Nat) (λk ρ w'=>k<=m/\ρ 0=pB bs/\ρ 3=pB b3/\ρ 5= .slice (some ⟨bo,0,none⟩) g.n g.n/\ρ 11=pB b11/\ρ 12= .slice aq m cq/\ρ 13= .slice az m cz/\ρ 14=iB i/\ρ 15= .slice (some ⟨b105,0,none⟩) m m/\ρ 18= .slice ar m cr/\ρ 81=vD/\ρ 82=iB g.ds.length/\ρ 83=iB d/\ρ 99=iB g.n/\ρ 100=iB i/\ρ 131= .slice ar m cr/\ρ 132=iB m/\ρ 133=iB k/\∃R,mx R g.n g.n (qM (zt (T2++mL (x7 g dl sl d i) k)))/\St w w' ((([(b11,64,lz ((g.d d).W,.slice al m cl)),(b3,123,[v1,v2])]++LL)++LR)++mB j6 32 34 bo R [])) (λk=>m-k) 0
       ⟨ax _,jY,jY,jY,jY,jY,jY,jY,jY,rfl,jY,jY,jY,jY,jY,rfl,rfl,rfl,R,by rw[show T2++mL (x7 g dl sl d i) 0=T2 from aK _];exact hR,hS⟩ ?_
      clear hS hR h0 h3 h5 h11 h12 h13 h14 h15 h81 h82 h83 h99 h100;rintro k ρ w9 ⟨hk,h0,h3,h5,h11,h12,h13,h14,h15,h18,h81,h82,h83,h99,h100,h131,h132,h133,R,hR,hS⟩;refine V1 ?_;by_cases hkl:k<m
      ·refine V1 ?_;have hgr:(ku m λj=>j9 (xu g dl sl d i j)).getD k kP=j9 (xu g dl sl d i k):=kw _ _ hkl;have e0:x7 g dl sl d i k=[((g.lg d k).1,i,xu g dl sl d i k)]:=rfl;have hin:=hpre2 (mL (x7 g dl sl d i) k) ((g.lg d k).1,i,xu g dl sl d i k) (by rw[hdi];exact(zR (x7 g dl sl d i) hkl (by rw[e0];exact gI _)).trans (jk _ _));have hLo:L (zt (T2++mL (x7 g dl sl d i) k) (g.lg d k).1 i)+L (xu g dl sl d i k)<=MX:=hin.2.2;have hle1:(g.lg d k).1<g.n:=(hl d hlt k oO).1;refine J1 ?_;refine jp (kp (i:=k) h131 h133 (hrt _ _ hS).1 oO dO kM (jq (ky (i:=k) kP rfl ki (hrt _ _ hS).1 dO rfl rfl (.inl rfl) ?_)));refine J1 ?_;intro b20 wz14 hS hBz14;refine J2 ?_;intro wz15 hS;refine ja ?_;rw[hgr]at hS;replace hS:St w _ (((b20,32,j6 (j9 (xu g dl sl d i k)))::(([(b11,64,lz ((g.d d).W,.slice al m cl)),(b3,123,[v1,v2])]++LL)++LR))++mB j6 32 34 bo R []):=hS;have hgg:=λwz h=>Fe (w0:=w) (bo:=bo) (pre:=((b20,32,j6 (j9 (xu g dl sl d i k)))::(([(b11,64,lz ((g.d d).W,.slice al m cl)),(b3,123,[v1,v2])]++LL)++LR))) (H:=[]) g.n (g.lg d k).1 i (xu g dl sl d i k) wz hR hle1 hil hLo h;refine ja ?_;refine kE [jo 0,jo 1,ju 2,jo 3,jo 4,jo 5,ju 6,jo 7,ju 8,jw 9] kR kR hS ?_;intro wz16 hS hBz16;refine J4 ?_;refine jl rfl (kp (i:=k) rfl rfl (hlg.j5 hS.j5) oO dO pU ?_);refine jl rfl (oG rfl (nc (hlg.j5 hS.j5) (λ_=>rfl) dD dO) vV ?_);refine jm rfl (oE (i:=k) (off:=0) (0,0) rfl ni (hlg.j5 hS.j5) (λ_=>rfl) dD dO rfl rfl (.inr rfl) ?_);refine J2 ?_;refine jx rfl (j7 Tryz.call94 rfl (hgg _ hS) ?_);rintro rg w10 ⟨rfl,R',hR',hS⟩;refine V2 ?_;have em:rA (zt (T2++mL (x7 g dl sl d i) k)) (g.lg d k).1 i (xu g dl sl d i k)=zt (T2++mL (x7 g dl sl d i) (k+1)):=by
        rw[oQ,e0,<-aF,CD]
       rw[em]at hR';exact⟨k+1,_,rfl,⟨hkl,jY,jY,jY,jY,jY,jY,jY,jY,jY,jY,jY,jY,jY,jY,jY,jY,vi rfl oO,R',hR',hS.drop (ab _ _)⟩,oO⟩
      ·refine J1 ?_;refine jt ?_;obtain rfl:m=k:=oO;exact⟨_,rfl,h0,h3,h5,h11,h12,h13,h14,h15,h18,h81,h82,h83,h99,h100,R,hR,hS⟩
     clear hS hR h0 h3 h5 h11 h12 h13 h14 h15 h81 h82 h83 h99 h100;rintro ρ w9 ⟨h0,h3,h5,h11,h12,h13,h14,h15,h18,h81,h82,h83,h99,h100,R,hR,hS⟩;refine ja ?_;have hRno:Ae g dl sl d i=[]->mx R g.n g.n (qM (zt (T1++mL (wG g dl sl d) (i+1)))):=λe=>by rw[hT2',e,aK];exact hR
     by_cases hm0:0<m
     ·refine J2 ?_;refine jp (kj rfl (hlg.j5 hS.j5) ⟨_,Tryz.underlying62⟩ ?_);refine J2 ?_;refine kf (j8 153 kR rfl dT) (ks h0 (lD (j8 153 kR rfl dT) (kX (k:=0) h11 rW hS rfl rfl rfl (.inl rfl) (oS (j8 153 kR rfl dT) (j7 Tryz.call96 rfl (hhold _ hS.j5 oO) ?_)))));rintro rh w10 ⟨rfl,hB10⟩;replace hS:=hS.ko hB10;obtain⟨e1,e2⟩:=hl d hlt 0 oO;by_cases hz:Aa g d= -1
      ·refine kf (j8 153 kR rfl dT) (My rfl rfl (jp (kC (vb rfl dT) rfl ?_)));refine ja ?_;refine lx rfl (ae (λq=>q hz)) ?_;refine V2 ?_;have hR':=hRno (by unfold Ae;rw[ah (λq=>q.2 hz)]);exact⟨i+1,_,rfl,⟨hil,jY,jY,jY,jY,jY,jY,jY,jY,jY,jY,vi rfl oO,R,hR',hS.drop (bk (ap _ LR) (bJ _))⟩,oO⟩
      ·obtain⟨a,han,hha⟩:=hho (g.lg d 0).1 e1 (g.lg d 0).2 e2 hz;replace hha:Aa g d=a:=hha;refine kf (j8 153 kR rfl dT) (My rfl rfl (jp (kC (vb rfl dT) rfl ?_)));refine ja ?_;refine k9 rfl (ak hz) ?_;refine ja ?_;obtain⟨s1,s2,s3⟩:=hK.so d hlt i hil;rw[<-hm]at s1 s2 s3;obtain⟨z,hzd⟩:=jz (kg (rj g sl d i) m-kg (xu g dl sl d i) m);have e0:Ae g dl sl d i=[(a,i,z)]:=by unfold Ae;rw[<-hm,aj ⟨hm0,hz⟩,hha,hzd];rfl
       have hin:=hpre2 (mL (x7 g dl sl d i) m) (a,i,z) (by rw[hdi,e0];exact gI _);have hLo:L (zt (T2++mL (x7 g dl sl d i) m) a i)+L z<=MX:=hin.2.2;have hsb:=λw=>mD (j9 (kg (rj g sl d i) m)) (j9 (kg (xu g dl sl d i) m)) w (by rw[Lr_ofQ,Lr_ofQ];exact s3);rw[toQ_ofQ,toQ_ofQ,<-hzd]at hsb;have hgg:=λwz h=>Fe (w0:=w) (bo:=bo) (pre:=(([(b11,64,lz ((g.d d).W,.slice al m cl)),(b3,123,[v1,v2])]++LL)++LR)) (H:=[]) g.n a i z wz hR han hil hLo h;refine J3 ?_;refine jh (j7 Tryz.call96 rfl (hhold _ hS.j5 oO) ?_);rintro rh2 w11 ⟨rfl,hB11⟩;rw[hha];replace hS:=hS.ko hB11;refine J2 ?_;refine jh (j7 Tryz.call97 rfl (Mh _ _ _ (hrt _ _ hS).2 s1) ?_);rintro ro w12 ⟨rfl,hB12⟩;rw[Ch];replace hS:=hS.ko hB12;refine J1 ?_;refine jh (j7 Tryz.call97 rfl (Mh _ _ _ (hrt _ _ hS).1 s2) ?_);rintro rp w13 ⟨rfl,hB13⟩;rw[Ch];replace hS:=hS.ko hB13;refine jh (j7 Tryz.call16 rfl (hsb _) ?_);rintro rp2 w14 ⟨rfl,hB14⟩;replace hS:=hS.ko hB14;refine jh (j7 Tryz.call94 rfl (hgg _ hS) ?_);rintro rg w15 ⟨rfl,R',hR',hS⟩;refine V2 ?_;have em:rA (zt (T2++mL (x7 g dl sl d i) m)) a i z=zt (T1++mL (wG g dl sl d) (i+1)):=by
        rw[hT2',e0,<-aF,CD]
       rw[em]at hR';exact⟨i+1,_,rfl,⟨hil,jY,jY,jY,jY,jY,jY,jY,jY,jY,jY,vi rfl oO,R',hR',hS.drop (bk (ap _ LR) (bJ _))⟩,oO⟩
     ·refine J2 ?_;refine jp (kj rfl (hlg.j5 hS.j5) ⟨_,Tryz.underlying62⟩ ?_);refine J2 ?_;refine kN (kb 153 kR rfl dF) (kN (kb 153 kR rfl dF) (kN (kb 153 kR rfl dF) (kN (kb 153 kR rfl dF) (jp (kC (vb rfl dF) rfl ?_)))));refine ja ?_;refine lx rfl (rfl) ?_;refine V2 ?_;have hR':=hRno (by unfold Ae;rw[<-hm,ah (λq=>hm0 q.1)]);exact⟨i+1,_,rfl,⟨hil,jY,jY,jY,jY,jY,jY,jY,jY,jY,jY,vi rfl oO,R,hR',hS.drop (bk (ap _ LR) (bJ _))⟩,oO⟩
    ·refine J1 ?_;refine jt ?_;obtain rfl:i=g.n:=oO;exact⟨_,rfl,h0,h3,h5,h81,h82,h83,R,hR,hS.drop (bk ((ab _ _).trans (ap _ LL)) (bJ _))⟩
   clear hS hR h0 h3 h5 h81 h82 h83;rintro ρ w4 ⟨h0,h3,h5,h81,h82,h83,R,hR,hS⟩;rw[<-hT1']at hR;refine V2 ?_;exact⟨d+1,_,rfl,⟨hlt,jY,jY,jY,jY,jY,vi rfl oO,R,hR,hS⟩,oO⟩
  ·refine J1 ?_;refine jt ?_;obtain rfl:d=g.ds.length:=oO;rw[<-hTT]at hR;exact⟨_,rfl,h5,R,hR,hS⟩
 clear hS hR h0 h3 h5;rintro ρ w2 ⟨h5,R,hR,hS⟩;refine J2 ?_;refine jt ?_;refine kD rfl rfl ?_;exact⟨bo,R,rfl,hR,hS.drop (ao _ _)⟩
def GC (o:Option Rat) (s:Rat):Option Rat:=match o with
 |none=>some s
 |some h=>if s<h then some s else some h
def v9 (b11 b10:Nat) (o:Option Rat):List kV:=[(b11,4,[.bool o.isSome]),(b10,32,j6 (j9 (o.getD 0)))]
theorem La (b11 b10:Nat) (o:Option Rat) (gap rate:Rat) (H:List kV) (w0 w:World) (hr:rate≠0) (hL:L gap+L rate<=MX) (hL2:L (gap/rate)+L (o.getD 0)<=MX) (hS:St w0 w (v9 b11 b10 o++H)):
  lW Tryz.prog 107 #[lu (j9 gap),lu (j9 rate),.pointer (some ⟨b11,0,none⟩),.pointer (some ⟨b10,0,none⟩)] w λr w'=>r= .tuple #[]/\St w0 w' (v9 b11 b10 (GC o (gap/rate))++H):=by
 obtain⟨s,hs⟩:=jz (gap/rate);have hdiv:=λw=>wh (j9 gap) (j9 rate) w (by rw[Lr_ofQ,Lr_ofQ];exact hL) (by rw[toQ_ofQ];exact hr);rw[toQ_ofQ,toQ_ofQ,<-hs]at hdiv;rw[<-hs]at hL2⊢;refine enter Tryz.func107 rfl Tryz.ntmps107 rfl ?_;refine jr ?_;refine jh (lj (new:=j6 (j9 gap)) rfl rfl hS ?_);intro b4 wz1 hS hBz1;refine jh (lj (new:=j6 (j9 rate)) rfl rfl hS ?_);intro b5 wz2 hS hBz2;refine ja ?_;replace hS:St w0 _ ((b5,32,j6 (j9 rate))::(b4,32,j6 (j9 gap))::(b11,4,[.bool o.isSome])::(b10,32,j6 (j9 (o.getD 0)))::H):=hS;refine J2 ?_;refine jh (j7 Tryz.call108 rfl (hdiv _) ?_);rintro r w3 ⟨rfl,hB3⟩;replace hS:=hS.ko hB3;refine J4 ?_;intro b6 wz3 hS hBz3;refine J1 ?_;intro wz4 hS;refine V1 ?_;replace hS:St w0 _ ((b6,32,j6 (j9 s))::(b5,32,j6 (j9 rate))::(b4,32,j6 (j9 gap))::(b11,4,[.bool o.isSome])::(b10,32,j6 (j9 (o.getD 0)))::H):=hS;cases o with
 |none=>
  refine J3 ?_;refine kN (kb 16 kR rfl rfl) (kN (kb 16 kR rfl rfl) (kN (kb 16 kR rfl rfl) (kN (kb 16 kR rfl rfl) (jp (kC (vb rfl rfl) rfl ?_)))));refine ja ?_;refine k9 rfl (rfl) ?_;refine J2 ?_;intro wz5 hS;refine jh (nW (k:=3) rfl rfl qn hS rfl dM rfl ?_);intro wz6 hS;refine ja ?_;exact qf rfl ⟨rfl,hS.drop ((ab _ _).trans ((ab _ _).trans (ab _ _)))⟩
 |some h=>
  refine J3 ?_;refine lD (j8 16 kR rfl rfl) (kX (k:=0) rfl ki hS rfl rfl rfl (.inl rfl) (lD (j8 16 kR rfl rfl) (kX (k:=4) rfl ki hS rfl rfl rfl (.inl rfl) (oS (j8 16 kR rfl rfl) (j7 Tryz.call50 rfl (pm (j9 s) (j9 h) _ (by rw[Lr_ofQ,Lr_ofQ];exact hL2)) ?_)))));rintro _ wc7 ⟨rfl,hBc7⟩;replace hS:=hS.ko hBc7;refine kf (j8 16 kR rfl rfl) (wm rfl rfl (jp (kC (vb rfl rfl) rfl ?_)));refine ja ?_;rw[toQ_ofQ,toQ_ofQ];by_cases hlt:s<h
  ·refine k9 rfl ((E7 _ _).trans (ak hlt)) ?_;refine ja ?_;have e:GC (some h) s=some s:=aj hlt;rw[e];refine J2 ?_;intro wz8 hS;refine jh (nW (k:=3) rfl rfl qn hS rfl dM rfl ?_);intro wz9 hS;refine ja ?_;exact qf rfl ⟨rfl,hS.drop ((ab _ _).trans ((ab _ _).trans (ab _ _)))⟩
  ·refine lx rfl ((E7 _ _).trans (ae hlt)) ?_;refine ja ?_;have e:GC (some h) s=some h:=ah hlt;rw[e];exact qf rfl ⟨rfl,hS.drop ((ab _ _).trans ((ab _ _).trans (ab _ _)))⟩
end Go.Proofs.YtoeiejliehgopaaGreatDoor
