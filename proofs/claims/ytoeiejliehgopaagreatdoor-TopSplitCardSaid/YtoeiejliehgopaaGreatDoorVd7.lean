/-
  Part 7 of the proof of TopSplit: framework, walks, plain laws.
-/
import Derived.Test.YtoeiejliehgopaaGreatDoorVd6
set_option maxRecDepth 20000
set_option maxHeartbeats 8000000
namespace Go.Proofs.YtoeiejliehgopaaGreatDoor
open Go Go.RowKit Go.Sx
def Nr (M:Mx) (n c:Nat):Prop:=(∀i,i<n->L (rL M c i)+L (M i c)<=MX)/\L (rL M c n)+1<=MX
theorem Js (p:Nat) (v:Value) (vs:List Value) (n:Nat) (M:Mx) (c:Nat) (w:World) (hp:At w ⟨p,0,none⟩ [v]) (hA:rB ke 3 w v (wN n n (qM M)) vs) (hc:c<n) (hL:Nr M n c):
  mb Tryz.prog 100 #[.int .i64 c,.pointer (some ⟨p,0,none⟩)] w λu w'=>u= .bool (GO M n c)/\Below w.heap.size w w':=by
 have hS:=St.init w;refine enter Tryz.func100 rfl Tryz.ntmps100 rfl ?_;refine Y1 ?_;refine jq (oW (v:=v) (cs:=[v]) rfl pz (hp.kb hS.kb) rfl rfl (.inr rfl) ?_);refine J1 ?_;refine jh (kf Tryz.call101 rfl (NO v vs n n M c _ (hA.kb hS.kb) hc hL.1 hL.2) ?_);rintro r w3 ⟨rfl,hB3⟩;replace hS:=hS.kx hB3;refine J1 ?_;refine jt ?_;refine kJ rfl rfl ?_;exact⟨rfl,hS.kb⟩
theorem NR {C:List Nat} {f:Nat->Bool} {i:Nat} (hi:i<C.length) (h:(C.take i).any f=false):(f (C.getD i 0)=false->(C.take (i+1)).any f=false)/\(f (C.getD i 0)=true->C.any f=true):=by
 refine⟨λh1=> ?_,λh1=>dB.2 ⟨_,kO C i 0 hi,h1⟩⟩;rw[lT C i 0 hi,List.any_append,h,List.any_cons,h1];rfl
theorem IP (p:Nat) (v vc:Value) (vs:List Value) (n:Nat) (M:Mx) (C:List Nat) (w:World) (hp:At w ⟨p,0,none⟩ [v]) (hA:rB ke 3 w v (wN n n (qM M)) vs) (hc:Sl tv 1 w vc (nI C)) (hCn:∀c∈C,c<n) (hL:∀c,c<n->Nr M n c):
  mb Tryz.prog 137 #[vc,.func (.func 100) #[] #[.pointer (some ⟨p,0,none⟩)]] w λr w'=>(∃k:Int,r= .int .i64 k/\(0<=k↔C.any (GO M n)=true))/\Below w.heap.size w w':=by
 have hmax:=hc.maxLen;have hnl:=sn C;rw[hnl]at hmax;have hS:=St.init w;refine enter Tryz.func137 rfl Tryz.ntmps137 rfl ?_;refine J2 ?_;refine jp (ky rfl (hc.kb hS.kb) ⟨_,Tryz.underlying46⟩ ?_);refine V1 ?_;rw[hnl];refine kF (σ:=Nat) (λi ρ w'=>i<=C.length/\(C.take i).any (GO M n)=false/\ρ 0=vc/\ρ 1= .func (.func 100) #[] #[.pointer (some ⟨p,0,none⟩)]/\ρ 7=iB C.length/\ρ 8=iB i/\St w w' []) (λi=>C.length-i) 0
  ⟨aw _,rfl,rfl,rfl,rfl,rfl,hS⟩ ?_
 clear hS;rintro i ρ w2 ⟨hi,hn,h0,h1,h7,h8,hS⟩;refine V1 ?_;by_cases hlt:i<C.length
 ·refine V1 ?_;obtain⟨t1,t2⟩:=NR hlt hn;obtain⟨k,hk⟩:=jz (C.getD i 0);have hkn:k<n:=hCn k (by rw[hk];exact kO _ _ _ hlt);have hni:(nI C).getD i 0=(k:Int):=by unfold nI;rw[getD_map _ _ 0 _ hlt,hk]
  rw[<-hk]at t1 t2;refine J5 ?_;refine jp (ks (i:=i) rfl rfl (hc.kb hS.kb) oO dO p7 (jq (kC (i:=i) 0 rfl mR (hc.kb hS.kb) dO rfl rfl (.inr rfl) ?_)));rw[hni];refine jh (zm Tryz.call100 rfl rfl (Js p v vs n M k _ (hp.kb hS.kb) (hA.kb hS.kb) hkn (hL k hkn)) ?_);rintro r w3 ⟨rfl,hB3⟩;replace hS:=hS.kx hB3;refine ja ?_;cases hb:GO M n k with
  |true=>
   refine lu rfl (rfl) ?_;refine J2 ?_;refine jt ?_;refine kJ rfl rfl ?_;exact⟨⟨_,rfl,⟨λ_=>t2 hb,λ_=>oO⟩⟩,hS.kb⟩
  |false=>
   refine lH rfl (rfl) ?_;refine V2 ?_;exact⟨i+1,_,rfl,⟨hlt,t1 hb,h0,h1,h7,vi rfl oO,hS⟩,oO⟩
 ·refine J1 ?_;refine jt ?_;obtain rfl:i=C.length:=oO;rw[bO]at hn;refine J1 ?_;refine jt ?_;refine kJ rfl rfl ?_;exact⟨⟨_,rfl,⟨λh=>oO,λh=>by rw[hn]at h;cases h⟩⟩,hS.kb⟩
theorem D7 (p:Nat) (v vc:Value) (vs:List Value) (n:Nat) (M:Mx) (C:List Nat) (w:World) (hp:At w ⟨p,0,none⟩ [v]) (hA:rB ke 3 w v (wN n n (qM M)) vs) (hc:Sl tv 1 w vc (nI C)) (hCn:∀c∈C,c<n) (hL:∀c,c<n->Nr M n c):
  mb Tryz.prog 99 #[vc,.func (.func 100) #[] #[.pointer (some ⟨p,0,none⟩)]] w λr w'=>r= .bool (C.any (GO M n))/\Below w.heap.size w w':=by
 have hS:=St.init w;refine enter Tryz.func99 rfl Tryz.ntmps99 rfl ?_;refine J3 ?_;refine jh (kf Tryz.call137 rfl (IP p v vc vs n M C _ hp hA hc hCn hL) ?_);rintro r w3 ⟨⟨k,rfl,hk⟩,hB3⟩;replace hS:=hS.kx hB3;refine J2 ?_;refine jt ?_;refine kJ rfl rfl ?_;refine⟨bB Value.bool ?_,hS.kb⟩;rw[gj,fo];exact hk
theorem Nf (vo:Value) (l:List Bool) (w:World) (ho:Sl od 1 w vo l) (hl:l.length<=1000000):
  mb Tryz.prog 98 #[vo] w λr w'=>∃LO,Gl od 4 1 r l LO/\St w w' ([]++LO):=by
 obtain⟨a,c,rfl,h1,h2,h3⟩:=ho.form;have hS:=St.init w;have hW:=hS.kb;refine enter Tryz.func98 rfl Tryz.ntmps98 rfl ?_;refine J2 ?_;refine jp (BY rfl rfl (ht:=⟨_,Tryz.underlying36⟩) ?_);refine ja ?_;cases a with
 |none=>
  refine lu rfl (rfl) ?_;refine J1 ?_;refine jt ?_;refine kJ rfl rfl ?_;have:=h3 rfl;obtain rfl:l=[]:=cB oO;exact⟨[],Gl.nil _ _ _,hS⟩
 |some a=>
  refine lH rfl (rfl) ?_;refine jr ?_;refine jh (Ow qx hS ?_);intro b5 wz1 hS hBz1;refine J1 ?_;refine jh (FL rfl rfl qx dD (H:=[]) (Gl.OB (z:=od false) (n:=0) rfl dD) hS (ho.kb hS.kb) mQ (λu hu=>by obtain⟨b,_,hb⟩:=dK.1 hu;rw[aO.1 hb];rfl) (by simp;omega) (by simp;omega) ?_);intro va2 La2 wa2 hG hS hga2 hgu2;refine J1 ?_;refine jt ?_;refine kJ rfl rfl ?_;exact⟨_,hG,hS⟩
inductive P9 (M:Mx) (n:Nat) (B:List Bool):Nat->Prop
 |base (j:Nat):B.getD j false=true->P9 M n B j
 |step (i j:Nat):P9 M n B i->i<n->j<n->0<M j i->P9 M n B j
def XL (A B:List Bool):Prop:=∀k,A.getD k false=true->B.getD k false=true
def cf (B:List Bool):Nat:=B.count false
theorem PJ:∀(B:List Bool) (j:Nat),j<B.length->B.getD j false=false->cf (B.set j true)<cf B
 | [],_,h,_=>absurd h (aS _)
 |b::B,0,_,h=>by
  have:b=false:=h;subst this;show List.count false (true::B)<List.count false (false::B);simp
 |b::B,j+1,h,hb=>by
  have:=PJ B j (by simpa using h) (by simpa using hb);show List.count false (b::B.set j true)<List.count false (b::B);unfold cf at this;rw[iW,iW];omega
structure RI (M:Mx) (n:Nat) (A B:List Bool):Prop where
 len:B.length=n
 le:XL A B
 rea:∀k,B.getD k false=true->P9 M n A k
structure PI (M:Mx) (n:Nat) (B C:List Bool) (ch:Bool) (j i:Nat):Prop where
 no:ch=false->C=B/\∀a b,(a<j\/a=j/\b<i)->a<n->b<n->B.getD b false=true->0<M a b->B.getD a false=true
 yes:ch=true->cf C<cf B
theorem RI.set {M:Mx} {n:Nat} {A B:List Bool} (h:RI M n A B) {i j:Nat} (hi:i<n) (hj:j<n) (hb:B.getD i false=true) (hm:0<M j i):RI M n A (B.set j true):=by
 have hl:j<B.length:=by rw[h.len];exact hj
 refine⟨by rw[bG];exact h.len,λk hk=> ?_,λk hk=> ?_⟩
 ·rw[ni _ _ _ hl];split
  ·rfl
  ·exact h.le k hk
 ·rw[ni _ _ _ hl]at hk;by_cases e:k=j
  ·rw[e];exact .step i j (h.rea i hb) hi hj hm
  ·rw[ah e]at hk;exact h.rea k hk
theorem PI.set {M:Mx} {n:Nat} {B C:List Bool} {ch:Bool} {i j:Nat} (h:PI M n B C ch j i) (hj:j<C.length) (hb:C.getD j false=false):PI M n B (C.set j true) true j (i+1):=by
 refine⟨(by intro e;cases e),λ_=> ?_⟩;have h1:=PJ C j hj hb;cases ch with
 |true=>have:=h.yes rfl;omega
 |false=>rw[(h.no rfl).1]at h1⊢;exact h1
theorem PI.skip {M:Mx} {n:Nat} {B C:List Bool} {ch:Bool} {i j:Nat} (h:PI M n B C ch j i) (hb:C.getD i false=true->0<M j i->C.getD j false=true):PI M n B C ch j (i+1):=by
 refine⟨λe=> ?_,h.yes⟩;obtain⟨h1,h2⟩:=h.no e;refine⟨h1,λa b hab ha hbn g1 g2=> ?_⟩;by_cases e2:a=j/\b=i
 ·rw[e2.1,e2.2]at g2;rw[e2.2]at g1;rw[e2.1];rw[h1]at hb;exact hb g1 g2
 ·exact h2 a b oO ha hbn g1 g2
theorem PI.row {M:Mx} {n:Nat} {B C:List Bool} {ch:Bool} {j:Nat} (h:PI M n B C ch j n):PI M n B C ch (j+1) 0:=by
 refine⟨λe=> ?_,h.yes⟩;obtain⟨h1,h2⟩:=h.no e;exact⟨h1,λa b hab ha hbn g1 g2=>h2 a b oO ha hbn g1 g2⟩
theorem IY {M:Mx} {n:Nat} {A B:List Bool} (h:RI M n A B) (hc:∀a b,a<n->b<n->B.getD b false=true->0<M a b->B.getD a false=true) {k:Nat} (hk:P9 M n A k):B.getD k false=true:=by
 induction hk with
 |base j hj=>exact h.le j hj
 |step i j _ hi hj hm ih=>exact hc j i hj hi ih hm
theorem Qi (v vf:Value) (vs:List Value) (n:Nat) (M:Mx) (A:List Bool) (w:World) (hA:rB ke 3 w v (wN n n (qM M)) vs) (hf:Sl od 1 w vf A) (hfl:A.length=n) (hn:n<=1000) (hL:∀i,i<n->∀j,j<n->L (M i j)<=MX):
  mb Tryz.prog 57 #[v,vf] w λr w'=>∃B LO,Gl od 4 1 r B LO/\B.length=n/\(∀k,B.getD k false=true↔P9 M n A k)/\St w w' LO:=by
 have hS:=St.init w;have hmx:=hA.sl.maxLen;have hlen:=hA.len;rw[nl]at hlen;refine enter Tryz.func57 rfl Tryz.ntmps57 rfl ?_;refine J2 ?_;refine jh (kf Tryz.call98 rfl (Nf vf A _ (hf.kb hS.kb) oO) ?_);rintro r w3 ⟨LC,hG,hS3⟩;replace hS:=hS.join hS3;rw[aK]at hS;obtain⟨a5,c5,rfl⟩:=hG.len;rw[hfl];refine J2 ?_;refine jb ?_;refine kG (λρ w'=>∃B LO,ρ 5= .slice a5 n c5/\Gl od 4 1 (.slice a5 n c5) B LO/\B.length=n/\(∀k,B.getD k false=true↔P9 M n A k)/\St w w' ([]++LO)) ?_ ?_
 ·refine ja ?_;refine kF (σ:=List Bool×Bool) (λs ρ w'=>RI M n A s.1/\(s.2=false->∀a b,a<n->b<n->s.1.getD b false=true->0<M a b->s.1.getD a false=true)/\ρ 0=v/\ρ 5= .slice a5 n c5/\ρ 6= .bool s.2/\∃LO,Gl od 4 1 (.slice a5 n c5) s.1 LO/\St w w' ([]++LO)) (λs=>2*cf s.1+(bif s.2 then 1 else 0)) (A,true)
   ⟨⟨hfl,λk h=>h,λk h=> .base k h⟩,(by intro e;cases e),rfl,rfl,rfl,LC,hfl▸hG,hS⟩ ?_
  clear hS hS3 hG;rintro⟨B,ch⟩ ρ w2 ⟨hRI,hcl,h0,h5,h6,LO,hG,hS⟩;dsimp only at hRI hcl h6 hG;refine V1 ?_;cases ch with
  |false=>
   refine lH rfl (rfl) ?_;refine jt ?_;exact⟨_,rfl,B,LO,h5,hG,hRI.len,λk=>⟨hRI.rea k,λh=>IY hRI (hcl rfl) h⟩,hS⟩
  |true=>
   refine lu rfl (rfl) ?_;refine J2 ?_;refine jp (ky rfl (hA.sl.kb hS.kb) ⟨_,Tryz.underlying35⟩ ?_);refine J1 ?_;refine jb ?_;rw[hlen];refine kG (λρ w'=>∃C ch,ρ 0=v/\ρ 5= .slice a5 n c5/\ρ 6= .bool ch/\RI M n A C/\PI M n B C ch n 0/\∃LO,Gl od 4 1 (.slice a5 n c5) C LO/\St w w' ([]++LO)) ?_ ?_
   ·refine ja ?_;refine kF (σ:=Nat) (λj ρ w'=>j<=n/\ρ 0=v/\ρ 5= .slice a5 n c5/\ρ 14=v/\ρ 15=iB n/\ρ 16=iB j/\∃C ch,ρ 6= .bool ch/\RI M n A C/\PI M n B C ch j 0/\∃LO,Gl od 4 1 (.slice a5 n c5) C LO/\St w w' ([]++LO)) (λj=>n-j) 0
     ⟨aw _,jY,jY,rfl,rfl,rfl,B,false,rfl,hRI,⟨λ_=>⟨rfl,λa b h=>absurd h oO⟩,by intro e;cases e⟩,LO,hG,hS⟩ ?_
    clear hS hG;rintro j ρ w3 ⟨hj,h0,h5,h14,h15,h16,C,ch,h6,hRI,hPI,LO,hG,hS⟩;refine V1 ?_;by_cases hlt:j<n
    ·refine V1 ?_;have hrow:=hA.row j (by rw[nl];exact hlt);rw[p9 _ hlt]at hrow;have htl:=kj n (qM M j);obtain⟨vr,hvr⟩:=jz (vs.getD j undef);rw[<-hvr]at hrow;refine J1 ?_;refine jp (ks (i:=j) h14 h16 (hA.sl.kb hS.kb) oO dO lS (jq (kC (i:=j) undef rfl md (hA.sl.kb hS.kb) dO rfl rfl (.inr rfl) ?_)));refine V2 ?_;rw[<-hvr];refine jr ?_;refine jp (kw rfl (jp (ky rfl (hrow.kb hS.kb) ⟨_,Tryz.underlying34⟩ ?_)));refine J1 ?_;refine jb ?_;rw[htl];refine kG (λρ w'=>ρ 0=v/\ρ 5= .slice a5 n c5/\ρ 14=v/\ρ 15=iB n/\ρ 16=iB j/\∃C ch,ρ 6= .bool ch/\RI M n A C/\PI M n B C ch j n/\∃LO,Gl od 4 1 (.slice a5 n c5) C LO/\St w w' ([]++LO)) ?_ ?_
     ·refine ja ?_;refine kF (σ:=Nat) (λi ρ w'=>i<=n/\ρ 0=v/\ρ 5= .slice a5 n c5/\ρ 7=iB j/\ρ 14=v/\ρ 15=iB n/\ρ 16=iB j/\ρ 21=vr/\ρ 22=iB n/\ρ 23=iB i/\∃C ch,ρ 6= .bool ch/\RI M n A C/\PI M n B C ch j i/\∃LO,Gl od 4 1 (.slice a5 n c5) C LO/\St w w' ([]++LO)) (λi=>n-i) 0
       ⟨aw _,jY,jY,rfl,jY,jY,jY,rfl,rfl,rfl,C,ch,jY,hRI,hPI,LO,hG,hS⟩ ?_
      clear hS hG hRI hPI h6;rintro i ρ w4 ⟨hi,h0,h5,h7,h14,h15,h16,h21,h22,h23,C,ch,h6,hRI,hPI,LO,hG,hS⟩;have hCl:=hRI.len;refine V1 ?_;by_cases hil:i<n
      ·refine V1 ?_;have hg:(kD n (qM M j)).getD i kZ=ki (M j i):=kB _ _ hil;refine J1 ?_;refine jp (ks (i:=i) h21 h23 (hrow.kb hS.kb) oO dO kW (jq (kC (i:=i) kZ rfl kt (hrow.kb hS.kb) dO rfl rfl (.inl rfl) ?_)));refine J1 ?_;intro b10 wz1 hS hBz1;refine J2 ?_;intro wz2 hS;refine ja ?_;rw[hg]at hS;replace hS:St w _ ([(b10,32,ke (ki (M j i)))]++LO):=hS;by_cases hbi:C.getD i false=true
       ·by_cases hbj:C.getD j false=true
        ·refine J2 ?_;refine jp (ks (i:=i) rfl rfl (hG.sl hS mQ) oO dO qx (jq (kC (i:=i) false rfl qB (hG.sl hS mQ) dO rfl rfl (.inr rfl) ?_)));refine J1 ?_;refine ko (kd 32 kR rfl hbi) (kw h5 (ko (kd 32 kR rfl hbi) (kw h7 (ko (kd 32 kR rfl hbi) (ks (i:=j) rfl rfl (hG.sl hS mQ) oO dO qx (lA (kd 32 kR rfl hbi) (kC (i:=j) false rfl qB (hG.sl hS mQ) dO rfl rfl (.inr rfl) (ko (kd 32 kR rfl hbi) (xb rfl (jp (kH (vb rfl hbi) rfl ?_)))))))))));refine J1 ?_;refine kS (kg 39 kR rfl (bB not hbj)) (kS (kg 39 kR rfl (bB not hbj)) (kS (kg 39 kR rfl (bB not hbj)) (jp (kH (vb rfl (bB not hbj)) rfl ?_))));refine ja ?_;refine lH rfl (rfl) ?_;refine V2 ?_;exact⟨i+1,_,rfl,⟨hil,jY,jY,jY,jY,jY,jY,jY,jY,vi rfl oO,C,ch,jY,hRI,hPI.skip λ_ _=>hbj,LO,hG,hS.drop (ab _ _)⟩,oO⟩
        ·have hbj':C.getD j false=false:=by simpa using hbj
         refine J2 ?_;refine jp (ks (i:=i) rfl rfl (hG.sl hS mQ) oO dO qx (jq (kC (i:=i) false rfl qB (hG.sl hS mQ) dO rfl rfl (.inr rfl) ?_)));refine J1 ?_;refine ko (kd 32 kR rfl hbi) (kw h5 (ko (kd 32 kR rfl hbi) (kw h7 (ko (kd 32 kR rfl hbi) (ks (i:=j) rfl rfl (hG.sl hS mQ) oO dO qx (lA (kd 32 kR rfl hbi) (kC (i:=j) false rfl qB (hG.sl hS mQ) dO rfl rfl (.inr rfl) (ko (kd 32 kR rfl hbi) (xb rfl (jp (kH (vb rfl hbi) rfl ?_)))))))))));refine J1 ?_;refine lA (kd 39 kR rfl (bB not hbj')) (kP (k:=0) rfl kt hS rfl rfl rfl (.inl rfl) (oZ (kd 39 kR rfl (bB not hbj')) (kf Tryz.call80 rfl (sP (ki (M j i)) _ (by rw[Lr_ofQ];exact hL j hlt i hil)) ?_)));rintro _ wc3 ⟨rfl,hBc3⟩;replace hS:=hS.kx hBc3;refine ko (kd 39 kR rfl (bB not hbj')) (sT rfl rfl (jp (kH (vb rfl (bB not hbj')) rfl ?_)));refine ja ?_;rw[toQ_ofQ];by_cases hm:0<M j i
         ·refine lu rfl (ai (nX.2 hm)) ?_;refine J2 ?_;refine jp (ks (i:=j) rfl rfl (hG.sl hS mQ) oO dO qx (jh (ug (i:=j) true mQ rfl rfl qB hG hS oO rfl rfl ?_)));intro wz4 hS;refine V1 ?_;obtain⟨LC2,hG,hS⟩:=hS;refine V2 ?_;exact⟨i+1,_,rfl,⟨hil,jY,jY,jY,jY,jY,jY,jY,jY,vi rfl oO,_,true,rfl,hRI.set hil hlt hbi hm,hPI.set (by rw[hCl];exact hlt) hbj',_,hG,hS.drop (ab _ _)⟩,oO⟩
         ·refine lH rfl (ae (λg=>hm (nX.1 g))) ?_;refine V2 ?_;exact⟨i+1,_,rfl,⟨hil,jY,jY,jY,jY,jY,jY,jY,jY,vi rfl oO,C,ch,jY,hRI,hPI.skip λ_ g=>absurd g hm,LO,hG,hS.drop (ab _ _)⟩,oO⟩
       ·have hbi':C.getD i false=false:=by simpa using hbi
        refine J2 ?_;refine jp (ks (i:=i) rfl rfl (hG.sl hS mQ) oO dO qx (jq (kC (i:=i) false rfl qB (hG.sl hS mQ) dO rfl rfl (.inr rfl) ?_)));refine J1 ?_;refine kS (kg 32 kR rfl hbi') (kS (kg 32 kR rfl hbi') (kS (kg 32 kR rfl hbi') (kS (kg 32 kR rfl hbi') (kS (kg 32 kR rfl hbi') (jp (kH (vb rfl hbi') rfl ?_))))));refine J1 ?_;refine kS (kg 39 kR rfl rfl) (kS (kg 39 kR rfl rfl) (kS (kg 39 kR rfl rfl) (jp (kH (vb rfl rfl) rfl ?_))));refine ja ?_;refine lH rfl (rfl) ?_;refine V2 ?_;exact⟨i+1,_,rfl,⟨hil,jY,jY,jY,jY,jY,jY,jY,jY,vi rfl oO,C,ch,jY,hRI,hPI.skip λg _=>absurd g hbi,LO,hG,hS.drop (ab _ _)⟩,oO⟩
      ·refine J1 ?_;refine jt ?_;obtain rfl:i=n:=oO;exact⟨_,rfl,h0,h5,h14,h15,h16,C,ch,h6,hRI,hPI,LO,hG,hS⟩
     clear hS hG hRI hPI h6;rintro ρ w4 ⟨h0,h5,h14,h15,h16,C,ch,h6,hRI,hPI,LO,hG,hS⟩;refine V2 ?_;exact⟨j+1,_,rfl,⟨hlt,jY,jY,jY,jY,vi rfl oO,C,ch,jY,hRI,hPI.row,LO,hG,hS⟩,oO⟩
    ·refine J1 ?_;refine jt ?_;obtain rfl:j=n:=oO;exact⟨_,rfl,C,ch,h0,h5,h6,hRI,hPI,LO,hG,hS⟩
   clear hS hG hRI h6;rintro ρ w3 ⟨C,ch,h0,h5,h6,hRI,hPI,LO,hG,hS⟩;refine⟨(C,ch),_,rfl,⟨hRI,λe=> ?_,h0,h5,h6,LO,hG,hS⟩,?_⟩
   ·obtain⟨e1,e2⟩:=hPI.no e;dsimp only;rw[e1];exact λa b ha hb=>e2 a b (.inl ha) ha hb
   ·cases ch with
    |true=>
     have:=hPI.yes rfl;show 2*cf C+1<2*cf B+1;omega
    |false=>
     rw[(hPI.no rfl).1];show 2*cf B+0<2*cf B+1;omega
 clear hS hG;rintro ρ w2 ⟨B,LO,h5,hG,hBl,hB,hS⟩;refine J2 ?_;refine jt ?_;refine kJ rfl rfl ?_;exact⟨B,LO,hG,hBl,hB,hS⟩
noncomputable def SR (M:Mx) (n:Nat) (A:List Bool):List Bool:=kD n λk=> @decide (P9 M n A k) (Classical.propDecidable _)
theorem Lj (M:Mx) (n:Nat) (A:List Bool) {k:Nat} (hk:k<n):(SR M n A).getD k false=true↔P9 M n A k:=by
 unfold SR;rw[kB _ _ hk];exact @fo _ (Classical.propDecidable _)
theorem UV {M:Mx} {n:Nat} {A B:List Bool} (hl:B.length=n) (h:∀k,B.getD k false=true↔P9 M n A k):B=SR M n A:=by
 rw[Ju B false,hl];unfold SR;refine kN λk _=> ?_;rw[gj,h k];exact(@fo _ (Classical.propDecidable _)).symm
def xf (n i:Nat):List Bool:=(List.replicate n false).set i true
noncomputable def tM (M:Mx) (n i:Nat):List Nat:=ue (SR M n (xf n i)) n
theorem u7 {B:List Bool} {k i:Nat}:i∈ue B k↔i<k/\B.getD i false=true:=by
 unfold ue;rw[dS,cZ]
theorem El {n i:Nat} (hi:i<n) (k:Nat):(xf n i).getD k false=true↔k=i:=by
 unfold xf;rw[ni _ _ _ (by rw[eR];exact hi)];by_cases e:k=i
 ·simp[e]
 ·rw[ah e,ak,gy];by_cases g:k<n
  ·simp[g,e]
  ·simp[g,e]
theorem tE {M:Mx} {n i k:Nat}:k∈tM M n i↔k<n/\P9 M n (xf n i) k:=by
 unfold tM;rw[u7];constructor
 ·rintro⟨h1,h2⟩;exact⟨h1,(Lj _ _ _ h1).1 h2⟩
 ·rintro⟨h1,h2⟩;exact⟨h1,(Lj _ _ _ h1).2 h2⟩
theorem PA {M:Mx} {n i:Nat} (hi:i<n):i∈tM M n i:=tE.2 ⟨hi,.base i ((El hi i).2 rfl)⟩
theorem Oi {M:Mx} {n i:Nat} (hi:i<n):tM M n i≠ []:=λe=>by have:=PA (M:=M) hi;rw[e]at this;cases this
noncomputable def qH (M:Mx) (n:Nat) (F:List Bool):Nat->List Nat
 |0=>[]
 |k+1=>if F.getD k false=true/\(tM M n k).any (GO M n)=false/\(qH M n F k=[]\/(tM M n k).length<(qH M n F k).length)then tM M n k else qH M n F k
theorem AF (M:Mx) (n:Nat) (F:List Bool):∀k,(qH M n F k).length<=n
 |0=>aw _
 |k+1=>by
  unfold qH;split
  ·exact Am _ _
  ·exact AF M n F k
theorem Nl (v vf:Value) (vs:List Value) (n:Nat) (M:Mx) (F:List Bool) (w:World) (hA:rB ke 3 w v (wN n n (qM M)) vs) (hf:Sl od 1 w vf F) (hfl:F.length=n) (hn:n<=1000) (hL:∀i,i<n->∀j,j<n->L (M i j)<=MX) (hk:∀c,c<n->Nr M n c):
  mb Tryz.prog 59 #[v,vf] w λr w'=>∃LO,Gl tv 3 1 r (nI (qH M n F n)) LO/\(qH M n F n=[]->r=kp)/\St w w' LO:=by
 have hS:=St.init w;have hmx:=hA.sl.maxLen;have hlen:=hA.len;rw[nl]at hlen;obtain⟨a0,c0,hv,_⟩:=hA.sl.form;subst hv;rw[hlen]at hA⊢;refine enter Tryz.func59 rfl Tryz.ntmps59 rfl ?_;refine jr ?_;refine jh (lx rfl rfl hS ?_);intro b2 wz1 hS hBz1;refine V1 ?_;replace hS:St w _ ([(b2,35,[.slice a0 n c0])]++[]):=hS;refine J2 ?_;refine jp (ky rfl (hf.kb hS.kb) ⟨_,Tryz.underlying36⟩ ?_);refine J1 ?_;refine jb ?_;rw[hfl];refine kG (λρ w'=>∃vb LB,ρ 5=vb/\Gl tv 3 1 vb (nI (qH M n F n)) LB/\(qH M n F n=[]->vb=kp)/\St w w' ([(b2,35,[.slice a0 n c0])]++LB)) ?_ ?_
 ·refine ja ?_;refine kF (σ:=Nat) (λi ρ w'=>i<=n/\ρ 1=vf/\ρ 2=pB b2/\ρ 10=vf/\ρ 11=iB n/\ρ 12=iB i/\∃vb LB,ρ 5=vb/\Gl tv 3 1 vb (nI (qH M n F i)) LB/\(qH M n F i=[]->vb=kp)/\St w w' ([(b2,35,[.slice a0 n c0])]++LB)) (λi=>n-i) 0
   ⟨aw _,rfl,rfl,rfl,rfl,rfl,kp,[],rfl,Gl.nil _ _ _,λ_=>rfl,hS⟩ ?_
  clear hS;rintro i ρ w2 ⟨hi,h1,h2,h10,h11,h12,vb,LB,h5,hG,hnil,hS⟩;refine V1 ?_;by_cases hlt:i<n
  ·refine J2 ?_;refine jp (ks (i:=i) h10 h12 (hf.kb hS.kb) oO dO qx (jq (kC (i:=i) false rfl qB (hf.kb hS.kb) dO rfl rfl (.inr rfl) ?_)));refine V4 ?_;cases hF:F.getD i false with
   |false=>
    refine lu rfl (rfl) ?_;refine jt ?_;have e:qH M n F (i+1)=qH M n F i:=by
     show(if _ then _ else _)=_;rw[ah (by rw[hF];rintro⟨h,_⟩;cases h)]
    refine V2 ?_;refine⟨i+1,_,rfl,⟨hlt,jY,jY,jY,jY,vi rfl oO,vb,LB,jY,?_⟩,oO⟩;rw[e];exact⟨hG,hnil,hS⟩
   |true=>
    refine lH rfl (rfl) ?_;refine J1 ?_;refine jp (ky rfl (hf.kb hS.kb) ⟨_,Tryz.underlying36⟩ (jh (mq (enc:=od) (n:=n) false rfl rfl qx rfl oO oO oO oO hS ?_)));intro b21 wz2 hS hBz2;refine V1 ?_;replace hS:St w _ ((b21,4,(List.replicate n false).flatMap od)::([(b2,35,[.slice a0 n c0])]++LB)):=hS;refine J2 ?_;refine jp (kM (i:=i) rfl rfl oO dO qx ?_);refine jh (Aa (k:=0) (i:=i) (enc:=od) true (λ_=>rfl) rfl rfl qB hS rfl (by first|omega|simp) dO rfl rfl ?_);intro wz3 hS;refine ja ?_;replace hS:St w _ ((b21,4,(xf n i).flatMap od)::([(b2,35,[.slice a0 n c0])]++LB)):=hS;have hul:(xf n i).length=n:=by unfold xf;rw[bG,eR]
    have hU:=hS.sle (k:=0) (n:=n) (cap:=n) rfl mQ oO oO oO;rw[aU oO]at hU;have hAW:=hA.kb hS.kb;refine J2 ?_;refine jh (kf Tryz.call57 rfl (Qi (.slice a0 n c0) _ vs n M (xf n i) _ hAW hU hul hn hL) ?_);rintro r w3 ⟨B,LR,hGR,hBl,hB,hS3⟩;obtain rfl:=UV hBl hB;replace hS:=hS.join hS3;refine jh (kf Tryz.call62 rfl (Ma r _ _ (hGR.sl (H:=[]) hS3 mQ) oO) ?_);rintro r2 w4 ⟨LC,hGC,hS4⟩;rw[hBl]at hGC;replace hGC:Gl tv 3 1 r2 (nI (tM M n i)) LC:=hGC;replace hS:=hS.join hS4;replace hS:=(hS.drop (bk (bI LC) ((ab _ _).trans (ao LR _)))).perm ay;refine V1 ?_;have hC:=hGC.sl (H:=[]) hS4 (λ_=>rfl);have hcl:=Am (SR M n (xf n i)) n;have hbl:=AF M n F i;have hAW2:=hA.kb hS.kb;have hcn:∀c∈tM M n i,c<n:=λc hc=>(tE.1 hc).1;have hcne:=Oi (M:=M) hlt;replace hcl:(tM M n i).length<=n:=hcl;obtain⟨C,hCd⟩:=jz (tM M n i);obtain⟨D,hDd⟩:=jz (qH M n F i);have hbs:qH M n F (i+1)=if F.getD i false=true/\C.any (GO M n)=false/\(D=[]\/C.length<D.length)then C else D:=by rw[hCd,hDd];rfl
    rw[<-hDd]at hG hbl hnil;rw[<-hCd]at hcl hcn hcne hGC hC;have hnC:=sn C;have hnD:=sn D;obtain⟨a9,c9,hr2⟩:=hGC.len;rw[hnC]at hr2;subst hr2;replace hS:St w _ (([(b2,35,[.slice a0 n c0])]++LB)++LC):=hS;refine ja ?_;refine nk (λρ'=>ρ' 1=vf/\ρ' 2= .pointer (some ⟨b2,0,none⟩)/\ρ' 5=vb/\ρ' 9= .slice a9 C.length c9/\ρ' 10=vf/\ρ' 11= .int .i64 n/\ρ' 12= .int .i64 i/\True) ⟨h1,h2,h5,rfl,h10,h11,h12,trivial⟩ ?_;rintro ρk4 ⟨hk4_1,hk4_2,hk4_5,hk4_9,hk4_10,hk4_11,hk4_12,-⟩;refine J1 ?_;refine jp (Qj hk4_2 (jh (kf Tryz.call99 rfl (D7 b2 (.slice a0 n c0) _ vs n M C _ (hS.at (k:=0) rfl 0 1) hAW2 hC hcn hk) ?_)));rintro r3 w5 ⟨rfl,hB5⟩;replace hS:=hS.kx hB5;refine ja ?_;cases hlk:C.any (GO M n)with
    |true=>
     refine lu rfl (rfl) ?_;refine jt ?_;rw[ah (by rw[hlk];rintro⟨_,h,_⟩;cases h)]at hbs;refine V2 ?_;refine⟨i+1,_,rfl,⟨hlt,jY,jY,jY,jY,vi rfl oO,vb,LB,jY,?_⟩,oO⟩;rw[hbs];exact⟨hG,hnil,hS.drop (ap _ _)⟩
    |false=>
     refine lH rfl (rfl) ?_;refine ja ?_;have hSC:St w _ ([(b2,35,[.slice a0 n c0])]++LC):=hS.drop (bk (ap _ _) (bI _));by_cases hD:D=[]
     ·obtain rfl:=hnil hD;refine J1 ?_;refine jp (BY rfl rfl (ht:=⟨_,Tryz.underlying46⟩) ?_);refine J1 ?_;refine kS (kg 34 kR rfl rfl) (kS (kg 34 kR rfl rfl) (kS (kg 34 kR rfl rfl) (kS (kg 34 kR rfl rfl) (kS (kg 34 kR rfl rfl) (jp (kH (vb rfl rfl) rfl ?_))))));refine ja ?_;refine lu rfl (rfl) ?_;refine V4 ?_;rw[aj ⟨hF,hlk,.inl hD⟩]at hbs;refine⟨i+1,_,rfl,⟨hlt,jY,jY,jY,jY,vi rfl oO,_,LC,rfl,?_⟩,oO⟩;rw[hbs];exact⟨hGC,λe=>absurd e hcne,hSC⟩
     ·have hvb:∃b cap,vb= .slice (some ⟨b,0,none⟩) D.length cap:=by
       obtain⟨_,⟨_,h2,_⟩|⟨b,cap,_,h1,_⟩⟩:=hG
       ·exact absurd (gw.1 (by rw[<-hnD,h2])) hD
       ·exact⟨b,cap,by rw[h1,hnD]⟩
      obtain⟨bb,cb,rfl⟩:=hvb;refine J1 ?_;refine jp (BY rfl rfl (ht:=⟨_,Tryz.underlying46⟩) ?_);refine J1 ?_;refine ko (kd 34 kR rfl rfl) (kw hk4_9 (ko (kd 34 kR rfl rfl) (oG rfl ⟨_,Tryz.underlying46⟩ (ko (kd 34 kR rfl rfl) (kw hk4_5 (ko (kd 34 kR rfl rfl) (oG rfl ⟨_,Tryz.underlying46⟩ (ko (kd 34 kR rfl rfl) (vh rfl rfl (jp (kH (vb rfl rfl) rfl ?_)))))))))));refine ja ?_;by_cases hlt2:C.length<D.length
      ·refine V5 ?_;rw[aj ⟨hF,hlk,.inr hlt2⟩]at hbs;refine⟨i+1,_,rfl,⟨hlt,jY,jY,jY,jY,vi rfl oO,_,LC,rfl,?_⟩,oO⟩;rw[hbs];exact⟨hGC,λe=>absurd e hcne,hSC⟩
      ·refine V3 ?_;rw[ah (by rintro⟨_,_,h|h⟩<;>contradiction)]at hbs;refine⟨i+1,_,rfl,⟨hlt,jY,jY,jY,jY,vi rfl oO,_,LB,jY,?_⟩,oO⟩;rw[hbs];exact⟨hG,hnil,hS.drop (ap _ _)⟩
  ·refine J1 ?_;refine jt ?_;obtain rfl:i=n:=oO;exact⟨_,rfl,vb,LB,h5,hG,hnil,hS⟩
 clear hS;rintro ρ w2 ⟨vb,LB,h5,hG,hnil,hS⟩;refine J2 ?_;refine jt ?_;refine kJ rfl rfl ?_;exact⟨LB,hG,hnil,hS.drop (ao _ _)⟩
def pQ (q:Rat):Rat:=DO q 0
theorem Iz (q:Rat):L (pQ q)<=L q+1:=by
 unfold pQ DO;split
 ·omega
 ·rw[oz];omega
theorem oL (q:Rat) (w:World) (hq:L q+2<=MX):
  mb Tryz.prog 91 #[lC (ki q)] w λr w'=>r=lC (ki (pQ q))/\Below w.heap.size w w':=by
 have hS:=St.init w;have h0:=oz;refine enter Tryz.func91 rfl Tryz.ntmps91 rfl ?_;refine jr ?_;refine jh (lx (new:=ke (ki q)) rfl rfl hS ?_);intro b1 wz1 hS hBz1;refine J1 ?_;intro b2 wz2 hS hBz2;refine J1 ?_;refine jp (lr rfl pM (jh (kf Tryz.call52 rfl (Fv (ki q) kZ _ (by rw[Lr_ofQ,pK,Lr_ofQ];omega)) ?_)));rintro r w2 ⟨rfl,hB2⟩;rw[pK,toQ_ofQ,toQ_ofQ];replace hS:=hS.kx hB2;refine J1 ?_;intro wz3 hS;refine jt ?_;refine mA (k:=0) rfl rfl kt hS rfl rfl ?_;exact⟨rfl,hS.kb⟩
def oC (q:Nat->Rat) (k:Nat):Rat:=ku (λj=>pQ (q j)) k
def wM (W:Rat) (q:Nat->Rat):Nat->Rat
 |0=>0
 |k+1=>pQ (oC q (k+1)-pQ W)
def tX (W:Rat) (q:Nat->Rat) (k:Nat):Rat:=wM W q (k+1)-wM W q k
def wE (f:Nat->Rat) (i k:Nat):Rat:=if k<i then f k else 0
theorem ws (f:Nat->Rat) (n i:Nat):(kD n λk=>ki (wE f i k)).set i (ki (f i))=kD n λk=>ki (wE f (i+1) k):=BL n (wE f i) (wE f (i+1)) i (f i) (λk _=>by
 unfold wE;by_cases e:k=i
 ·rw[aj e,aj oO,e]
 ·rw[ah e];by_cases e2:k<i
  ·rw[aj e2,aj oO]
  ·rw[ah e2,ah oO])
theorem vW (f:Nat->Rat) (n:Nat):(kD n λk=>ki (wE f n k))=kD n λk=>ki (f k):=kN λk hk=>by unfold wE;rw[aj hk]
theorem JG (va:Value) (n:Nat) (W:Rat) (q:Nat->Rat) (K:Nat) (w:World) (ha:Sl ke 3 w va (kD n λk=>ki (q k))) (hn:n<=1000) (hW:L W<=K) (hq:∀k,k<n->L (q k)<=K) (hs:∀k,k<=n->L (oC q k)<=K) (hK:8*K+20<=MX):
  mb Tryz.prog 53 #[lC (ki W),va] w λr w'=>∃LO,Gl ke 32 3 r (kD n λk=>ki (tX W q k)) LO/\St w w' LO:=by
 have hS:=St.init w;have hla:=kj n λk=>ki (q k);have hz:ke kZ=ke (ki (wM W q 0)):=by rw[lL];rfl
 have hpW:=Iz W;refine enter Tryz.func53 rfl Tryz.ntmps53 rfl ?_;refine jr ?_;refine jh (lx (new:=ke (ki W)) rfl rfl hS ?_);intro b2 wz1 hS hBz1;refine J2 ?_;refine jp (ky rfl (ha.kb hS.kb) ⟨_,Tryz.underlying34⟩ (jh (mq (enc:=ke) (n:=n) kZ rfl rfl kW rfl oO oO oO oO hS ?_)));intro b13 wz2 hS hBz2;refine Y1 ?_;refine jp (lr rfl pM (jp (lr rfl pM ?_)));refine J1 ?_;intro b6 wz3 hS hBz3;refine J1 ?_;intro b7 wz4 hS hBz4;refine J1 ?_;intro wz5 hS;refine J1 ?_;intro wz6 hS;refine ja ?_;replace hS:St w _ ((b7,32,ke kZ)::(b6,32,ke kZ)::(b13,32,(List.replicate n kZ).flatMap ke)::[(b2,32,ke (ki W))]):=hS;rw[hz,lQ]at hS;replace hS:St w _ ([(b7,32,ke (ki (wM W q 0))),(b6,32,ke (ki (oC q 0))),(b2,32,ke (ki W))]++[(b13,32,(kD n λk=>ki (zf.c k)).flatMap ke)]):=hS.perm (List.Perm.cons _ (List.Perm.cons _ (List.Perm.swap _ _ _)));have hG:Gl ke 32 3 (.slice (some ⟨b13,0,none⟩) n n) (kD n λk=>ki (wE (tX W q) 0 k)) [(b13,32,(kD n λk=>ki (wE (tX W q) 0 k)).flatMap ke)]:=qe (kj _ _) oO;refine J1 ?_;refine jp (ky rfl (ha.kb hS.kb) ⟨_,Tryz.underlying34⟩ ?_);refine J1 ?_;refine jb ?_;rw[hla];refine kG (λρ w'=>∃LO,ρ 5= .slice (some ⟨b13,0,none⟩) n n/\Gl ke 32 3 (.slice (some ⟨b13,0,none⟩) n n) (kD n λk=>ki (tX W q k)) LO/\St w w' LO) ?_ ?_
 ·refine ja ?_;refine kF (σ:=Nat) (λi ρ w'=>i<=n/\ρ 2=pB b2/\ρ 5= .slice (some ⟨b13,0,none⟩) n n/\ρ 6=pB b6/\ρ 7=pB b7/\ρ 16=va/\ρ 17=iB n/\ρ 18=iB i/\∃LO,Gl ke 32 3 (.slice (some ⟨b13,0,none⟩) n n) (kD n λk=>ki (wE (tX W q) i k)) LO/\
    St w w' ([(b7,32,ke (ki (wM W q i))),(b6,32,ke (ki (oC q i))),(b2,32,ke (ki W))]++LO)) (λi=>n-i) 0
   ⟨aw _,rfl,rfl,rfl,rfl,rfl,rfl,rfl,_,hG,hS⟩ ?_
  clear hS hG;rintro i ρ w2 ⟨hi,h2,h5,h6,h7,h16,h17,h18,LO,hG,hS⟩;have htl:=kj n λk=>ki (wE (tX W q) i k);refine V1 ?_;by_cases hlt:i<n
  ·refine V1 ?_;have hg:(kD n λk=>ki (q k)).getD i kZ=ki (q i):=kB _ _ hlt;have hqi:=hq i hlt;have hs1:=hs i hi;have hs2:=hs (i+1) hlt;have hpq:=Iz (q i);have hsb:=tC (oC q (i+1)) (pQ W);have hov:L (wM W q i)<=2*K+4:=by
    cases i with
    |zero=>show L 0<=_;rw[oz];omega
    |succ i=>
     have h1:=Iz (oC q (i+1)-pQ W);have h2:=tC (oC q (i+1)) (pQ W);show L (pQ _)<=_;omega
   have hov2:L (wM W q (i+1))<=2*K+4:=by
    have h1:=Iz (oC q (i+1)-pQ W);show L (pQ _)<=_;omega
   have hadd:=λw=>ou (ki (oC q i)) (ki (pQ (q i))) w (by rw[Lr_ofQ,Lr_ofQ];omega);rw[toQ_ofQ,toQ_ofQ]at hadd;have hsub:=λw=>mI (ki (oC q (i+1))) (ki (pQ W)) w (by rw[Lr_ofQ,Lr_ofQ];omega);rw[toQ_ofQ,toQ_ofQ]at hsub;have hsub2:=λw=>mI (ki (wM W q (i+1))) (ki (wM W q i)) w (by rw[Lr_ofQ,Lr_ofQ];omega);rw[toQ_ofQ,toQ_ofQ]at hsub2;refine J1 ?_;refine jp (ks (i:=i) h16 h18 (ha.kb hS.kb) oO dO kW (jq (kC (i:=i) kZ rfl kt (ha.kb hS.kb) dO rfl rfl (.inl rfl) ?_)));refine J1 ?_;intro b9 wz7 hS hBz7;refine J2 ?_;intro wz8 hS;refine ja ?_;rw[hg]at hS;replace hS:St w _ ([(b9,32,ke (ki (q i))),(b7,32,ke (ki (wM W q i))),(b6,32,ke (ki (oC q i))),(b2,32,ke (ki W))]++LO):=hS;refine ja ?_;refine kK [ju 0,ju 1,jv 2,jv 3,jw 4] kR kR hS ?_;intro wz9 hS hBz9;refine J2 ?_;refine jn rfl (kf Tryz.call91 rfl (oL (q i) _ oO) ?_);rintro _ wc10 ⟨rfl,hBc10⟩;replace hS:=hS.kx hBc10;refine⟨hBc10,?_⟩;refine jn rfl (kf Tryz.call18 rfl (hadd _) ?_);rintro _ wc11 ⟨rfl,hBc11⟩;replace hS:=hS.kx hBc11;refine⟨hBc11,?_⟩;refine J1 ?_;intro wz12 hS;refine ja ?_;replace hS:St w _ ([(b9,32,ke (ki (q i))),(b7,32,ke (ki (wM W q i))),(b6,32,ke (ki (oC q (i+1)))),(b2,32,ke (ki W))]++LO):=hS;refine kG (λρ w'=>ρ 2=pB b2/\ρ 5= .slice (some ⟨b13,0,none⟩) n n/\ρ 6=pB b6/\ρ 7=pB b7/\ρ 16=va/\ρ 17=iB n/\ρ 18=iB i/\ρ 8=iB i/\∃b10,ρ 10=pB b10/\St w w' ([(b10,32,ke (ki (wM W q (i+1)))),(b9,32,ke (ki (q i))),(b7,32,ke (ki (wM W q i))),(b6,32,ke (ki (oC q (i+1)))),(b2,32,ke (ki W))]++LO)) ?_ ?_
   ·refine ja ?_;refine vV 5 [ju 0,ju 1,jv 2,jv 3,jv 4,jw 6] kR kR hS ?_;intro wz13 hS hBz13;refine qI kR rfl rfl (kP (k:=2) h6 kt hS rfl rfl rfl (.inl rfl) (qI kR rfl rfl (kP (k:=3) h2 kt hS rfl rfl rfl (.inl rfl) ?_)));refine rW rfl rfl ?_ ?_
    ·refine J1 ?_;intro b10 wz14 hS hBz14;refine⟨hBz14,?_⟩;refine jn rfl (kf Tryz.call91 rfl (oL W _ oO) ?_);rintro ra w3 ⟨rfl,hB3⟩;refine⟨hB3,?_⟩;replace hS:=hS.kx hB3;refine jn rfl (kf Tryz.call16 rfl (hsub _) ?_);rintro rb w4 ⟨rfl,hB4⟩;refine⟨hB4,?_⟩;replace hS:=hS.kx hB4;refine jn rfl (kf Tryz.call91 rfl (oL _ _ oO) ?_);rintro rc w5 ⟨rfl,hB5⟩;refine⟨hB5,?_⟩;replace hS:=hS.kx hB5;refine J1 ?_;intro wz15 hS;refine ja ?_;replace hS:St w _ ([(b10,32,ke (ki (wM W q (i+1)))),(b9,32,ke (ki (q i))),(b7,32,ke (ki (wM W q i))),(b6,32,ke (ki (oC q (i+1)))),(b2,32,ke (ki W))]++LO):=hS;exact⟨_,rfl,jY,jY,jY,jY,jY,jY,jY,rfl,b10,rfl,hS⟩
    ·refine kf Tryz.call91 rfl (oL W _ oO) ?_;rintro ra w3 ⟨rfl,hB3⟩;refine⟨hB3,?_⟩;replace hS:=hS.kx hB3;refine rW rfl rfl ?_ ?_
     ·refine J1 ?_;intro b10 wz16 hS hBz16;refine⟨hBz16,?_⟩;refine jn rfl (kf Tryz.call16 rfl (hsub _) ?_);rintro rb w4 ⟨rfl,hB4⟩;refine⟨hB4,?_⟩;replace hS:=hS.kx hB4;refine jn rfl (kf Tryz.call91 rfl (oL _ _ oO) ?_);rintro rc w5 ⟨rfl,hB5⟩;refine⟨hB5,?_⟩;replace hS:=hS.kx hB5;refine J1 ?_;intro wz17 hS;refine ja ?_;replace hS:St w _ ([(b10,32,ke (ki (wM W q (i+1)))),(b9,32,ke (ki (q i))),(b7,32,ke (ki (wM W q i))),(b6,32,ke (ki (oC q (i+1)))),(b2,32,ke (ki W))]++LO):=hS;exact⟨_,rfl,jY,jY,jY,jY,jY,jY,jY,rfl,b10,rfl,hS⟩
     ·refine kf Tryz.call16 rfl (hsub _) ?_;rintro rb w4 ⟨rfl,hB4⟩;refine⟨hB4,?_⟩;replace hS:=hS.kx hB4;refine rW rfl rfl ?_ ?_
      ·refine J1 ?_;intro b10 wz18 hS hBz18;refine⟨hBz18,?_⟩;refine jn rfl (kf Tryz.call91 rfl (oL _ _ oO) ?_);rintro rc w5 ⟨rfl,hB5⟩;refine⟨hB5,?_⟩;replace hS:=hS.kx hB5;refine J1 ?_;intro wz19 hS;refine ja ?_;replace hS:St w _ ([(b10,32,ke (ki (wM W q (i+1)))),(b9,32,ke (ki (q i))),(b7,32,ke (ki (wM W q i))),(b6,32,ke (ki (oC q (i+1)))),(b2,32,ke (ki W))]++LO):=hS;exact⟨_,rfl,jY,jY,jY,jY,jY,jY,jY,rfl,b10,rfl,hS⟩
      ·refine kf Tryz.call91 rfl (oL _ _ oO) ?_;rintro rc w5 ⟨rfl,hB5⟩;refine⟨hB5,?_⟩;replace hS:=hS.kx hB5;refine yy kR ?_;refine J1 ?_;intro b10 wz20 hS hBz20;refine⟨hBz20,?_⟩;refine J1 ?_;intro wz21 hS;refine ja ?_;replace hS:St w _ ([(b10,32,ke (ki (wM W q (i+1)))),(b9,32,ke (ki (q i))),(b7,32,ke (ki (wM W q i))),(b6,32,ke (ki (oC q (i+1)))),(b2,32,ke (ki W))]++LO):=hS;exact⟨_,rfl,jY,jY,jY,jY,jY,jY,jY,rfl,b10,rfl,hS⟩
   clear hS h2 h5 h6 h7 h16 h17 h18;rintro ρ w6 ⟨h2,h5,h6,h7,h16,h17,h18,h8,b10,h10,hS⟩;refine J4 ?_;refine jh (kf Tryz.call16 rfl (hsub2 _) ?_);rintro _ wc22 ⟨rfl,hBc22⟩;replace hS:=hS.kx hBc22;refine jp (ks (i:=i) rfl rfl (hG.sl hS kA) oO dO kW (jh (ug (i:=i) (ki (tX W q i)) kA rfl rfl kt hG hS oO rfl rfl ?_)));intro wz23 hS;refine ja ?_;obtain⟨LC2,hG,hS⟩:=hS;rw[ws]at hG;refine J2 ?_;intro wz24 hS;refine V2 ?_;exact⟨i+1,_,rfl,⟨hlt,jY,jY,jY,jY,jY,jY,vi rfl oO,_,hG,hS.drop ((ab _ _).trans (ab _ _))⟩,oO⟩
  ·refine J1 ?_;refine jt ?_;obtain rfl:n=i:=oO;rw[vW]at hG;exact⟨_,rfl,LO,h5,hG,hS.drop (ao _ _)⟩
 clear hS hG;rintro ρ w2 ⟨LO,h5,hG,hS⟩;refine J2 ?_;refine jt ?_;refine kJ rfl rfl ?_;exact⟨LO,hG,hS⟩
def yc (W:Rat) (q s:Nat->Rat):Nat->Rat
 |0=>0
 |k+1=>if pQ W<=oC q (k+1)then oC s (k+1)else 0
def DK (W:Rat) (q s:Nat->Rat) (k:Nat):Rat:=yc W q s (k+1)-yc W q s k
theorem Qz (va vb:Value) (n:Nat) (W:Rat) (q s:Nat->Rat) (K:Nat) (w:World) (ha:Sl ke 3 w va (kD n λk=>ki (q k))) (hb:Sl ke 3 w vb (kD n λk=>ki (s k))) (hn:n<=1000) (hW:L W<=K) (hq:∀k,k<n->L (q k)<=K/\L (s k)<=K) (hs:∀k,k<=n->L (oC q k)<=K/\L (oC s k)<=K) (hK:8*K+20<=MX):
  mb Tryz.prog 95 #[lC (ki W),va,vb] w λr w'=>∃LO,Gl ke 32 3 r (kD n λk=>ki (DK W q s k)) LO/\St w w' LO:=by
 have hS:=St.init w;have hla:=kj n λk=>ki (q k);have hlb:=kj n λk=>ki (s k);have hz:ke kZ=ke (ki (yc W q s 0)):=by rw[lL];rfl
 have hpW:=Iz W;refine enter Tryz.func95 rfl Tryz.ntmps95 rfl ?_;refine jr ?_;refine jh (lx (new:=ke (ki W)) rfl rfl hS ?_);intro b3 wz1 hS hBz1;refine J2 ?_;refine jp (ky rfl (ha.kb hS.kb) ⟨_,Tryz.underlying34⟩ (jh (mq (enc:=ke) (n:=n) kZ rfl rfl kW rfl oO oO oO oO hS ?_)));intro b16 wz2 hS hBz2;refine Y1 ?_;refine jp (lr rfl pM (jp (lr rfl pM (jp (lr rfl pM ?_)))));refine J1 ?_;intro b8 wz3 hS hBz3;refine J1 ?_;intro b9 wz4 hS hBz4;refine J1 ?_;intro b10 wz5 hS hBz5;refine J1 ?_;intro wz6 hS;refine J1 ?_;intro wz7 hS;refine J1 ?_;intro wz8 hS;refine ja ?_;replace hS:St w _ ((b10,32,ke kZ)::(b9,32,ke kZ)::(b8,32,ke kZ)::(b16,32,(List.replicate n kZ).flatMap ke)::[(b3,32,ke (ki W))]):=hS;rw[hz,lQ]at hS;replace hS:St w _ ([(b10,32,ke (ki (yc W q s 0))),(b9,32,ke (ki (oC s 0))),(b8,32,ke (ki (oC q 0))),(b3,32,ke (ki W))]++[(b16,32,(kD n λk=>ki (zf.c k)).flatMap ke)]):=hS.perm (List.Perm.cons _ (List.Perm.cons _ (List.Perm.cons _ (List.Perm.swap _ _ _))));have hG:Gl ke 32 3 (.slice (some ⟨b16,0,none⟩) n n) (kD n λk=>ki (wE (DK W q s) 0 k)) [(b16,32,(kD n λk=>ki (wE (DK W q s) 0 k)).flatMap ke)]:=qe (kj _ _) oO;refine J1 ?_;refine jp (ky rfl (ha.kb hS.kb) ⟨_,Tryz.underlying34⟩ ?_);refine J1 ?_;refine jb ?_;rw[hla];refine kG (λρ w'=>∃LO,ρ 7= .slice (some ⟨b16,0,none⟩) n n/\Gl ke 32 3 (.slice (some ⟨b16,0,none⟩) n n) (kD n λk=>ki (DK W q s k)) LO/\St w w' LO) ?_ ?_
 ·refine ja ?_;refine kF (σ:=Nat) (λi ρ w'=>i<=n/\ρ 2=vb/\ρ 3=pB b3/\ρ 7= .slice (some ⟨b16,0,none⟩) n n/\ρ 8=pB b8/\ρ 9=pB b9/\ρ 10=pB b10/\ρ 20=va/\ρ 21=iB n/\ρ 22=iB i/\∃LO,Gl ke 32 3 (.slice (some ⟨b16,0,none⟩) n n) (kD n λk=>ki (wE (DK W q s) i k)) LO/\
    St w w' ([(b10,32,ke (ki (yc W q s i))),(b9,32,ke (ki (oC s i))),(b8,32,ke (ki (oC q i))),(b3,32,ke (ki W))]++LO)) (λi=>n-i) 0
   ⟨aw _,rfl,rfl,rfl,rfl,rfl,rfl,rfl,rfl,rfl,_,hG,hS⟩ ?_
  clear hS hG;rintro i ρ w2 ⟨hi,h2,h3,h7,h8,h9,h10,h20,h21,h22,LO,hG,hS⟩;have htl:=kj n λk=>ki (wE (DK W q s) i k);refine V1 ?_;by_cases hlt:i<n
  ·refine V1 ?_;have hg:(kD n λk=>ki (q k)).getD i kZ=ki (q i):=kB _ _ hlt;have hg2:(kD n λk=>ki (s k)).getD i kZ=ki (s i):=kB _ _ hlt;obtain⟨hqi,hsi⟩:=hq i hlt;obtain⟨hs1,hs1'⟩:=hs i hi;obtain⟨hs2,hs2'⟩:=hs (i+1) hlt;have hpq:=Iz (q i);have hps:=Iz (s i);have h0:=oz;have hov:L (yc W q s i)<=K+1:=by
    cases i with
    |zero=>show L 0<=_;omega
    |succ i=>
     show L (if _ then _ else _)<=_;split<;>omega
   have hov2:L (yc W q s (i+1))<=K+1:=by
    show L (if _ then _ else _)<=_;split<;>omega
   have hadd:=λw=>ou (ki (oC q i)) (ki (pQ (q i))) w (by rw[Lr_ofQ,Lr_ofQ];omega);rw[toQ_ofQ,toQ_ofQ]at hadd;have hadd2:=λw=>ou (ki (oC s i)) (ki (pQ (s i))) w (by rw[Lr_ofQ,Lr_ofQ];omega);rw[toQ_ofQ,toQ_ofQ]at hadd2;have hsub2:=λw=>mI (ki (yc W q s (i+1))) (ki (yc W q s i)) w (by rw[Lr_ofQ,Lr_ofQ];omega);rw[toQ_ofQ,toQ_ofQ]at hsub2;refine J1 ?_;refine jp (ks (i:=i) h20 h22 (ha.kb hS.kb) oO dO kW (jq (kC (i:=i) kZ rfl kt (ha.kb hS.kb) dO rfl rfl (.inl rfl) ?_)));refine J1 ?_;intro b12 wz9 hS hBz9;refine J2 ?_;intro wz10 hS;refine ja ?_;rw[hg]at hS;replace hS:St w _ ([(b12,32,ke (ki (q i))),(b10,32,ke (ki (yc W q s i))),(b9,32,ke (ki (oC s i))),(b8,32,ke (ki (oC q i))),(b3,32,ke (ki W))]++LO):=hS;refine ja ?_;refine kK [ju 0,ju 1,jv 2,jv 3,jw 4] kR kR hS ?_;intro wz11 hS hBz11;refine J2 ?_;refine jn rfl (kf Tryz.call91 rfl (oL (q i) _ oO) ?_);rintro _ wc12 ⟨rfl,hBc12⟩;replace hS:=hS.kx hBc12;refine⟨hBc12,?_⟩;refine jn rfl (kf Tryz.call18 rfl (hadd _) ?_);rintro _ wc13 ⟨rfl,hBc13⟩;replace hS:=hS.kx hBc13;refine⟨hBc13,?_⟩;refine J1 ?_;intro wz14 hS;refine J2 ?_;refine jp (ky rfl (hb.kb hS.kb) ⟨_,Tryz.underlying34⟩ ?_);refine V2 ?_;refine kK [ju 0,jo 1,jo 2,jo 3,ju 4,jv 5,jv 6,jw 7] kR kR hS ?_;intro wz15 hS hBz15;refine J3 ?_;refine jl rfl (ks (i:=i) rfl rfl (hb.kb hS.kb) oO dO kW (jm rfl (kC (i:=i) kZ rfl kt (hb.kb hS.kb) dO rfl rfl (.inl rfl) ?_)));rw[hg2];refine jn rfl (kf Tryz.call91 rfl (oL (s i) _ oO) ?_);rintro _ wc16 ⟨rfl,hBc16⟩;replace hS:=hS.kx hBc16;refine⟨hBc16,?_⟩;refine jn rfl (kf Tryz.call18 rfl (hadd2 _) ?_);rintro _ wc17 ⟨rfl,hBc17⟩;replace hS:=hS.kx hBc17;refine⟨hBc17,?_⟩;refine J1 ?_;intro wz18 hS;refine jr ?_;refine jp (lr rfl pM ?_);refine J1 ?_;intro b13 wz19 hS hBz19;refine J1 ?_;intro wz20 hS;refine ja ?_;replace hS:St w _ ([(b13,32,ke kZ),(b12,32,ke (ki (q i))),(b10,32,ke (ki (yc W q s i))),(b9,32,ke (ki (oC s (i+1)))),(b8,32,ke (ki (oC q (i+1)))),(b3,32,ke (ki W))]++LO):=hS;refine ja ?_;refine kK [ju 0,ju 1,jv 2,jv 3,jo 4] kR kR hS ?_;intro wz21 hS hBz21;refine J2 ?_;refine jn rfl (kf Tryz.call91 rfl (oL W _ oO) ?_);rintro _ wc22 ⟨rfl,hBc22⟩;replace hS:=hS.kx hBc22;refine⟨hBc22,?_⟩;refine jn rfl (kf Tryz.call50 rfl (pR (ki (oC q (i+1))) (ki (pQ W)) _ (by rw[Lr_ofQ,Lr_ofQ];omega)) ?_);rintro _ wc23 ⟨rfl,hBc23⟩;replace hS:=hS.kx hBc23;refine⟨hBc23,?_⟩;refine V1 ?_;rw[toQ_ofQ,toQ_ofQ];refine kG (λρ w'=>ρ 2=vb/\ρ 3=pB b3/\ρ 7= .slice (some ⟨b16,0,none⟩) n n/\ρ 8=pB b8/\ρ 9=pB b9/\ρ 10=pB b10/\ρ 20=va/\ρ 21=iB n/\ρ 22=iB i/\ρ 11=iB i/\ρ 13=pB b13/\St w w' ([(b13,32,ke (ki (yc W q s (i+1)))),(b12,32,ke (ki (q i))),(b10,32,ke (ki (yc W q s i))),(b9,32,ke (ki (oC s (i+1)))),(b8,32,ke (ki (oC q (i+1)))),(b3,32,ke (ki W))]++LO)) ?_ ?_
   ·refine ja ?_;by_cases hge:pQ W<=oC q (i+1)
    ·refine lu rfl ((FK _ _).trans (ai hge)) ?_;refine J2 ?_;intro wz24 hS;refine ja ?_;have e:yc W q s (i+1)=oC s (i+1):=aj hge;rw[e];exact⟨_,rfl,jY,jY,jY,jY,jY,jY,jY,jY,jY,rfl,rfl,hS⟩
    ·refine lH rfl ((FK _ _).trans (ae hge)) ?_;refine ja ?_;have e:yc W q s (i+1)=0:=ah hge;rw[e,<-lL];exact⟨_,rfl,jY,jY,jY,jY,jY,jY,jY,jY,jY,rfl,rfl,hS⟩
   clear hS h2 h3 h7 h8 h9 h10 h20 h21 h22;rintro ρ w6 ⟨h2,h3,h7,h8,h9,h10,h20,h21,h22,h11,h13,hS⟩;refine J4 ?_;refine jh (kf Tryz.call16 rfl (hsub2 _) ?_);rintro _ wc25 ⟨rfl,hBc25⟩;replace hS:=hS.kx hBc25;refine jp (ks (i:=i) rfl rfl (hG.sl hS kA) oO dO kW (jh (ug (i:=i) (ki (DK W q s i)) kA rfl rfl kt hG hS oO rfl rfl ?_)));intro wz26 hS;refine ja ?_;obtain⟨LC2,hG,hS⟩:=hS;rw[ws]at hG;refine J2 ?_;intro wz27 hS;refine V2 ?_;exact⟨i+1,_,rfl,⟨hlt,jY,jY,jY,jY,jY,jY,jY,jY,vi rfl oO,_,hG,hS.drop ((ab _ _).trans (ab _ _))⟩,oO⟩
  ·refine J1 ?_;refine jt ?_;obtain rfl:n=i:=oO;rw[vW]at hG;exact⟨_,rfl,LO,h7,hG,hS.drop (ao _ _)⟩
 clear hS hG;rintro ρ w2 ⟨LO,h7,hG,hS⟩;refine J2 ?_;refine jt ?_;refine kJ rfl rfl ?_;exact⟨LO,hG,hS⟩
structure qn where
 h:Int
 rk:Int
 q:Rat
structure QJ where
 cash:Rat
 cl:List qn
structure tw where
 W:Rat
 legs:List (Nat×Nat)
def nK:qn:=⟨0,0,0⟩
def W6:QJ:=⟨0,[]⟩
def uh:tw:=⟨0,[]⟩
def Ch:Rat×Value:=(0,undef)
def nZ:Rat×Value×Value:=(0,undef,undef)
def lz (c:qn):List Value:= .int .i64 c.h:: .int .i64 c.rk::ke (ki c.q)
def nL (p:Nat×Nat):List Value:=[.int .i64 p.1,.int .i64 p.2]
def kI (e:Rat×Value×Value):List Value:=ke (ki e.1)++[e.2.1,e.2.2]
def mr (d:Rat×Value):List Value:=ke (ki d.1)++[d.2]
theorem nv (c:qn):(lz c).length=5:=rfl
theorem qC (c:Nat×Nat):(nL c).length=2:=rfl
theorem mL (c:Rat×Value×Value):(kI c).length=5:=rfl
theorem qJ (c:Rat×Value):(mr c).length=4:=rfl
structure nq where
 es:List QJ
 ds:List tw
def nq.e (g:nq) (i:Nat):QJ:=g.es.getD i W6
def nq.d (g:nq) (k:Nat):tw:=g.ds.getD k uh
def nq.c (g:nq) (i c:Nat):qn:=(g.e i).cl.getD c nK
def nq.n (g:nq):Nat:=g.es.length
def nq.cn (g:nq) (i:Nat):Nat:=(g.e i).cl.length
def nq.lg (g:nq) (k j:Nat):Nat×Nat:=(g.d k).legs.getD j (0,0)
structure EG (w:World) (vE vD:Value) (g:nq) (ev:List (Value×Value)) (dv:List Value):Prop where
 es:Sl kI 5 w vE (kD g.n λi=>((g.e i).cash,ev.getD i rM))
 ds:Sl mr 4 w vD (kD g.ds.length λk=>((g.d k).W,dv.getD k undef))
 cl:∀i,i<g.n->Sl lz 5 w (ev.getD i rM).1 (g.e i).cl
 lg:∀k,k<g.ds.length->Sl nL 2 w (dv.getD k undef) (g.d k).legs
 ag:∀i,i<g.n->∃a l c,(ev.getD i rM).2= .slice a l c
theorem EG.kb {w w':World} {vE vD:Value} {g:nq} {ev:List (Value×Value)} {dv:List Value} (h:EG w vE vD g ev dv) (hb:Below w.heap.size w w'):EG w' vE vD g ev dv:=⟨h.es.kb hb,h.ds.kb hb,λi hi=>(h.cl i hi).kb hb,λi hi=>(h.lg i hi).kb hb,h.ag⟩
structure LV where
 vR:Value
 vP:Value
 vs:List Value
 pv:List (Value×Value)
 lv:List (List Value)
def Hq:LV:=⟨undef,undef,[],[],[]⟩
def Xx:Ly:=⟨0,[],[],0⟩
def EY (p:Ly×LV):List Value:=qb p.1.n p.2.vR p.2.vP p.1.tot
theorem Eg (c:Ly×LV):(EY c).length=6:=rfl
structure EM (w:World) (bs:Nat) (vE vD vL vI:Value) (g:nq) (Y:Nat->Ly) (B:Nat->Nat->Bool) (ev:List (Value×Value)) (dv:List Value) (V:Nat->LV) (iv:List Value):Prop where
 at0:At w ⟨bs,0,none⟩ [vE,vD,vL,vI]
 gr:EG w vE vD g ev dv
 la:Sl EY 6 w vL (kD g.n λi=>(Y i,V i))
 lm:∀i,i<g.n->QF w (V i).vR (V i).vP (Y i) (V i).vs (V i).pv (V i).lv
 yn:∀i,i<g.n->(Y i).n=g.cn i
 il:iv.length=g.n
 ii:Sl se 1 w vI iv
 ir:∀i,i<g.n->Sl od 1 w (iv.getD i undef) (kD (g.cn i) (B i))
theorem EM.kb {w w':World} {bs:Nat} {vE vD vL vI:Value} {g:nq} {Y:Nat->Ly} {B:Nat->Nat->Bool} {ev:List (Value×Value)} {dv:List Value} {V:Nat->LV} {iv:List Value} (h:EM w bs vE vD vL vI g Y B ev dv V iv) (hb:Below w.heap.size w w'):EM w' bs vE vD vL vI g Y B ev dv V iv:=
 ⟨h.at0.kb hb,h.gr.kb hb,h.la.kb hb,λi hi=>(h.lm i hi).kb hb,h.yn,h.il,h.ii.kb hb,λi hi=>(h.ir i hi).kb hb⟩
def tU (n:Nat) (cn:Nat->Nat) (f:Nat->Nat->Rat):List (List RR):=kD n λi=>kD (cn i) λc=>ki (f i c)
theorem mW (n:Nat) (cn:Nat->Nat) (f:Nat->Nat->Rat):(tU n cn f).length=n:=kj _ _
theorem tN {n:Nat} (cn:Nat->Nat) (f:Nat->Nat->Rat) {i:Nat} (hi:i<n):(tU n cn f).getD i []=kD (cn i) λc=>ki (f i c):=kB _ _ hi
def r6 (g:nq):Prop:=∀k,k<g.ds.length->∀j,j<(g.d k).legs.length->(g.lg k j).1<g.n/\(g.lg k j).2<g.cn (g.lg k j).1
def RQ (W:Rat) (v:Value):Value:= .agg #[.bool (ki W).neg,.string (ki W).num,.string (ki W).den,v]
theorem Fz (vl v:Value) (vs:List Value) (W:Rat) (l:List (Nat×Nat)) (n:Nat) (cn:Nat->Nat) (f:Nat->Nat->Rat) (w:World) (hl:Sl nL 2 w vl l) (hA:rB ke 3 w v (tU n cn f) vs) (hok:∀j,j<l.length->(l.getD j (0,0)).1<n/\(l.getD j (0,0)).2<cn (l.getD j (0,0)).1) (hn:l.length<=1000):
  mb Tryz.prog 54 #[RQ W vl,v] w λr w'=>∃LO,Gl ke 32 3 r (kD l.length λj=>ki (f (l.getD j (0,0)).1 (l.getD j (0,0)).2)) LO/\St w w' LO:=by
 have hS:=St.init w;have hmx:=hl.maxLen;have hmx2:=hA.sl.maxLen;have hlen:=hA.len;rw[mW]at hlen;obtain⟨m,hm⟩:=jz l.length;obtain⟨F,hF⟩:∃F:Nat->Rat,F=λj=>f (l.getD j (0,0)).1 (l.getD j (0,0)).2:=⟨_,rfl⟩;rw[<-hm]at hok hn⊢;have hFe:(kD m λj=>ki (f (l.getD j (0,0)).1 (l.getD j (0,0)).2))=kD m λj=>ki (F j):=by rw[hF]
 rw[hFe];obtain⟨al,cl,hvl,_⟩:=hl.form;subst hvl;refine enter Tryz.func54 rfl Tryz.ntmps54 rfl ?_;refine jr ?_;refine jh (lx (new:=mr (W,.slice al l.length cl)) rfl rfl hS ?_);intro b2 wz1 hS hBz1;refine J3 ?_;refine jp (ky rfl (hl.kb hS.kb) ⟨_,Tryz.underlying62⟩ (jh (mq (enc:=ke) (n:=m) kZ rfl rfl kW rfl oO oO oO oO hS ?_)));intro b11 wz2 hS hBz2;refine V1 ?_;replace hS:St w _ ((b11,32,(List.replicate m kZ).flatMap ke)::[(b2,64,mr (W,.slice al l.length cl))]):=hS;rw[lQ]at hS;replace hS:St w _ ([(b2,64,mr (W,.slice al l.length cl))]++[(b11,32,(kD m λk=>ki (zf.c k)).flatMap ke)]):=hS.perm (List.Perm.swap _ _ _);have hG:Gl ke 32 3 (.slice (some ⟨b11,0,none⟩) m m) (kD m λk=>ki (wE F 0 k)) [(b11,32,(kD m λk=>ki (wE F 0 k)).flatMap ke)]:=qe (kj _ _) oO;refine J2 ?_;refine jp (ky rfl (hl.kb hS.kb) ⟨_,Tryz.underlying62⟩ ?_);refine J1 ?_;refine jb ?_;rw[<-hm];refine kG (λρ w'=>∃LO,ρ 5= .slice (some ⟨b11,0,none⟩) m m/\Gl ke 32 3 (.slice (some ⟨b11,0,none⟩) m m) (kD m λj=>ki (F j)) LO/\St w w' LO) ?_ ?_
 ·refine ja ?_;refine kF (σ:=Nat) (λi ρ w'=>i<=m/\ρ 1=v/\ρ 5= .slice (some ⟨b11,0,none⟩) m m/\ρ 13= .slice al m cl/\ρ 14=iB m/\ρ 15=iB i/\∃LO,Gl ke 32 3 (.slice (some ⟨b11,0,none⟩) m m) (kD m λk=>ki (wE F i k)) LO/\St w w' ([]++LO)) (λi=>m-i) 0
   ⟨aw _,rfl,rfl,(by rw[hm];rfl),rfl,rfl,_,hG,hS.drop (ao [_] _)⟩ ?_
  clear hS hG;rintro i ρ w2 ⟨hi,h1,h5,h13,h14,h15,LO,hG,hS⟩;rw[hm]at h13;have htl:=kj m λk=>ki (wE F i k);refine V1 ?_;by_cases hlt:i<m
  ·refine V1 ?_;obtain⟨p,hp⟩:=jz (l.getD i (0,0));obtain⟨h1n,h2n⟩:=hok i hlt;rw[<-hp]at h1n h2n;have hFi:F i=f p.1 p.2:=by rw[hF,hp]
   have hrow:=hA.row p.1 (by rw[mW];exact h1n);rw[tN cn f h1n]at hrow;have hrl:=kj (cn p.1) λc=>ki (f p.1 c);have hg:(kD (cn p.1) λc=>ki (f p.1 c)).getD p.2 kZ=ki (F i):=by rw[hFi];exact kB _ _ h2n
   refine J1 ?_;refine jp (ks (i:=i) h13 h15 (hl.kb hS.kb) oO dO nV (jq (kC (i:=i) (0,0) rfl p8 (hl.kb hS.kb) dO rfl rfl (.inl rfl) ?_)));refine J1 ?_;intro b7 wz3 hS hBz3;refine J2 ?_;intro wz4 hS;refine ja ?_;rw[<-hp]at hS;replace hS:St w _ ([(b7,66,nL p)]++LO):=hS;refine ja ?_;refine kK [jo 0,jo 1,jo 2,jo 3,ju 4,jo 5,ju 6,jo 7,ju 8,jo 9,ju 10,jo 11,jw 12] kR kR hS ?_;intro wz5 hS hBz5;refine J5 ?_;refine jl rfl (ks (i:=p.1) rfl rfl (hA.sl.kb hS.kb) oO dO lS (jm rfl (kC (i:=p.1) undef rfl md (hA.sl.kb hS.kb) dO rfl rfl (.inr rfl) ?_)));refine J2 ?_;refine jl rfl (ks (i:=p.2) rfl rfl (hrow.kb hS.kb) oO dO kW (jm rfl (kC (i:=p.2) kZ rfl kt (hrow.kb hS.kb) dO rfl rfl (.inl rfl) (jl rfl (ks (i:=i) rfl rfl (hG.sl hS kA) oO dO kW (jx rfl (ug (i:=i) (ki (F i)) kA rfl rfl kt hG hS oO (by rw[hg];rfl) rfl ?_)))))));intro wz6 hS;refine ja ?_;obtain⟨LC2,hG,hS⟩:=hS;rw[ws]at hG;refine V2 ?_;exact⟨i+1,_,rfl,⟨hlt,jY,jY,(by rw[hm];assumption),jY,vi rfl oO,_,hG,hS.drop (ab _ _)⟩,oO⟩
  ·refine J1 ?_;refine jt ?_;obtain rfl:m=i:=oO;rw[vW]at hG;exact⟨_,rfl,LO,h5,hG,hS⟩
 clear hS hG;rintro ρ w2 ⟨LO,h5,hG,hS⟩;refine J2 ?_;refine jt ?_;refine kJ rfl rfl ?_;exact⟨LO,hG,hS⟩
section
variable {w : World} {bs : Nat} {vE vD vL vI : Value} {g : nq} {Y : Nat → Ly} {B : Nat → Nat → Bool} {ev : List (Value × Value)} {dv : List Value} {V : Nat → LV} {iv : List Value}
theorem EM.a0 (h:EM w bs vE vD vL vI g Y B ev dv V iv):At w ⟨bs,0,none⟩ [vE]:=λj u hj=>by
 match j,hj with
 |0,hj=>exact h.at0 0 u hj
theorem EM.a1 (h:EM w bs vE vD vL vI g Y B ev dv V iv):At w ⟨bs,1,none⟩ [vD]:=λj u hj=>by
 match j,hj with
 |0,hj=>exact h.at0 1 u hj
theorem EM.a2 (h:EM w bs vE vD vL vI g Y B ev dv V iv):At w ⟨bs,2,none⟩ [vL]:=λj u hj=>by
 match j,hj with
 |0,hj=>exact h.at0 2 u hj
theorem EM.a3 (h:EM w bs vE vD vL vI g Y B ev dv V iv):At w ⟨bs,3,none⟩ [vI]:=λj u hj=>by
 match j,hj with
 |0,hj=>exact h.at0 3 u hj
end
def HI (g:nq) (k:Nat):Int:=(g.c (g.lg k 0).1 (g.lg k 0).2).h
theorem Nk {bs:Nat} {vE vD vL vI:Value} {g:nq} {Y:Nat->Ly} {B:Nat->Nat->Bool} {ev:List (Value×Value)} {dv:List Value} {V:Nat->LV} {iv:List Value} (k:Nat) (w:World) (hS0:EM w bs vE vD vL vI g Y B ev dv V iv) (hk:k<g.ds.length) (h0:0<(g.d k).legs.length) (hl:r6 g):
  mb Tryz.prog 96 #[.pointer (some ⟨bs,0,none⟩),RQ (g.d k).W (dv.getD k undef)] w λr w'=>r= .int .i64 (HI g k)/\Below w.heap.size w w':=by
 have hS:=St.init w;have hlg:=hS0.gr.lg k hk;obtain⟨h1,h2⟩:=hl k hk 0 h0;obtain⟨p,hp⟩:=jz (g.lg k 0);have hpl:(g.d k).legs.getD 0 (0,0)=p:=by rw[hp];rfl
 rw[<-hp]at h1 h2;have hcl:=hS0.gr.cl p.1 h1;have hel:(kD g.n λi=>((g.e i).cash,ev.getD i rM)).getD p.1 nZ=((g.e p.1).cash,ev.getD p.1 rM):=kB _ _ h1;have htl:=kj g.n λi=>((g.e i).cash,ev.getD i rM);have hho:HI g k=((g.e p.1).cl.getD p.2 nK).h:=by rw[hp];rfl
 obtain⟨al,cl,hvl,_⟩:=hlg.form;rw[hvl]at hlg⊢;obtain⟨a1,c1,hv1,_⟩:=hcl.form;rw[hv1]at hcl;have hel1:((kD g.n λi=>((g.e i).cash,ev.getD i rM)).getD p.1 nZ).2.1= .slice a1 (g.e p.1).cl.length c1:=by rw[hel];exact hv1
 rw[hho];have h2':p.2<(g.e p.1).cl.length:=h2;refine enter Tryz.func96 rfl Tryz.ntmps96 rfl ?_;refine jr ?_;refine jh (lx (new:=mr ((g.d k).W,.slice al (g.d k).legs.length cl)) rfl rfl hS ?_);intro b3 wz1 hS hBz1;refine V1 ?_;refine kK [jo 0,jo 1,jo 2,jo 3,ju 4,jo 5,ju 6,jo 7,jo 8,ju 9,jo 10,jo 11,ju 12,jo 13,ju 14,jo 15,jo 16,ju 17,jo 18,jo 19,ju 20,jo 21] kR kR hS ?_;intro wz2 hS hBz2;refine J1 ?_;refine jl rfl (nc rfl ?_);refine J2 ?_;refine jm rfl (oW (v:=vE) (cs:=[vE]) rfl ng (hS0.kb hS.kb).a0 rfl rfl (.inr rfl) ?_);refine J2 ?_;refine jl rfl (ks (i:=0) rfl rfl (hlg.kb hS.kb) oO dO nV ?_);refine jl rfl (lU rfl (lG (hlg.kb hS.kb) (λ_=>rfl) dD dO) qh ?_);refine jm rfl (lV (v:= .int .i64 p.1) (i:=0) (off:=0) (0,0) rfl mR (hlg.kb hS.kb) (λ_=>rfl) dD h0 rfl (by rw[hpl];rfl) (.inr rfl) ?_);refine jl rfl (ks (i:=p.1) rfl rfl (hS0.gr.es.kb hS.kb) oO dO nW ?_);refine jl rfl (lU rfl (lG (hS0.gr.es.kb hS.kb) (λ_=>rfl) dD dO) mS ?_);refine jm rfl (lV (v:= .slice a1 (g.e p.1).cl.length c1) (i:=p.1) (off:=3) nZ rfl nY (hS0.gr.es.kb hS.kb) (λ_=>rfl) dD oO rfl (by rw[<-hel1];rfl) (.inr rfl) ?_);refine J2 ?_;refine jl rfl (ks (i:=0) rfl rfl (hlg.kb hS.kb) oO dO nV ?_);refine jl rfl (lU rfl (lG (hlg.kb hS.kb) (λ_=>rfl) dD dO) qE ?_);refine jm rfl (lV (v:= .int .i64 p.2) (i:=0) (off:=1) (0,0) rfl mR (hlg.kb hS.kb) (λ_=>rfl) dD h0 rfl (by rw[hpl];rfl) (.inr rfl) ?_);refine jl rfl (ks (i:=p.2) rfl rfl (hcl.kb hS.kb) oO dO pG ?_);refine jl rfl (lU rfl (lG (hcl.kb hS.kb) (λ_=>rfl) dD dO) sK ?_);refine jm rfl (lV (i:=p.2) (off:=0) nK rfl mR (hcl.kb hS.kb) (λ_=>rfl) dD dO rfl rfl (.inr rfl) ?_);refine J1 ?_;refine jt ?_;refine kJ rfl rfl ?_;exact⟨rfl,hS.kb⟩
structure RowsIn {α:Type} (enc:α->List Value) (T:TypeId) (sz:Nat) (vs:List Value) (X:List (List α)) (D:List lj):Prop where
 len:vs.length=X.length
 g:∀i,i<X.length->∃L,L.Sublist D/\Gl enc T sz (vs.getD i undef) (X.getD i []) L
section
variable {α : Type} {enc : α → List Value} {T : TypeId} {sz : Nat} {vs : List Value} {X : List (List α)} {D D' L : List lj} {v : Value} {x : List α}
theorem RowsIn.nil:RowsIn enc T sz [] ([]:List (List α)) []:=⟨rfl,λ_ h=>absurd h (aS _)⟩
theorem RowsIn.mono (h:RowsIn enc T sz vs X D) (hs:D.Sublist D'):RowsIn enc T sz vs X D':=⟨h.len,λi hi=>by obtain⟨L,h1,h2⟩:=h.g i hi;exact⟨L,h1.trans hs,h2⟩⟩
theorem mX {β:Type} (l:List β) (b d:β) (i:Nat):(l++[b]).getD i d=if i<l.length then l.getD i d else if i=l.length then b else d:=by
 rw[ak];by_cases h:i<l.length
 ·rw[aj h,cK h,ak]
 ·rw[ah h,cH oO];by_cases e:i=l.length
  ·rw[aj e,e,dU];rfl
  ·rw[ah e,dj (by simp;omega)];rfl
theorem RowsIn.snoc (h:RowsIn enc T sz vs X D) (hg:Gl enc T sz v x L):RowsIn enc T sz (vs++[v]) (X++[x]) (L++D):=by
 refine⟨by rw[ax,ax,h.len];rfl,λi hi=> ?_⟩;rw[mX,mX,h.len];rw[ax,eQ]at hi;by_cases e:i<X.length
 ·rw[aj e,aj e];obtain⟨L2,h1,h2⟩:=h.g i e;exact⟨L2,h1.trans (ao _ _),h2⟩
 ·rw[ah e,ah e,aj oO,aj oO];exact⟨L,ap _ _,hg⟩
theorem RowsIn.row {w0 w:World} {P:List lj} (h:RowsIn enc T sz vs X D) (hS:St w0 w (P++D)) (hu:∀x,(enc x).length=sz) {i:Nat} (hi:i<X.length):Sl enc sz w (vs.getD i undef) (X.getD i []):=by
 obtain⟨L,h1,h2⟩:=h.g i hi;exact h2.sl (H:=[]) (hS.drop (h1.trans (ao _ _))) hu
theorem RowsIn.Lc {w0 w:World} {P Q LO:List lj} {TT:TypeId} (h:RowsIn enc T sz vs X D) (hG:Gl se TT 1 v vs LO) (hS:St w0 w (P++D)) (hS2:St w0 w (Q++LO)) (hu:∀x,(enc x).length=sz):rB enc sz w v X vs:=
 ⟨h.len,hG.sl hS2 (λ_=>rfl),λ_ hi=>h.row hS hu hi⟩
end
def Vb:Ly×LV:=(Xx,Hq)
def lW (Y:Nat->Ly) (x:Nat->Rat) (i c:Nat):Rat:=(te (Y i) (x i) (Y i).pl.length).c c
def o4 (Y:Nat->Ly) (x:Nat->Rat) (i c:Nat):Rat:=(ss (Y i) (x i) (Y i).pl.length).c c
theorem C0 (n:Nat) (cn:Nat->Nat) (f:Nat->Nat->Rat):tU (n+1) cn f=tU n cn f++[kD (cn n) λc=>ki (f n c)]:=pg _ _
theorem DT (v:Value) (h:v.oneCell'=true):∀u∈[v],u.oneCell'=true:=λu hu=>by rw[aO.1 hu];exact h
theorem WU {α:Type} (A B C:List α):((A++B)++C).Perm ((A++C)++B):=by
 rw[aG,aG];exact bV _ ay
theorem QF.OC {w:World} {vR vP:Value} {y:Ly} {vs:List Value} {pv:List (Value×Value)} {lv:List (List Value)} (h:QF w vR vP y vs pv lv):∃aR nR cR aP nP cP,vR= .slice aR nR cR/\vP= .slice aP nP cP:=by
 obtain⟨aR,cR,h1,_⟩:=h.rk.sl.form;obtain⟨aP,cP,h2,_⟩:=h.pl.sl.form;exact⟨aR,_,cR,aP,_,cP,h1,h2⟩
theorem Xy {α:Type} (A D L1 L2 Ld Ls:List α):(((((A++D)++L1)++L2)++Ld)++Ls).Perm (((A++(Ls++(Ld++D)))++L2)++L1):=by
 have e1:((((A++D)++L1)++L2)++Ld)++Ls=A++((D++(L1++L2))++(Ld++Ls)):=by simp only[aG]
 have e2:((A++(Ls++(Ld++D)))++L2)++L1=A++((Ls++Ld)++(D++(L2++L1))):=by simp only[aG]
 rw[e1,e2];refine bV A (List.perm_append_comm.trans (List.Perm.append ?_ (bV _ ?_)))<;>exact ay
theorem Rh {bs:Nat} {vE vD vL vI:Value} {g:nq} {Y:Nat->Ly} {B:Nat->Nat->Bool} {ev:List (Value×Value)} {dv:List Value} {V:Nat->LV} {iv:List Value} (vx:Value) (x:Nat->Rat) (w:World) (hS0:EM w bs vE vD vL vI g Y B ev dv V iv) (hx:Sl ke 3 w vx (kD g.n λi=>ki (x i))) (hn:g.n<=1000) (hh:∀i,i<g.n->GZ (Y i) (x i)):
  mb Tryz.prog 55 #[.pointer (some ⟨bs,0,none⟩),vx] w λr w'=>∃v1 v2 u1 u2,r= .agg #[v1,v2]/\rB ke 3 w' v1 (tU g.n g.cn (lW Y x)) u1/\rB ke 3 w' v2 (tU g.n g.cn (o4 Y x)) u2/\Below w.heap.size w w':=by
 have hS:=St.init w;have hlx:=kj g.n λi=>ki (x i);have hly:=kj g.n λi=>(Y i,V i);obtain⟨n,hn'⟩:∃n,n=g.n:=⟨_,rfl⟩;refine enter Tryz.func55 rfl Tryz.ntmps55 rfl ?_;refine J1 ?_;intro b4 wz1 hS hBz1;refine J1 ?_;intro b5 wz2 hS hBz2;refine ja ?_;replace hS:St w _ [(b5,123,[kp,kp]),(b4,123,[kp,kp])]:=hS;refine J1 ?_;refine jp (nc rfl ?_);refine J1 ?_;refine jq (oW (v:=vL) (cs:=[vL]) rfl rC (hS0.kb hS.kb).a2 rfl rfl (.inr rfl) (jp (ky rfl (hS0.la.kb hS.kb) ⟨_,Tryz.underlying104⟩ ?_)));refine J1 ?_;refine jb ?_;rw[hly];refine kG (λρ w'=>ρ 4=pB b4/\ρ 5=pB b5/\∃v1 v2 u1 u2 L1 L2 D,Gl se 34 1 v1 u1 L1/\Gl se 34 1 v2 u2 L2/\RowsIn ke 32 3 u1 (tU g.n g.cn (lW Y x)) D/\RowsIn ke 32 3 u2 (tU g.n g.cn (o4 Y x)) D/\St w w' ((([(b5,123,[v1,v2]),(b4,123,[kp,kp])]++D)++L1)++L2)) ?_ ?_
 ·refine ja ?_;refine kF (σ:=Nat) (λi ρ w'=>i<=g.n/\ρ 0=pB bs/\ρ 1=vx/\ρ 4=pB b4/\ρ 5=pB b5/\ρ 15=vL/\ρ 16=iB g.n/\ρ 17=iB i/\∃v1 v2 u1 u2 L1 L2 D,Gl se 34 1 v1 u1 L1/\Gl se 34 1 v2 u2 L2/\RowsIn ke 32 3 u1 (tU i g.cn (lW Y x)) D/\RowsIn ke 32 3 u2 (tU i g.cn (o4 Y x)) D/\St w w' ((([(b5,123,[v1,v2]),(b4,123,[kp,kp])]++D)++L1)++L2)) (λi=>g.n-i) 0
   ⟨aw _,rfl,rfl,rfl,rfl,rfl,rfl,rfl,kp,kp,[],[],[],[],[],Gl.nil _ _ _,Gl.nil _ _ _,RowsIn.nil,RowsIn.nil,hS⟩ ?_
  clear hS;rintro i ρ w2 ⟨hi,h0,h1,h4,h5,h15,h16,h17,v1,v2,u1,u2,L1,L2,D,hG1,hG2,hR1,hR2,hS⟩;have hl1:=hR1.len;have hl2:=hR2.len;rw[mW]at hl1 hl2;refine V1 ?_;by_cases hlt:i<g.n
  ·refine V1 ?_;have hgy:(kD g.n λi=>(Y i,V i)).getD i Vb=(Y i,V i):=kB _ _ hlt;have hgx:(kD g.n λi=>ki (x i)).getD i kZ=ki (x i):=kB _ _ hlt;have hyn:=hS0.yn i hlt;have hlm:=hS0.lm i hlt;obtain⟨y,hy⟩:=jz (Y i);obtain⟨q,hq⟩:=jz (V i);have hsl:=hh i hlt;obtain⟨aR,nR,cR,aP,nP,cP,hvR,hvP⟩:=hlm.OC;rw[<-hq]at hvR hvP;rw[<-hy]at hyn hsl;rw[<-hy,<-hq]at hgy hlm;rw[hvR,hvP]at hlm;refine J1 ?_;refine jp (ks (i:=i) h15 h17 (hS0.la.kb hS.kb) oO dO Ca (jq (kC (v:=NE y.n (.slice aR nR cR) (.slice aP nP cP) y.tot) (i:=i) Vb rfl po (hS0.la.kb hS.kb) oO rfl (by rw[hgy,<-hvR,<-hvP];rfl) (.inl rfl) ?_)));refine J1 ?_;intro b7 wz3 hS hBz3;refine J2 ?_;intro wz4 hS;refine ja ?_;replace hS:St w _ ((b7,112,qb y.n (.slice aR nR cR) (.slice aP nP cP) y.tot)::((([(b5,123,[v1,v2]),(b4,123,[kp,kp])]++D)++L1)++L2)):=hS;refine kG (λρ w'=>ρ 0=pB bs/\ρ 1=vx/\ρ 4=pB b4/\ρ 5=pB b5/\ρ 7=pB b7/\ρ 6=iB i/\ρ 15=vL/\ρ 16=iB g.n/\ρ 17=iB i/\∃vd Ld,ρ 8=vd/\Gl ke 32 3 vd (kD y.n λk=>ki ((te y (x i) y.pl.length).c k)) Ld/\St w w' (((b7,112,qb y.n (.slice aR nR cR) (.slice aP nP cP) y.tot)::((([(b5,123,[v1,v2]),(b4,123,[kp,kp])]++D)++L1)++L2))++Ld)) ?_ ?_
   ·refine ja ?_;refine vV 9 [ju 0,jo 1,jo 2,jo 3,ju 4,jv 5,jo 6,jo 7,jo 8,jo 10,jw 11] kR kR hS ?_;intro wz5 hS hBz5;refine qI kR rfl rfl (kP (k:=0) rfl po hS rfl rfl rfl (.inl rfl) (mG kR rfl rfl (kw h1 (mG kR rfl rfl (kw rfl (mG kR rfl rfl (ks (i:=i) rfl rfl (hx.kb hS.kb) oO dO kW (qI kR rfl rfl (kC (i:=i) kZ rfl kt (hx.kb hS.kb) dO rfl rfl (.inl rfl) ?_)))))))));rw[hgx];refine rW rfl rfl ?_ ?_
    ·refine J1 ?_;intro b9 wz6 hS hBz6;refine⟨hBz6,?_⟩;refine jn rfl (kf Tryz.call48 rfl (yK _ _ y _ _ _ (x i) _ (hlm.kb hS.kb) hsl.d) ?_);rintro rd w3 ⟨vd,Ld,rfl,hGd,hS3⟩;refine⟨hS3.kb,?_⟩;replace hS:=(hS.join hS3).perm ay;refine J5 ?_;intro wz7 hS;refine ja ?_;exact⟨_,rfl,jY,jY,jY,jY,rfl,rfl,jY,jY,jY,vd,Ld,rfl,hGd,hS.drop (ab _ _)⟩
    ·refine kf Tryz.call48 rfl (yK _ _ y _ _ _ (x i) _ (hlm.kb hS.kb) hsl.d) ?_;rintro rd w3 ⟨vd,Ld,rfl,hGd,hS3⟩;refine⟨hS3.kb,?_⟩;replace hS:=(hS.join hS3).perm ay;refine mG kR rfl rfl (kw rfl (mG kR rfl rfl (wH rfl rfl (mG kR rfl rfl (wH rfl rfl (yy kR ?_))))));refine J1 ?_;intro b9 wz8 hS hBz8;refine⟨hBz8,?_⟩;refine J2 ?_;intro wz9 hS;refine ja ?_;exact⟨_,rfl,jY,jY,jY,jY,rfl,rfl,jY,jY,jY,vd,Ld,rfl,hGd,hS.drop (ab _ _)⟩
   clear hS h0 h1 h4 h5 h15 h16 h17;rintro ρ w4 ⟨h0,h1,h4,h5,h7,h6,h15,h16,h17,vd,Ld,h8,hGd,hS⟩;refine ja ?_;refine kG (λρ w'=>ρ 0=pB bs/\ρ 1=vx/\ρ 4=pB b4/\ρ 5=pB b5/\ρ 7=pB b7/\ρ 6=iB i/\ρ 15=vL/\ρ 16=iB g.n/\ρ 17=iB i/\ρ 8=vd/\∃vs_ Ls,ρ 10=vs_/\Gl ke 32 3 vs_ (kD y.n λk=>ki ((ss y (x i) y.pl.length).c k)) Ls/\St w w' ((((b7,112,qb y.n (.slice aR nR cR) (.slice aP nP cP) y.tot)::((([(b5,123,[v1,v2]),(b4,123,[kp,kp])]++D)++L1)++L2))++Ld)++Ls)) ?_ ?_
   ·refine ja ?_;refine vV 9 [ju 0,jo 1,jo 2,jo 3,ju 4,jv 5,jo 6,jo 7,jo 8,jo 10,jw 11] kR kR hS ?_;intro wz10 hS hBz10;refine qI kR rfl rfl (kP (k:=0) h7 po hS rfl rfl rfl (.inl rfl) (mG kR rfl rfl (kw h1 (mG kR rfl rfl (kw h6 (mG kR rfl rfl (ks (i:=i) rfl rfl (hx.kb hS.kb) oO dO kW (qI kR rfl rfl (kC (i:=i) kZ rfl kt (hx.kb hS.kb) dO rfl rfl (.inl rfl) ?_)))))))));rw[hgx];refine rW rfl rfl ?_ ?_
    ·refine J1 ?_;intro b11 wz11 hS hBz11;refine⟨hBz11,?_⟩;refine jn rfl (kf Tryz.call92 rfl (AI _ _ y _ _ _ (x i) _ (hlm.kb hS.kb) hsl) ?_);rintro rd w3 ⟨vs_,Ls,rfl,hGs,hS3⟩;refine⟨hS3.kb,?_⟩;replace hS:=(hS.join hS3).perm ay;refine J5 ?_;intro wz12 hS;refine ja ?_;exact⟨_,rfl,jY,jY,jY,jY,jY,jY,jY,jY,jY,jY,vs_,Ls,rfl,hGs,hS.drop (ab _ _)⟩
    ·refine kf Tryz.call92 rfl (AI _ _ y _ _ _ (x i) _ (hlm.kb hS.kb) hsl) ?_;rintro rd w3 ⟨vs_,Ls,rfl,hGs,hS3⟩;refine⟨hS3.kb,?_⟩;replace hS:=(hS.join hS3).perm ay;refine mG kR rfl rfl (kw rfl (mG kR rfl rfl (wH rfl rfl (mG kR rfl rfl (wH rfl rfl (yy kR ?_))))));refine J1 ?_;intro b11 wz13 hS hBz13;refine⟨hBz13,?_⟩;refine J2 ?_;intro wz14 hS;refine ja ?_;exact⟨_,rfl,jY,jY,jY,jY,jY,jY,jY,jY,jY,jY,vs_,Ls,rfl,hGs,hS.drop (ab _ _)⟩
   clear hS h0 h1 h4 h5 h6 h7 h8 h15 h16 h17;rintro ρ w5 ⟨h0,h1,h4,h5,h7,h6,h15,h16,h17,h8,vs_,Ls,h10,hGs,hS⟩;rw[hyn]at hGd hGs;have e1:(kD (g.cn i) λk=>ki ((te y (x i) y.pl.length).c k))=kD (g.cn i) λc=>ki (lW Y x i c):=by unfold lW;rw[<-hy]
   have e2:(kD (g.cn i) λk=>ki ((ss y (x i) y.pl.length).c k))=kD (g.cn i) λc=>ki (o4 Y x i c):=by unfold o4;rw[<-hy]
   rw[e1]at hGd;rw[e2]at hGs;obtain⟨ad,cd,hvd⟩:=hGd.len;obtain⟨az,cz,hvz⟩:=hGs.len;rw[kj]at hvd hvz;subst hvd hvz;replace hS:St w w5 ((([(b5,123,[v1,v2]),(b4,123,[kp,kp])]++(Ls++(Ld++D)))++L2)++L1):=(hS.drop (bk (bk (ab _ _) (bI _)) (bI _))).perm (Xy _ _ _ _ _ _);refine J3 ?_;refine jh (np (vs:=[_]) rfl lS rfl dD dD dD (by simp[Value.cells]) rfl hS ?_);intro b43 wz15 hS hBz15;refine jh (mO [_] rfl rfl lS dD hG1 hS rfl rfl (λ_=>rfl) (DT _ rfl) dL dL ?_);intro va16 La16 wa16 hG1 hS hga16;refine J1 ?_;refine jh (oX (k:=0) rfl rfl pz hS rfl (by simp) (by obtain⟨a,c,h⟩:=hG1.len;rw[h];rfl) ?_);intro wz17 hS;refine ja ?_;obtain⟨v1',hv1'⟩:∃v,v=va16:=⟨_,rfl⟩;rw[<-hv1']at hG1;replace hS:St w _ (((([(b5,123,[va16,v2]),(b4,123,[kp,kp])]++(Ls++(Ld++D)))++L2))++La16):=hS;rw[<-hv1']at hS;have hS':=hS.perm (WU _ _ _);clear hS;have hS:=hS';clear hS';refine J3 ?_;refine jh (np (vs:=[_]) rfl lS rfl dD dD dD (by simp[Value.cells]) rfl hS ?_);intro b49 wz18 hS hBz18;refine jh (mO [_] rfl rfl lS dD hG2 hS rfl rfl (λ_=>rfl) (DT _ rfl) dL dL ?_);intro va19 La19 wa19 hG2 hS hga19;refine J1 ?_;refine jh (oX (k:=0) rfl rfl pz hS rfl (by simp) (by obtain⟨a,c,h⟩:=hG2.len;rw[h];rfl) ?_);intro wz20 hS;refine V2 ?_;obtain⟨v2',hv2'⟩:∃v,v=va19:=⟨_,rfl⟩;rw[<-hv2']at hG2;replace hS:St w _ (((([(b5,123,[v1',va19]),(b4,123,[kp,kp])]++(Ls++(Ld++D)))++La16))++La19):=hS;rw[<-hv2']at hS;have hR1':=(hR1.snoc hGd).mono (ao Ls _);have hR2':=(hR2.mono (ao Ld D)).snoc hGs;rw[<-C0]at hR1' hR2';exact⟨i+1,_,rfl,⟨hlt,jY,jY,jY,jY,jY,jY,vi rfl oO,v1',v2',_,_,La16,La19,_,hG1,hG2,hR1',hR2',hS⟩,oO⟩
  ·refine J1 ?_;refine jt ?_;obtain rfl:g.n=i:=oO;exact⟨_,rfl,h4,h5,v1,v2,u1,u2,L1,L2,D,hG1,hG2,hR1,hR2,hS⟩
 clear hS;rintro ρ w2 ⟨h4,h5,v1,v2,u1,u2,L1,L2,D,hG1,hG2,hR1,hR2,hS⟩;obtain⟨a1,c1,hf1⟩:=hG1.len;obtain⟨a2,c2,hf2⟩:=hG2.len;subst hf1 hf2;refine J2 ?_;intro wz21 hS;refine ja ?_;replace hS:St w _ ((([(b5,123,[.slice a1 u1.length c1,.slice a2 u2.length c2]),(b4,123,[.slice a1 u1.length c1,.slice a2 u2.length c2])]++D)++L1)++L2):=hS;have hSa:=hS.drop (ap _ L2);have hSb:=hSa.drop (ap _ L1);refine jt ?_;refine mA (k:=1) rfl h4 t8 hS rfl rfl ?_;exact⟨_,_,u1,u2,rfl,hR1.Lc hG1 hSb hSa kA,hR2.Lc hG2 hSb hS kA,hS.kb⟩
abbrev JJ:Type:=Nat×Nat×Rat
def y4 (T:List JJ):Mx:=T.foldl (λM o=>rV M o.1 o.2.1 o.2.2) (λ_ _=>0)
theorem CY (T:List JJ) (o:JJ):y4 (T++[o])=rV (y4 T) o.1 o.2.1 o.2.2:=by unfold y4;rw[eI];rfl
def O7 (n:Nat) (T:List JJ) (o:JJ):Prop:=o.1<n/\o.2.1<n/\L (y4 T o.1 o.2.1)+L o.2.2<=MX
def XE (n:Nat) (T:List JJ):Prop:=∀P o,(P++[o])<+:T->O7 n P o
def mT {α:Type} (f:Nat->List α) (k:Nat):List α:=(List.range k).flatMap f
theorem pd {α:Type} (f:Nat->List α) (k:Nat):mT f (k+1)=mT f k++f k:=by unfold mT;rw[iV,du];simp
theorem QS {α:Type} (f:Nat->List α) {k m:Nat} (h:k<=m):mT f k<+:mT f m:=by
 induction m with
 |zero=>obtain rfl:k=0:=oO;exact fI _
 |succ m ih=>
  by_cases e:k=m+1
  ·rw[e];exact fI _
  ·rw[pd];exact(ih oO).trans (jF _ _)
theorem ww {α:Type} (f:Nat->List α) {k m:Nat} (h:k<m) {p:List α} (hp:p<+:f k):mT f k++p<+:mT f m:=by
 have h1:mT f k++p<+:mT f (k+1):=by rw[pd];exact(j9 _).2 hp
 exact h1.trans (QS f h)
section
variable (g : nq) (B : Nat → Nat → Bool) (dl sl : Nat → Nat → Rat)
def tu (i c:Nat):List JJ:=if(g.c i c).h≠-1/\B i c=false then [((g.c i c).h.toNat,i,sl i c)]else []
def Bx (i:Nat):List JJ:=mT (tu g B sl i) (g.cn i)
def qD (d j:Nat):Rat:=dl (g.lg d j).1 (g.lg d j).2
def rN (d i j:Nat):Rat:=if(g.lg d j).1=i then sl (g.lg d j).1 (g.lg d j).2 else 0
def wR (d i j:Nat):Rat:=DK (g.d d).W (qD g dl d) (rN g sl d i) j
def mJ (d:Nat):Nat:=(g.d d).legs.length
def ye (d i j:Nat):List JJ:=[((g.lg d j).1,i,wR g dl sl d i j)]
def AD (d i:Nat):List JJ:=if 0<mJ g d/\HI g d≠-1 then [((HI g d).toNat,i,ku (rN g sl d i) (mJ g d)-ku (wR g dl sl d i) (mJ g d))]else []
def wS (d i:Nat):List JJ:=mT (ye g dl sl d i) (mJ g d)++AD g dl sl d i
def D8 (d:Nat):List JJ:=mT (wS g dl sl d) g.n
def I4:List JJ:=mT (Bx g B sl) g.n++mT (D8 g dl sl) g.ds.length
def NQ:Prop:=∀i,i<g.n->∀c,c<g.cn i->(g.c i c).h≠-1->∃a:Nat,a<g.n/\(g.c i c).h=a
structure W5 (K:Nat):Prop where
 gr:XE g.n (I4 g B dl sl)
 W:∀d,d<g.ds.length->L (g.d d).W<=K
 q:∀d,d<g.ds.length->∀j,j<mJ g d->L (qD g dl d j)<=K/\∀i,i<g.n->L (rN g sl d i j)<=K
 s:∀d,d<g.ds.length->∀j,j<=mJ g d->L (oC (qD g dl d) j)<=K/\∀i,i<g.n->L (oC (rN g sl d i) j)<=K
 k:8*K+20<=MX
 so:∀d,d<g.ds.length->∀i,i<g.n->ya (kD (mJ g d) λj=>ki (rN g sl d i j))+1<=MX/\ya (kD (mJ g d) λj=>ki (wR g dl sl d i j))+1<=MX/\L (ku (rN g sl d i) (mJ g d))+L (ku (wR g dl sl d i) (mJ g d))<=MX
 ln:∀d,d<g.ds.length->mJ g d<=1000
end
theorem Di (f:Nat->Rat):∀n,yd ((kD n λk=>ki (f k)).map toQ)=ku f n
 |0=>rfl
 |n+1=>by
  rw[pg,bS,cJ,jV,Ez,Di f n,toQ_ofQ];rfl
theorem FP {α:Type} {enc:α->List Value} {e:TypeId} {size:Nat} {v:Value} {X:List α} {L P M:List lj} {w0 w:World} (hG:Gl enc e size v X L) (hs:L.Sublist P) (hS:St w0 w (P++M)) (hu:∀x,(enc x).length=size):Sl enc size w v X:=
 hG.sl (H:=[]) (hS.drop (hs.trans (ap _ _))) hu
theorem XB {α:Type} (Lr P M Lo:List α):(Lr++((P++M)++Lo)).Perm ((P++(Lr++Lo))++M):=by
 have e1:Lr++((P++M)++Lo)=Lr++(P++(M++Lo)):=by simp only[aG]
 have e2:(P++(Lr++Lo))++M=P++(Lr++(Lo++M)):=by simp only[aG]
 rw[e1,e2];have h1:(Lr++(P++(M++Lo))).Perm (P++(Lr++(M++Lo))):=by
  rw[<-aG,<-aG P];exact bQ _ ay
 exact h1.trans (bV _ (bV _ ay))
def Na (q:Rat) (v1 v2:Value):Value:= .agg #[.bool (ki q).neg,.string (ki q).num,.string (ki q).den,v1,v2]
theorem EG.form {w:World} {vE vD:Value} {g:nq} {ev:List (Value×Value)} {dv:List Value} (h:EG w vE vD g ev dv) {i:Nat} (hi:i<g.n):∃a1 c1 a2 l2 c2,ev.getD i rM=(.slice a1 (g.e i).cl.length c1,.slice a2 l2 c2):=by
 obtain⟨a1,c1,h1,_⟩:=(h.cl i hi).form;obtain⟨a2,l2,c2,h2⟩:=h.ag i hi;exact⟨a1,c1,a2,l2,c2,jP h1 h2⟩
theorem Kc {bs:Nat} {vE vD vL vI v1 v2:Value} {g:nq} {Y:Nat->Ly} {B:Nat->Nat->Bool} {ev:List (Value×Value)} {dv u1 u2:List Value} {V:Nat->LV} {iv:List Value} (dl sl:Nat->Nat->Rat) (K:Nat) (w:World) (hS0:EM w bs vE vD vL vI g Y B ev dv V iv) (hM1:rB ke 3 w v1 (tU g.n g.cn dl) u1) (hM2:rB ke 3 w v2 (tU g.n g.cn sl) u2) (hn:g.n<=1000) (hl:r6 g) (hho:NQ g) (hK:W5 g B dl sl K):
  mb Tryz.prog 56 #[.pointer (some ⟨bs,0,none⟩),.agg #[v1,v2]] w λr w'=>∃bo R,r= .slice (some ⟨bo,0,none⟩) g.n g.n/\mN R g.n g.n (qM (y4 (I4 g B dl sl)))/\St w w' (mB ke 32 34 bo R []):=by
 have hS:=St.init w;have hly:=kj g.n λi=>(Y i,V i);have hle:=kj g.n λi=>((g.e i).cash,ev.getD i rM);have hld:=kj g.ds.length λk=>((g.d k).W,dv.getD k undef);have hu1:=hM1.len;have hu2:=hM2.len;rw[mW]at hu1 hu2;have hil:=hS0.il;refine enter Tryz.func56 rfl Tryz.ntmps56 rfl ?_;refine jr ?_;refine jh (lx (new:=[v1,v2]) rfl rfl hS ?_);intro b3 wz1 hS hBz1;refine V1 ?_;replace hS:St w _ [(b3,123,[v1,v2])]:=hS;refine J1 ?_;refine jp (nc rfl ?_);refine J1 ?_;refine jq (oW (v:=vL) (cs:=[vL]) rfl rC (hS0.kb hS.kb).a2 rfl rfl (.inr rfl) (jp (ky rfl (hS0.la.kb hS.kb) ⟨_,Tryz.underlying104⟩ ?_)));rw[hly];refine jh (kf Tryz.call93 rfl (Ej g.n _ hn) ?_);rintro rm w3 ⟨bo,R0,rfl,hR0,hS3⟩;replace hS:=(hS.join hS3).perm ay;refine J2 ?_;refine jp (nc rfl ?_);refine J2 ?_;refine jq (oW (v:=vE) (cs:=[vE]) rfl ng (hS0.kb hS.kb).a0 rfl rfl (.inr rfl) (jp (ky rfl (hS0.gr.es.kb hS.kb) ⟨_,Tryz.underlying26⟩ ?_)));refine J1 ?_;refine jb ?_;rw[hle];refine kG (λρ w'=>ρ 0=pB bs/\ρ 3=pB b3/\ρ 5= .slice (some ⟨bo,0,none⟩) g.n g.n/\∃R,mN R g.n g.n (qM (y4 (mT (Bx g B sl) g.n)))/\St w w' ([(b3,123,[v1,v2])]++mB ke 32 34 bo R [])) ?_ ?_
 ·refine ja ?_;refine kF (σ:=Nat) (λi ρ w'=>i<=g.n/\ρ 0=pB bs/\ρ 3=pB b3/\ρ 5= .slice (some ⟨bo,0,none⟩) g.n g.n/\ρ 31=vE/\ρ 32=iB g.n/\ρ 33=iB i/\∃R,mN R g.n g.n (qM (y4 (mT (Bx g B sl) i)))/\St w w' ([(b3,123,[v1,v2])]++mB ke 32 34 bo R [])) (λi=>g.n-i) 0
   ⟨aw _,rfl,rfl,rfl,rfl,rfl,rfl,R0,hR0,hS⟩ ?_
  clear hS hS3;rintro i ρ w2 ⟨hi,h0,h3,h5,h31,h32,h33,R,hR,hS⟩;refine V1 ?_;by_cases hlt:i<g.n
  ·refine V1 ?_;obtain⟨a1,c1,a2,l2,c2,hev⟩:=hS0.gr.form hlt;have hge:(kD g.n λi=>((g.e i).cash,ev.getD i rM)).getD i nZ=((g.e i).cash,.slice a1 (g.e i).cl.length c1,.slice a2 l2 c2):=by rw[kB _ _ hlt,hev]
   have hcl:=hS0.gr.cl i hlt;rw[hev]at hcl;dsimp only at hcl;have hcm:=hcl.maxLen;refine J1 ?_;refine jp (ks (i:=i) h31 h33 (hS0.gr.es.kb hS.kb) oO dO nW (jq (kC (v:=Na (g.e i).cash (.slice a1 (g.e i).cl.length c1) (.slice a2 l2 c2)) (i:=i) nZ rfl ua (hS0.gr.es.kb hS.kb) oO rfl (by rw[hge];rfl) (.inl rfl) ?_)));refine J1 ?_;intro b7 wz2 hS hBz2;refine J2 ?_;intro wz3 hS;refine ja ?_;obtain⟨bE,hbE⟩:∃bE:lj,bE=(b7,51,kI ((g.e i).cash,.slice a1 (g.e i).cl.length c1,.slice a2 l2 c2)):=⟨_,rfl⟩;replace hS:St w _ ([(b7,51,kI ((g.e i).cash,.slice a1 (g.e i).cl.length c1,.slice a2 l2 c2)),(b3,123,[v1,v2])]++mB ke 32 34 bo R []):=hS;refine J2 ?_;refine jp (ky rfl (hcl.kb hS.kb) ⟨_,Tryz.underlying48⟩ ?_);refine J1 ?_;refine jb ?_;obtain⟨T0,hT0⟩:=jz (mT (Bx g B sl) i);have hT1:mT (Bx g B sl) (i+1)=T0++mT (tu g B sl i) (g.cn i):=by rw[pd,hT0];rfl
   rw[<-hT0]at hR;have hpre:∀c,c<g.cn i->∀o,tu g B sl i c=[o]->O7 g.n (T0++mT (tu g B sl i) c) o:=by
    intro c hc o ho;refine hK.gr _ _ ?_;have h1:mT (tu g B sl i) c++[o]<+:Bx g B sl i:=ww _ hc (by rw[ho];exact fI _);have h2:=ww (Bx g B sl) hlt h1;rw[aG,hT0];exact h2.trans (jF _ _)
   refine kG (λρ w'=>ρ 0=pB bs/\ρ 3=pB b3/\ρ 5= .slice (some ⟨bo,0,none⟩) g.n g.n/\ρ 31=vE/\ρ 32=iB g.n/\ρ 33=iB i/\∃R,mN R g.n g.n (qM (y4 (T0++mT (tu g B sl i) (g.cn i))))/\St w w' ([(b3,123,[v1,v2])]++mB ke 32 34 bo R [])) ?_ ?_
   ·refine ja ?_;refine kF (σ:=Nat) (λc ρ w'=>c<=g.cn i/\ρ 0=pB bs/\ρ 3=pB b3/\ρ 5= .slice (some ⟨bo,0,none⟩) g.n g.n/\ρ 6=iB i/\ρ 31=vE/\ρ 32=iB g.n/\ρ 33=iB i/\ρ 39= .slice a1 (g.e i).cl.length c1/\ρ 40=iB (g.cn i)/\ρ 41=iB c/\∃R,mN R g.n g.n (qM (y4 (T0++mT (tu g B sl i) c)))/\St w w' ([(b3,123,[v1,v2])]++mB ke 32 34 bo R [])) (λc=>g.cn i-c) 0
     ⟨aw _,jY,jY,jY,rfl,jY,jY,jY,rfl,rfl,rfl,R,by rw[show T0++mT (tu g B sl i) 0=T0 from aK _];exact hR,hS.drop (ab _ _)⟩ ?_
    clear hS hR h0 h3 h5 h31 h32 h33;rintro c ρ w4 ⟨hc,h0,h3,h5,h6,h31,h32,h33,h39,h40,h41,R,hR,hS⟩;refine V1 ?_;by_cases hcl':c<g.cn i
    ·refine V1 ?_;have hir:=hS0.ir i hlt;have hbl:=kj (g.cn i) (B i);have hgb:(kD (g.cn i) (B i)).getD c false=B i c:=kB _ _ hcl';have hsucc:T0++mT (tu g B sl i) (c+1)=T0++(mT (tu g B sl i) c++tu g B sl i c):=by rw[pd]
     have hcc:c<(g.e i).cl.length:=hcl';obtain⟨k,hk⟩:=jz ((g.e i).cl.getD c nK);have hkc:g.c i c=k:=by rw[hk];rfl
     refine J1 ?_;refine jp (ks (i:=c) h39 h41 (hcl.kb hS.kb) oO dO pG (jq (kC (i:=c) nK rfl rO (hcl.kb hS.kb) dO rfl rfl (.inl rfl) ?_)));refine J1 ?_;intro b9 wz4 hS hBz4;refine J2 ?_;intro wz5 hS;refine ja ?_;rw[<-hk]at hS;replace hS:St w _ ([(b9,53,lz k),(b3,123,[v1,v2])]++mB ke 32 34 bo R []):=hS;by_cases hh1:k.h= -1
     ·have e0:tu g B sl i c=[]:=by unfold tu;rw[hkc,ah (λq=>q.1 hh1)]
      refine J4 ?_;refine kS (kg 49 kR rfl (ae (by exact λq=>q hh1))) ?_;refine kS (kg 49 kR rfl (ae (by exact λq=>q hh1))) ?_;refine kS (kg 49 kR rfl (ae (by exact λq=>q hh1))) ?_;refine kS (kg 49 kR rfl (ae (by exact λq=>q hh1))) ?_;refine kS (kg 49 kR rfl (ae (by exact λq=>q hh1))) ?_;refine kS (kg 49 kR rfl (ae (by exact λq=>q hh1))) ?_;refine kS (kg 49 kR rfl (ae (by exact λq=>q hh1))) ?_;refine kS (kg 49 kR rfl (ae (by exact λq=>q hh1))) ?_;refine kS (kg 49 kR rfl (ae (by exact λq=>q hh1))) ?_;refine kS (kg 49 kR rfl (ae (by exact λq=>q hh1))) ?_;refine kS (kg 49 kR rfl (ae (by exact λq=>q hh1))) ?_;refine jp (kH (vb rfl (ae (by exact λq=>q hh1))) rfl ?_);refine ja ?_;refine lH rfl (rfl) ?_;refine V2 ?_;rw[e0,aK]at hsucc;rw[<-hsucc]at hR;exact⟨c+1,_,rfl,⟨hcl',jY,jY,jY,jY,jY,jY,jY,jY,jY,vi rfl oO,R,hR,hS.drop (ab _ _)⟩,oO⟩
     ·refine J4 ?_;refine ko (kd 49 kR rfl (ai hh1)) (kw h0 (ko (kd 49 kR rfl (ai hh1)) (nc rfl (ko (kd 49 kR rfl (ai hh1)) (lD rfl CU (lA (kd 49 kR rfl (ai hh1)) (oW (v:=vI) (cs:=[vI]) rfl uL (hS0.kb hS.kb).a3 rfl rfl (.inr rfl) (ko (kd 49 kR rfl (ai hh1)) (kw h6 (ko (kd 49 kR rfl (ai hh1)) (ks (i:=i) rfl rfl (hS0.ii.kb hS.kb) oO dO FD (lA (kd 49 kR rfl (ai hh1)) (kC (i:=i) undef rfl wX (hS0.ii.kb hS.kb) dO rfl rfl (.inr rfl) (ko (kd 49 kR rfl (ai hh1)) (kw rfl (ko (kd 49 kR rfl (ai hh1)) (ks (i:=c) rfl rfl (hir.kb hS.kb) oO dO qx (lA (kd 49 kR rfl (ai hh1)) (kC (i:=c) false rfl qB (hir.kb hS.kb) dO rfl rfl (.inr rfl) (ko (kd 49 kR rfl (ai hh1)) (xb rfl (jp (kH (vb rfl (ai hh1)) rfl ?_)))))))))))))))))))))));refine ja ?_;cases hb:B i c with
      |true=>
       have e0:tu g B sl i c=[]:=by unfold tu;rw[hkc,hb,ah (λq=>by cases q.2)]
       refine lH rfl ((bB not (hgb.trans hb))) ?_;refine V2 ?_;rw[e0,aK]at hsucc;rw[<-hsucc]at hR;exact⟨c+1,_,rfl,⟨hcl',jY,jY,jY,jY,jY,jY,jY,jY,jY,vi rfl oO,R,hR,hS.drop (ab _ _)⟩,oO⟩
      |false=>
       obtain⟨a,han,hha⟩:=hho i hlt c hcl' (by rw[hkc];exact hh1);rw[hkc]at hha;have e0:tu g B sl i c=[(a,i,sl i c)]:=by unfold tu;rw[hkc,hb,aj ⟨hh1,rfl⟩,hha];rfl
       obtain⟨kh,kr,kq⟩:=k;dsimp only at hha;subst hha;have hLo:L (y4 (T0++mT (tu g B sl i) c) a i)+L (sl i c)<=MX:=(hpre c hcl' _ e0).2.2;have hgr:=λwz h=>Fc (w0:=w) (bo:=bo) (pre:=[(b9,53,lz ⟨a,kr,kq⟩),(b3,123,[v1,v2])]) (H:=[]) g.n a i (sl i c) wz hR han hlt hLo h;have hrow:=hM2.row i (by rw[mW];exact hlt);rw[tN _ _ hlt]at hrow;have hrl:=kj (g.cn i) λc=>ki (sl i c);have hg2:(kD (g.cn i) λc=>ki (sl i c)).getD c kZ=ki (sl i c):=kB _ _ hcl';refine lu rfl ((bB not (hgb.trans hb))) ?_;refine ja ?_;refine kK [jo 0,jo 1,ju 2,jo 3,jo 4,ju 5,jo 6,jo 7,ju 8,jo 9,jo 10,ju 11,jw 12] kR kR hS ?_;intro wz6 hS hBz6;refine J7 ?_;refine jl rfl (ks (i:=i) rfl rfl (hM2.sl.kb hS.kb) oO dO lS (jm rfl (kC (i:=i) undef rfl md (hM2.sl.kb hS.kb) dO rfl rfl (.inr rfl) ?_)));refine J1 ?_;refine jl rfl (ks (i:=c) rfl rfl (hrow.kb hS.kb) oO dO kW (jm rfl (kC (i:=c) kZ rfl kt (hrow.kb hS.kb) dO rfl rfl (.inl rfl) ?_)));rw[hg2];refine jx rfl (kf Tryz.call94 rfl (hgr _ hS) ?_);rintro rg w6 ⟨rfl,R',hR',hS⟩;refine V2 ?_;have em:rV (y4 (T0++mT (tu g B sl i) c)) a i (sl i c)=y4 (T0++mT (tu g B sl i) (c+1)):=by
        rw[pd,e0,<-aG,CY]
       rw[em]at hR';exact⟨c+1,_,rfl,⟨hcl',jY,jY,jY,jY,jY,jY,jY,jY,jY,vi rfl oO,R',hR',hS.drop (ab _ _)⟩,oO⟩
    ·refine J1 ?_;refine jt ?_;obtain rfl:c=g.cn i:=oO;exact⟨_,rfl,h0,h3,h5,h31,h32,h33,R,hR,hS⟩
   clear hS hR h0 h3 h5 h31 h32 h33;rintro ρ w4 ⟨h0,h3,h5,h31,h32,h33,R,hR,hS⟩;rw[<-hT1]at hR;refine V2 ?_;exact⟨i+1,_,rfl,⟨hlt,jY,jY,jY,jY,jY,vi rfl oO,R,hR,hS⟩,oO⟩
  ·refine J1 ?_;refine jt ?_;obtain rfl:i=g.n:=oO;exact⟨_,rfl,h0,h3,h5,R,hR,hS⟩
 clear hS hS3 hR0;rintro ρ w2 ⟨h0,h3,h5,R,hR,hS⟩;obtain⟨T0,hT0⟩:=jz (mT (Bx g B sl) g.n);have hTT:I4 g B dl sl=T0++mT (D8 g dl sl) g.ds.length:=by rw[hT0];rfl
 rw[<-hT0]at hR;refine J1 ?_;refine jp (nc rfl ?_);refine J2 ?_;refine jq (oW (v:=vD) (cs:=[vD]) rfl qm (hS0.kb hS.kb).a1 rfl rfl (.inr rfl) (jp (ky rfl (hS0.gr.ds.kb hS.kb) ⟨_,Tryz.underlying27⟩ ?_)));refine J1 ?_;refine jb ?_;rw[hld];refine kG (λρ w'=>ρ 5= .slice (some ⟨bo,0,none⟩) g.n g.n/\∃R,mN R g.n g.n (qM (y4 (I4 g B dl sl)))/\St w w' ([(b3,123,[v1,v2])]++mB ke 32 34 bo R [])) ?_ ?_
 ·refine ja ?_;refine kF (σ:=Nat) (λd ρ w'=>d<=g.ds.length/\ρ 0=pB bs/\ρ 3=pB b3/\ρ 5= .slice (some ⟨bo,0,none⟩) g.n g.n/\ρ 81=vD/\ρ 82=iB g.ds.length/\ρ 83=iB d/\∃R,mN R g.n g.n (qM (y4 (T0++mT (D8 g dl sl) d)))/\St w w' ([(b3,123,[v1,v2])]++mB ke 32 34 bo R [])) (λd=>g.ds.length-d) 0
   ⟨aw _,jY,jY,jY,rfl,rfl,rfl,R,by rw[show T0++mT (D8 g dl sl) 0=T0 from aK _];exact hR,hS⟩ ?_
  clear hS hR h0 h3 h5;rintro d ρ w2 ⟨hd,h0,h3,h5,h81,h82,h83,R,hR,hS⟩;have hdm:=hS0.gr.ds.maxLen;rw[hld]at hdm;refine V1 ?_;by_cases hlt:d<g.ds.length
  ·refine V1 ?_;have hlg:=hS0.gr.lg d hlt;obtain⟨al,cl,hvl,_⟩:=hlg.form;rw[hvl]at hlg;obtain⟨m,hm⟩:=jz (mJ g d);have hm':(g.d d).legs.length=m:=hm.symm;rw[hm']at hvl hlg;have hmk:=hK.ln d hlt;rw[<-hm]at hmk;have hgd:(kD g.ds.length λk=>((g.d k).W,dv.getD k undef)).getD d Ch=((g.d d).W,.slice al m cl):=by rw[kB _ _ hlt,hvl]
   have hok:∀j,j<(g.d d).legs.length->((g.d d).legs.getD j (0,0)).1<g.n/\((g.d d).legs.getD j (0,0)).2<g.cn ((g.d d).legs.getD j (0,0)).1:=hl d hlt;have hhold:=λwz h=>λh0:0<(g.d d).legs.length=>Nk d wz (hS0.kb h) hlt h0 hl;rw[hvl]at hhold;refine jr ?_;refine jp (ks (i:=d) h81 h83 (hS0.gr.ds.kb hS.kb) oO dO rH (jq (kC (v:=RQ (g.d d).W (.slice al m cl)) (i:=d) Ch rfl tA (hS0.gr.ds.kb hS.kb) oO rfl (by rw[hgd];rfl) (.inl rfl) ?_)));refine J1 ?_;intro b11 wz7 hS hBz7;refine J1 ?_;intro wz8 hS;refine ja ?_;obtain⟨bD,hbD⟩:=jz (mr ((g.d d).W,.slice al m cl));replace hS:St w _ ([(b11,64,mr ((g.d d).W,.slice al m cl)),(b3,123,[v1,v2])]++mB ke 32 34 bo R []):=hS;refine ja ?_;refine kK [ju 0,jo 1,ju 2,ju 4,jo 5,ju 6,jv 3,jv 7,jo 8,jo 9] kR kR hS ?_;intro wz9 hS hBz9;refine J6 ?_;refine jn rfl (kf Tryz.call54 rfl (Fz (.slice al m cl) v1 u1 (g.d d).W (g.d d).legs g.n g.cn dl _ (hlg.kb hS.kb) (hM1.kb hS.kb) hok oO) ?_);rintro rq w5 ⟨Lq,hGq,hS5⟩;refine⟨hS5.kb,?_⟩;replace hS:=(hS.join hS5).perm ay;refine jn rfl (kf Tryz.call54 rfl (Fz (.slice al m cl) v2 u2 (g.d d).W (g.d d).legs g.n g.cn sl _ (hlg.kb hS.kb) (hM2.kb hS.kb) hok oO) ?_);rintro rs w6 ⟨Ls,hGs,hS6⟩;refine⟨hS6.kb,?_⟩;replace hS:=(hS.join hS6).perm ay;refine V2 ?_;rw[hm']at hGq hGs;have eq:(kD m λj=>ki (dl ((g.d d).legs.getD j (0,0)).1 ((g.d d).legs.getD j (0,0)).2))=kD m λj=>ki (qD g dl d j):=rfl;rw[eq]at hGq;clear eq;obtain⟨sd,hsd⟩:∃sd:Nat->Rat,sd=λj=>sl (g.lg d j).1 (g.lg d j).2:=⟨_,rfl⟩;have es:(kD m λj=>ki (sl ((g.d d).legs.getD j (0,0)).1 ((g.d d).legs.getD j (0,0)).2))=kD m λj=>ki (sd j):=by rw[hsd];rfl
   rw[es]at hGs;clear es;obtain⟨aq,cq,hvq⟩:=hGq.len;obtain⟨az,cz,hvz⟩:=hGs.len;rw[kj]at hvq hvz;subst hvq hvz;obtain⟨T1,hT1⟩:=jz (T0++mT (D8 g dl sl) d);have hT1':T0++mT (D8 g dl sl) (d+1)=T1++mT (wS g dl sl d) g.n:=by rw[pd,hT1,aG];rfl
   rw[<-hT1]at hR;have hpre:∀i,i<g.n->∀P o,(P++[o])<+:wS g dl sl d i->O7 g.n ((T1++mT (wS g dl sl d) i)++P) o:=by
    intro i hi P o ho;refine hK.gr _ _ ?_;have h2:=ww (wS g dl sl d) hi ho;have h3:=ww (D8 g dl sl) hlt h2;rw[hTT,hT1];simp only[aG]at h3⊢;exact(j9 _).2 h3
   rw[aG]at hS;replace hS:St w _ (([(b11,64,mr ((g.d d).W,.slice al m cl)),(b3,123,[v1,v2])]++(Lq++Ls))++mB ke 32 34 bo R []):=hS.perm (WU _ _ _);have hqs:∀wx Z,St w wx (([(b11,64,mr ((g.d d).W,.slice al m cl)),(b3,123,[v1,v2])]++(Lq++Ls))++Z)->Sl ke 3 wx (.slice aq m cq) (kD m λj=>ki (qD g dl d j))/\Sl ke 3 wx (.slice az m cz) (kD m λj=>ki (sd j)):=λwx Z h=>⟨FP hGq ((ap Lq Ls).trans (ao _ _)) h kA,FP hGs ((ao Lq Ls).trans (ao _ _)) h kA⟩;obtain⟨LL,hLL⟩:=jz (Lq++Ls);rw[<-hLL]at hS hqs;have htz:=kj m λj=>ki (sd j);clear hGq hGs hS5 hS6;refine J1 ?_;refine jp (nc rfl ?_);refine J1 ?_;refine jq (oW (v:=vL) (cs:=[vL]) rfl rC (hS0.kb hS.kb).a2 rfl rfl (.inr rfl) (jp (ky rfl (hS0.la.kb hS.kb) ⟨_,Tryz.underlying104⟩ ?_)));refine J1 ?_;refine jb ?_;rw[hly];refine kG (λρ w'=>ρ 0=pB bs/\ρ 3=pB b3/\ρ 5= .slice (some ⟨bo,0,none⟩) g.n g.n/\ρ 81=vD/\ρ 82=iB g.ds.length/\ρ 83=iB d/\∃R,mN R g.n g.n (qM (y4 (T1++mT (wS g dl sl d) g.n)))/\St w w' ([(b3,123,[v1,v2])]++mB ke 32 34 bo R [])) ?_ ?_
   ·refine ja ?_;refine kF (σ:=Nat) (λi ρ w'=>i<=g.n/\ρ 0=pB bs/\ρ 3=pB b3/\ρ 5= .slice (some ⟨bo,0,none⟩) g.n g.n/\ρ 11=pB b11/\ρ 12= .slice aq m cq/\ρ 13= .slice az m cz/\ρ 81=vD/\ρ 82=iB g.ds.length/\ρ 83=iB d/\ρ 99=iB g.n/\ρ 100=iB i/\
      ∃R,mN R g.n g.n (qM (y4 (T1++mT (wS g dl sl d) i)))/\St w w' (([(b11,64,mr ((g.d d).W,.slice al m cl)),(b3,123,[v1,v2])]++LL)++mB ke 32 34 bo R [])) (λi=>g.n-i) 0
     ⟨aw _,jY,jY,jY,rfl,rfl,rfl,jY,jY,jY,rfl,rfl,R,by rw[show T1++mT (wS g dl sl d) 0=T1 from aK _];exact hR,hS⟩ ?_
    clear hS hR h0 h3 h5 h81 h82 h83;rintro i ρ w4 ⟨hi,h0,h3,h5,h11,h12,h13,h81,h82,h83,h99,h100,R,hR,hS⟩;refine V1 ?_;by_cases hil:i<g.n
    ·refine J5 ?_;refine jh (mq (enc:=ke) (n:=m) kZ rfl rfl kW rfl oO oO oO oO hS ?_);intro b105 wz10 hS hBz10;refine V1 ?_;have hS':=hS.perm (eG _ _).symm;rw[lQ]at hS';clear hS;have hS:=hS';clear hS';have hG:Gl ke 32 3 (.slice (some ⟨b105,0,none⟩) m m) (kD m λk=>ki (wE (rN g sl d i) 0 k)) [(b105,32,(kD m λk=>ki (wE (rN g sl d i) 0 k)).flatMap ke)]:=qe (kj _ _) oO;refine J2 ?_;refine jp (ky rfl (hlg.kb hS.kb) ⟨_,Tryz.underlying62⟩ ?_);refine J1 ?_;refine jb ?_;rw[hm'];refine kG (λρ w'=>ρ 0=pB bs/\ρ 3=pB b3/\ρ 5= .slice (some ⟨bo,0,none⟩) g.n g.n/\ρ 11=pB b11/\ρ 12= .slice aq m cq/\ρ 13= .slice az m cz/\ρ 14=iB i/\ρ 15= .slice (some ⟨b105,0,none⟩) m m/\ρ 81=vD/\ρ 82=iB g.ds.length/\ρ 83=iB d/\ρ 99=iB g.n/\ρ 100=iB i/\
       ∃Lo,Gl ke 32 3 (.slice (some ⟨b105,0,none⟩) m m) (kD m λk=>ki (rN g sl d i k)) Lo/\St w w' ((([(b11,64,mr ((g.d d).W,.slice al m cl)),(b3,123,[v1,v2])]++LL)++mB ke 32 34 bo R [])++Lo)) ?_ ?_
     ·refine ja ?_;refine kF (σ:=Nat) (λk ρ w'=>k<=m/\ρ 0=pB bs/\ρ 3=pB b3/\ρ 5= .slice (some ⟨bo,0,none⟩) g.n g.n/\ρ 11=pB b11/\ρ 12= .slice aq m cq/\ρ 13= .slice az m cz/\ρ 14=iB i/\ρ 15= .slice (some ⟨b105,0,none⟩) m m/\ρ 81=vD/\ρ 82=iB g.ds.length/\ρ 83=iB d/\ρ 99=iB g.n/\ρ 100=iB i/\ρ 107= .slice al m cl/\ρ 108=iB m/\ρ 109=iB k/\
        ∃Lo,Gl ke 32 3 (.slice (some ⟨b105,0,none⟩) m m) (kD m λj=>ki (wE (rN g sl d i) k j)) Lo/\St w w' ((([(b11,64,mr ((g.d d).W,.slice al m cl)),(b3,123,[v1,v2])]++LL)++mB ke 32 34 bo R [])++Lo)) (λk=>m-k) 0
       ⟨aw _,jY,jY,jY,jY,jY,jY,rfl,rfl,jY,jY,jY,jY,jY,rfl,rfl,rfl,_,hG,hS⟩ ?_
      clear hS hG h0 h3 h5 h11 h12 h13 h81 h82 h83 h99 h100;rintro k ρ w5 ⟨hk,h0,h3,h5,h11,h12,h13,h14,h15,h81,h82,h83,h99,h100,h107,h108,h109,Lo,hG,hS⟩;have htl:=kj m λj=>ki (wE (rN g sl d i) k j);refine V1 ?_;by_cases hkl:k<m
      ·refine V1 ?_;obtain⟨p,hp⟩:=jz ((g.d d).legs.getD k (0,0));have hpl:g.lg d k=p:=by rw[hp];rfl
       have hgs:(kD m λj=>ki (sd j)).getD k kZ=ki (sd k):=kB _ _ hkl;refine J1 ?_;refine jp (ks (i:=k) h107 h109 (hlg.kb hS.kb) oO dO nV (jq (kC (i:=k) (0,0) rfl p8 (hlg.kb hS.kb) dO rfl rfl (.inl rfl) ?_)));refine J1 ?_;intro b17 wz11 hS hBz11;refine J2 ?_;intro wz12 hS;refine ja ?_;rw[<-hp]at hS;replace hS:St w _ (((b17,66,nL p)::(([(b11,64,mr ((g.d d).W,.slice al m cl)),(b3,123,[v1,v2])]++LL)++mB ke 32 34 bo R []))++Lo):=hS;have hzs:∀wx,St w wx (((b17,66,nL p)::(([(b11,64,mr ((g.d d).W,.slice al m cl)),(b3,123,[v1,v2])]++LL)++mB ke 32 34 bo R []))++Lo)->Sl ke 3 wx (.slice az m cz) (kD m λj=>ki (sd j)):=λwx h=>(hqs wx _ ((h.drop (ap _ Lo)).drop (ab _ _))).2;refine V4 ?_;by_cases hpi:p.1=i
       ·refine V1 ?_;have how:rN g sl d i k=sd k:=by unfold rN;rw[hpl,aj hpi,hsd];dsimp only;rw[hpl]
        refine J4 ?_;refine jp (ks (i:=k) rfl rfl (hzs _ hS) oO dO kW (jq (kC (i:=k) kZ rfl kt (hzs _ hS) dO rfl rfl (.inl rfl) (jp (ks (i:=k) rfl rfl (hG.sl hS kA) oO dO kW (jh (ug (i:=k) (ki (rN g sl d i k)) kA rfl rfl kt hG hS oO (by rw[hgs,how];rfl) rfl ?_)))))));intro wz13 hS;refine ja ?_;obtain⟨LC2,hG,hS⟩:=hS;rw[ws]at hG;refine V2 ?_;exact⟨k+1,_,rfl,⟨hkl,jY,jY,jY,jY,jY,jY,jY,jY,jY,jY,jY,jY,jY,jY,jY,vi rfl oO,_,hG,hS.drop (ab _ _)⟩,oO⟩
       ·refine V1 ?_;have how:rN g sl d i k=0:=by unfold rN;rw[hpl,ah hpi]
        have e2:(kD m λj=>ki (wE (rN g sl d i) k j))=kD m λj=>ki (wE (rN g sl d i) (k+1) j):=kN λj _=>by
         unfold wE;by_cases q1:j=k
         ·rw[q1,ah oO,aj oO,how]
         ·by_cases q2:j<k
          ·rw[aj q2,aj oO]
          ·rw[ah q2,ah oO]
        rw[e2]at hG;refine V2 ?_;exact⟨k+1,_,rfl,⟨hkl,jY,jY,jY,jY,jY,jY,jY,jY,jY,jY,jY,jY,jY,jY,jY,vi rfl oO,_,hG,hS.drop (ab _ _)⟩,oO⟩
      ·refine J1 ?_;refine jt ?_;obtain rfl:m=k:=oO;rw[vW]at hG;exact⟨_,rfl,h0,h3,h5,h11,h12,h13,h14,h15,h81,h82,h83,h99,h100,Lo,hG,hS⟩
     clear hS hG h0 h3 h5 h11 h12 h13 h81 h82 h83 h99 h100;rintro ρ w5 ⟨h0,h3,h5,h11,h12,h13,h14,h15,h81,h82,h83,h99,h100,Lo,hG,hS⟩;have hW:=hK.W d hlt;have hsub:=λwx (h:St w wx ((([(b11,64,mr ((g.d d).W,.slice al m cl)),(b3,123,[v1,v2])]++LL)++mB ke 32 34 bo R [])++Lo))=>(hqs wx _ (h.drop (ap _ Lo))).1;refine J4 ?_;refine jh (kf Tryz.call95 rfl (Qz (.slice aq m cq) (.slice (some ⟨b105,0,none⟩) m m) m (g.d d).W (qD g dl d) (rN g sl d i) K _ (hsub _ hS) (hG.sl hS kA) hmk hW (λj hj=>⟨(hK.q d hlt j oO).1,(hK.q d hlt j oO).2 i hil⟩) (λj hj=>⟨(hK.s d hlt j oO).1,(hK.s d hlt j oO).2 i hil⟩) hK.k) ?_);rintro rr w8 ⟨Lr,hGr,hS8⟩;replace hS:=(hS.join hS8).perm (XB Lr _ _ Lo);have er:(kD m λj=>ki (DK (g.d d).W (qD g dl d) (rN g sl d i) j))=kD m λj=>ki (wR g dl sl d i j):=rfl;rw[er]at hGr;clear er;obtain⟨ar,cr,hvr⟩:=hGr.len;rw[kj]at hvr;subst hvr;have hrt:∀wx Z,St w wx (([(b11,64,mr ((g.d d).W,.slice al m cl)),(b3,123,[v1,v2])]++LL)++(Lr++Lo)++Z)->Sl ke 3 wx (.slice ar m cr) (kD m λj=>ki (wR g dl sl d i j))/\Sl ke 3 wx (.slice (some ⟨b105,0,none⟩) m m) (kD m λj=>ki (rN g sl d i j)):=λwx Z h=>⟨FP hGr ((ap Lr Lo).trans (ao _ _)) h kA,FP hG ((ao Lr Lo).trans (ao _ _)) h kA⟩;obtain⟨LR,hLR⟩:=jz (Lr++Lo);rw[<-hLR]at hS hrt;clear hGr hG hS8 hsub;have hrtl:=kj m λj=>ki (wR g dl sl d i j);have howl:=kj m λj=>ki (rN g sl d i j);refine J4 ?_;refine jb ?_;obtain⟨T2,hT2⟩:=jz (T1++mT (wS g dl sl d) i);have hdi:wS g dl sl d i=mT (ye g dl sl d i) m++AD g dl sl d i:=by rw[hm];rfl
     have hT2':T1++mT (wS g dl sl d) (i+1)=T2++(mT (ye g dl sl d i) m++AD g dl sl d i):=by rw[pd,hT2,aG,hdi]
     have hpre2:=hpre i hil;rw[<-hT2]at hR hpre2;refine kG (λρ w'=>ρ 0=pB bs/\ρ 3=pB b3/\ρ 5= .slice (some ⟨bo,0,none⟩) g.n g.n/\ρ 11=pB b11/\ρ 12= .slice aq m cq/\ρ 13= .slice az m cz/\ρ 14=iB i/\ρ 15= .slice (some ⟨b105,0,none⟩) m m/\ρ 18= .slice ar m cr/\ρ 81=vD/\ρ 82=iB g.ds.length/\ρ 83=iB d/\ρ 99=iB g.n/\ρ 100=iB i/\∃R,mN R g.n g.n (qM (y4 (T2++mT (ye g dl sl d i) m)))/\St w w' ((([(b11,64,mr ((g.d d).W,.slice al m cl)),(b3,123,[v1,v2])]++LL)++LR)++mB ke 32 34 bo R [])) ?_ ?_
     ·refine ja ?_;refine kF (σ:=Nat) (λk ρ w'=>k<=m/\ρ 0=pB bs/\ρ 3=pB b3/\ρ 5= .slice (some ⟨bo,0,none⟩) g.n g.n/\ρ 11=pB b11/\ρ 12= .slice aq m cq/\ρ 13= .slice az m cz/\ρ 14=iB i/\ρ 15= .slice (some ⟨b105,0,none⟩) m m/\ρ 18= .slice ar m cr/\ρ 81=vD/\ρ 82=iB g.ds.length/\ρ 83=iB d/\ρ 99=iB g.n/\ρ 100=iB i/\ρ 131= .slice ar m cr/\ρ 132=iB m/\ρ 133=iB k/\∃R,mN R g.n g.n (qM (y4 (T2++mT (ye g dl sl d i) k)))/\St w w' ((([(b11,64,mr ((g.d d).W,.slice al m cl)),(b3,123,[v1,v2])]++LL)++LR)++mB ke 32 34 bo R [])) (λk=>m-k) 0
       ⟨aw _,jY,jY,jY,jY,jY,jY,jY,jY,rfl,jY,jY,jY,jY,jY,rfl,rfl,rfl,R,by rw[show T2++mT (ye g dl sl d i) 0=T2 from aK _];exact hR,hS⟩ ?_
      clear hS hR h0 h3 h5 h11 h12 h13 h14 h15 h81 h82 h83 h99 h100;rintro k ρ w9 ⟨hk,h0,h3,h5,h11,h12,h13,h14,h15,h18,h81,h82,h83,h99,h100,h131,h132,h133,R,hR,hS⟩;refine V1 ?_;by_cases hkl:k<m
      ·refine V1 ?_;have hgr:(kD m λj=>ki (wR g dl sl d i j)).getD k kZ=ki (wR g dl sl d i k):=kB _ _ hkl;have e0:ye g dl sl d i k=[((g.lg d k).1,i,wR g dl sl d i k)]:=rfl;have hin:=hpre2 (mT (ye g dl sl d i) k) ((g.lg d k).1,i,wR g dl sl d i k) (by rw[hdi];exact(ww (ye g dl sl d i) hkl (by rw[e0];exact fI _)).trans (jF _ _));have hLo:L (y4 (T2++mT (ye g dl sl d i) k) (g.lg d k).1 i)+L (wR g dl sl d i k)<=MX:=hin.2.2;have hle1:(g.lg d k).1<g.n:=(hl d hlt k oO).1;refine J1 ?_;refine jp (ks (i:=k) h131 h133 (hrt _ _ hS).1 oO dO kW (jq (kC (i:=k) kZ rfl kt (hrt _ _ hS).1 dO rfl rfl (.inl rfl) ?_)));refine J1 ?_;intro b20 wz14 hS hBz14;refine J2 ?_;intro wz15 hS;refine ja ?_;rw[hgr]at hS;replace hS:St w _ (((b20,32,ke (ki (wR g dl sl d i k)))::(([(b11,64,mr ((g.d d).W,.slice al m cl)),(b3,123,[v1,v2])]++LL)++LR))++mB ke 32 34 bo R []):=hS;have hgg:=λwz h=>Fc (w0:=w) (bo:=bo) (pre:=((b20,32,ke (ki (wR g dl sl d i k)))::(([(b11,64,mr ((g.d d).W,.slice al m cl)),(b3,123,[v1,v2])]++LL)++LR))) (H:=[]) g.n (g.lg d k).1 i (wR g dl sl d i k) wz hR hle1 hil hLo h;refine ja ?_;refine kK [jo 0,jo 1,ju 2,jo 3,jo 4,jo 5,ju 6,jo 7,ju 8,jw 9] kR kR hS ?_;intro wz16 hS hBz16;refine J4 ?_;refine jl rfl (ks (i:=k) rfl rfl (hlg.kb hS.kb) oO dO nV ?_);refine jl rfl (lU rfl (lG (hlg.kb hS.kb) (λ_=>rfl) dD dO) qh ?_);refine jm rfl (lV (i:=k) (off:=0) (0,0) rfl mR (hlg.kb hS.kb) (λ_=>rfl) dD dO rfl rfl (.inr rfl) ?_);refine J2 ?_;refine jx rfl (kf Tryz.call94 rfl (hgg _ hS) ?_);rintro rg w10 ⟨rfl,R',hR',hS⟩;refine V2 ?_;have em:rV (y4 (T2++mT (ye g dl sl d i) k)) (g.lg d k).1 i (wR g dl sl d i k)=y4 (T2++mT (ye g dl sl d i) (k+1)):=by
        rw[pd,e0,<-aG,CY]
       rw[em]at hR';exact⟨k+1,_,rfl,⟨hkl,jY,jY,jY,jY,jY,jY,jY,jY,jY,jY,jY,jY,jY,jY,jY,jY,vi rfl oO,R',hR',hS.drop (ab _ _)⟩,oO⟩
      ·refine J1 ?_;refine jt ?_;obtain rfl:m=k:=oO;exact⟨_,rfl,h0,h3,h5,h11,h12,h13,h14,h15,h18,h81,h82,h83,h99,h100,R,hR,hS⟩
     clear hS hR h0 h3 h5 h11 h12 h13 h14 h15 h81 h82 h83 h99 h100;rintro ρ w9 ⟨h0,h3,h5,h11,h12,h13,h14,h15,h18,h81,h82,h83,h99,h100,R,hR,hS⟩;refine ja ?_;have hRno:AD g dl sl d i=[]->mN R g.n g.n (qM (y4 (T1++mT (wS g dl sl d) (i+1)))):=λe=>by rw[hT2',e,aK];exact hR
     by_cases hm0:0<m
     ·refine J2 ?_;refine jp (ky rfl (hlg.kb hS.kb) ⟨_,Tryz.underlying62⟩ ?_);refine J2 ?_;refine ko (kd 153 kR rfl dT) (kw h0 (lA (kd 153 kR rfl dT) (kP (k:=0) h11 tA hS rfl rfl rfl (.inl rfl) (oZ (kd 153 kR rfl dT) (kf Tryz.call96 rfl (hhold _ hS.kb oO) ?_)))));rintro rh w10 ⟨rfl,hB10⟩;replace hS:=hS.kx hB10;obtain⟨e1,e2⟩:=hl d hlt 0 oO;by_cases hz:HI g d= -1
      ·refine ko (kd 153 kR rfl dT) (zB rfl rfl (jp (kH (vb rfl dT) rfl ?_)));refine ja ?_;refine lH rfl (ae (λq=>q hz)) ?_;refine V2 ?_;have hR':=hRno (by unfold AD;rw[ah (λq=>q.2 hz)]);exact⟨i+1,_,rfl,⟨hil,jY,jY,jY,jY,jY,jY,jY,jY,jY,jY,vi rfl oO,R,hR',hS.drop (bk (ap _ LR) (bI _))⟩,oO⟩
      ·obtain⟨a,han,hha⟩:=hho (g.lg d 0).1 e1 (g.lg d 0).2 e2 hz;replace hha:HI g d=a:=hha;refine ko (kd 153 kR rfl dT) (zB rfl rfl (jp (kH (vb rfl dT) rfl ?_)));refine ja ?_;refine lu rfl (ai hz) ?_;refine ja ?_;obtain⟨s1,s2,s3⟩:=hK.so d hlt i hil;rw[<-hm]at s1 s2 s3;obtain⟨z,hzd⟩:=jz (ku (rN g sl d i) m-ku (wR g dl sl d i) m);have e0:AD g dl sl d i=[(a,i,z)]:=by unfold AD;rw[<-hm,aj ⟨hm0,hz⟩,hha,hzd];rfl
       have hin:=hpre2 (mT (ye g dl sl d i) m) (a,i,z) (by rw[hdi,e0];exact fI _);have hLo:L (y4 (T2++mT (ye g dl sl d i) m) a i)+L z<=MX:=hin.2.2;have hsb:=λw=>mI (ki (ku (rN g sl d i) m)) (ki (ku (wR g dl sl d i) m)) w (by rw[Lr_ofQ,Lr_ofQ];exact s3);rw[toQ_ofQ,toQ_ofQ,<-hzd]at hsb;have hgg:=λwz h=>Fc (w0:=w) (bo:=bo) (pre:=(([(b11,64,mr ((g.d d).W,.slice al m cl)),(b3,123,[v1,v2])]++LL)++LR)) (H:=[]) g.n a i z wz hR han hil hLo h;refine J3 ?_;refine jh (kf Tryz.call96 rfl (hhold _ hS.kb oO) ?_);rintro rh2 w11 ⟨rfl,hB11⟩;rw[hha];replace hS:=hS.kx hB11;refine J2 ?_;refine jh (kf Tryz.call97 rfl (Kf _ _ _ (hrt _ _ hS).2 s1) ?_);rintro ro w12 ⟨rfl,hB12⟩;rw[Di];replace hS:=hS.kx hB12;refine J1 ?_;refine jh (kf Tryz.call97 rfl (Kf _ _ _ (hrt _ _ hS).1 s2) ?_);rintro rp w13 ⟨rfl,hB13⟩;rw[Di];replace hS:=hS.kx hB13;refine jh (kf Tryz.call16 rfl (hsb _) ?_);rintro rp2 w14 ⟨rfl,hB14⟩;replace hS:=hS.kx hB14;refine jh (kf Tryz.call94 rfl (hgg _ hS) ?_);rintro rg w15 ⟨rfl,R',hR',hS⟩;refine V2 ?_;have em:rV (y4 (T2++mT (ye g dl sl d i) m)) a i z=y4 (T1++mT (wS g dl sl d) (i+1)):=by
        rw[hT2',e0,<-aG,CY]
       rw[em]at hR';exact⟨i+1,_,rfl,⟨hil,jY,jY,jY,jY,jY,jY,jY,jY,jY,jY,vi rfl oO,R',hR',hS.drop (bk (ap _ LR) (bI _))⟩,oO⟩
     ·refine J2 ?_;refine jp (ky rfl (hlg.kb hS.kb) ⟨_,Tryz.underlying62⟩ ?_);refine J2 ?_;refine kS (kg 153 kR rfl dF) (kS (kg 153 kR rfl dF) (kS (kg 153 kR rfl dF) (kS (kg 153 kR rfl dF) (jp (kH (vb rfl dF) rfl ?_)))));refine ja ?_;refine lH rfl (rfl) ?_;refine V2 ?_;have hR':=hRno (by unfold AD;rw[<-hm,ah (λq=>hm0 q.1)]);exact⟨i+1,_,rfl,⟨hil,jY,jY,jY,jY,jY,jY,jY,jY,jY,jY,vi rfl oO,R,hR',hS.drop (bk (ap _ LR) (bI _))⟩,oO⟩
    ·refine J1 ?_;refine jt ?_;obtain rfl:i=g.n:=oO;exact⟨_,rfl,h0,h3,h5,h81,h82,h83,R,hR,hS.drop (bk ((ab _ _).trans (ap _ LL)) (bI _))⟩
   clear hS hR h0 h3 h5 h81 h82 h83;rintro ρ w4 ⟨h0,h3,h5,h81,h82,h83,R,hR,hS⟩;rw[<-hT1']at hR;refine V2 ?_;exact⟨d+1,_,rfl,⟨hlt,jY,jY,jY,jY,jY,vi rfl oO,R,hR,hS⟩,oO⟩
  ·refine J1 ?_;refine jt ?_;obtain rfl:d=g.ds.length:=oO;rw[<-hTT]at hR;exact⟨_,rfl,h5,R,hR,hS⟩
 clear hS hR h0 h3 h5;rintro ρ w2 ⟨h5,R,hR,hS⟩;refine J2 ?_;refine jt ?_;refine kJ rfl rfl ?_;exact⟨bo,R,rfl,hR,hS.drop (ao _ _)⟩
def FT (o:Option Rat) (s:Rat):Option Rat:=match o with
 |none=>some s
 |some h=>if s<h then some s else some h
def v9 (b11 b10:Nat) (o:Option Rat):List lj:=[(b11,4,[.bool o.isSome]),(b10,32,ke (ki (o.getD 0)))]
theorem LJ (b11 b10:Nat) (o:Option Rat) (gap rate:Rat) (H:List lj) (w0 w:World) (hr:rate≠0) (hL:L gap+L rate<=MX) (hL2:L (gap/rate)+L (o.getD 0)<=MX) (hS:St w0 w (v9 b11 b10 o++H)):
  mb Tryz.prog 107 #[lC (ki gap),lC (ki rate),.pointer (some ⟨b11,0,none⟩),.pointer (some ⟨b10,0,none⟩)] w λr w'=>r= .tuple #[]/\St w0 w' (v9 b11 b10 (FT o (gap/rate))++H):=by
 obtain⟨s,hs⟩:=jz (gap/rate);have hdiv:=λw=>we (ki gap) (ki rate) w (by rw[Lr_ofQ,Lr_ofQ];exact hL) (by rw[toQ_ofQ];exact hr);rw[toQ_ofQ,toQ_ofQ,<-hs]at hdiv;rw[<-hs]at hL2⊢;refine enter Tryz.func107 rfl Tryz.ntmps107 rfl ?_;refine jr ?_;refine jh (lx (new:=ke (ki gap)) rfl rfl hS ?_);intro b4 wz1 hS hBz1;refine jh (lx (new:=ke (ki rate)) rfl rfl hS ?_);intro b5 wz2 hS hBz2;refine ja ?_;replace hS:St w0 _ ((b5,32,ke (ki rate))::(b4,32,ke (ki gap))::(b11,4,[.bool o.isSome])::(b10,32,ke (ki (o.getD 0)))::H):=hS;refine J2 ?_;refine jh (kf Tryz.call108 rfl (hdiv _) ?_);rintro r w3 ⟨rfl,hB3⟩;replace hS:=hS.kx hB3;refine J4 ?_;intro b6 wz3 hS hBz3;refine J1 ?_;intro wz4 hS;refine V1 ?_;replace hS:St w0 _ ((b6,32,ke (ki s))::(b5,32,ke (ki rate))::(b4,32,ke (ki gap))::(b11,4,[.bool o.isSome])::(b10,32,ke (ki (o.getD 0)))::H):=hS;cases o with
 |none=>
  refine J3 ?_;refine kS (kg 16 kR rfl rfl) (kS (kg 16 kR rfl rfl) (kS (kg 16 kR rfl rfl) (kS (kg 16 kR rfl rfl) (jp (kH (vb rfl rfl) rfl ?_)))));refine ja ?_;refine lu rfl (rfl) ?_;refine J2 ?_;intro wz5 hS;refine jh (oX (k:=3) rfl rfl qB hS rfl dM rfl ?_);intro wz6 hS;refine ja ?_;exact qv rfl ⟨rfl,hS.drop ((ab _ _).trans ((ab _ _).trans (ab _ _)))⟩
 |some h=>
  refine J3 ?_;refine lA (kd 16 kR rfl rfl) (kP (k:=0) rfl kt hS rfl rfl rfl (.inl rfl) (lA (kd 16 kR rfl rfl) (kP (k:=4) rfl kt hS rfl rfl rfl (.inl rfl) (oZ (kd 16 kR rfl rfl) (kf Tryz.call50 rfl (pR (ki s) (ki h) _ (by rw[Lr_ofQ,Lr_ofQ];exact hL2)) ?_)))));rintro _ wc7 ⟨rfl,hBc7⟩;replace hS:=hS.kx hBc7;refine ko (kd 16 kR rfl rfl) (vh rfl rfl (jp (kH (vb rfl rfl) rfl ?_)));refine ja ?_;rw[toQ_ofQ,toQ_ofQ];by_cases hlt:s<h
  ·refine lu rfl ((E9 _ _).trans (ai hlt)) ?_;refine ja ?_;have e:FT (some h) s=some s:=aj hlt;rw[e];refine J2 ?_;intro wz8 hS;refine jh (oX (k:=3) rfl rfl qB hS rfl dM rfl ?_);intro wz9 hS;refine ja ?_;exact qv rfl ⟨rfl,hS.drop ((ab _ _).trans ((ab _ _).trans (ab _ _)))⟩
  ·refine lH rfl ((E9 _ _).trans (ae hlt)) ?_;refine ja ?_;have e:FT (some h) s=some h:=ah hlt;rw[e];exact qv rfl ⟨rfl,hS.drop ((ab _ _).trans ((ab _ _).trans (ab _ _)))⟩
end Go.Proofs.YtoeiejliehgopaaGreatDoor
