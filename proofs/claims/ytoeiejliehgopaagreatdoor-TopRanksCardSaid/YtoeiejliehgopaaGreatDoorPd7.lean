import Derived.Test.YtoeiejliehgopaaGreatDoorPd6
set_option maxRecDepth 20000
set_option maxHeartbeats 8000000
namespace Go.Proofs.YtoeiejliehgopaaGreatDoor
open Go Go.RowKit Go.Sx
def Hb (M:Mx) (n c:Nat):Prop:=(∀i,i<n->L (jW M c i)+L (M i c)<=MX)/\L (jW M c n)+1<=MX
theorem Ex (p:Nat) (v:Value) (vs:List Value) (n:Nat) (M:Mx) (c:Nat) (w:World) (hp:At w ⟨p,0,none⟩ [v]) (hA:kj ae 3 w v (oR n n (qM M)) vs) (hc:c<n) (hL:Hb M n c):
  dj Tryz.prog 100 #[.int .i64 c,.pointer (some ⟨p,0,none⟩)] w λu w'=>u= .bool (Bd M n c)/\Below w.heap.size w w':=by
 have hS:=St.init w;refine enter Tryz.func100 rfl Tryz.ntmps100 rfl ?_;refine Y1 ?_;refine jq (iQ (v:=v) (cs:=[v]) rfl gO (hp.ab hS.ab) rfl rfl (.inr rfl) ?_);refine J1 ?_;refine jh (ah Tryz.call101 rfl (IS v vs n n M c _ (hA.ab hS.ab) hc hL.1 hL.2) ?_);rintro r w3 ⟨rfl,hB3⟩;replace hS:=hS.aG hB3;refine J1 ?_;refine jt ?_;refine bj rfl rfl ?_;exact⟨rfl,hS.ab⟩
theorem JE {C:List Nat} {f:Nat->Bool} {i:Nat} (hi:i<C.length) (h:(C.take i).any f=false):(f (C.getD i 0)=false->(C.take (i+1)).any f=false)/\(f (C.getD i 0)=true->C.any f=true):=by
 refine⟨λh1=> ?_,λh1=>List.any_eq_true.2 ⟨_,bC C i 0 hi,h1⟩⟩;rw[cH C i 0 hi,List.any_append,h,List.any_cons,h1];rfl
theorem DW (p:Nat) (v vc:Value) (vs:List Value) (n:Nat) (M:Mx) (C:List Nat) (w:World) (hp:At w ⟨p,0,none⟩ [v]) (hA:kj ae 3 w v (oR n n (qM M)) vs) (hc:Sl lD 1 w vc (nI C)) (hCn:∀c∈C,c<n) (hL:∀c,c<n->Hb M n c):
  dj Tryz.prog 137 #[vc,.func (.func 100) #[] #[.pointer (some ⟨p,0,none⟩)]] w λr w'=>(∃k:Int,r= .int .i64 k/\(0<=k↔C.any (Bd M n)=true))/\Below w.heap.size w w':=by
 have hmax:=hc.maxLen;have hnl:=kJ C;rw[hnl]at hmax;have hS:=St.init w;refine enter Tryz.func137 rfl Tryz.ntmps137 rfl ?_;refine J2 ?_;refine jp (aF rfl (hc.ab hS.ab) ⟨_,Tryz.underlying46⟩ ?_);refine V1 ?_;rw[hnl];refine aQ (σ:=Nat) (λi ρ w'=>i<=C.length/\(C.take i).any (Bd M n)=false/\ρ 0=vc/\ρ 1= .func (.func 100) #[] #[.pointer (some ⟨p,0,none⟩)]/\ρ 7=iB C.length/\ρ 8=iB i/\St w w' []) (λi=>C.length-i) 0
  ⟨Nat.zero_le _,rfl,rfl,rfl,rfl,rfl,hS⟩ ?_
 clear hS;rintro i ρ w2 ⟨hi,hn,h0,h1,h7,h8,hS⟩;refine V1 ?_;by_cases hlt:i<C.length
 ·refine V1 ?_;obtain⟨t1,t2⟩:=JE hlt hn;obtain⟨k,hk⟩:=jz (C.getD i 0);have hkn:k<n:=hCn k (by rw[hk];exact bC _ _ _ hlt);have hni:(nI C).getD i 0=(k:Int):=by unfold nI;rw[getD_map _ _ 0 _ hlt,hk]
  rw[<-hk]at t1 t2;refine J5 ?_;refine jp (aH (i:=i) rfl rfl (hc.ab hS.ab) oO dO ga (jq (aO (i:=i) 0 rfl eI (hc.ab hS.ab) dO rfl rfl (.inr rfl) ?_)));rw[hni];refine jh (sP Tryz.call100 rfl rfl (Ex p v vs n M k _ (hp.ab hS.ab) (hA.ab hS.ab) hkn (hL k hkn)) ?_);rintro r w3 ⟨rfl,hB3⟩;replace hS:=hS.aG hB3;refine ja ?_;cases hb:Bd M n k with
  |true=>
   refine bZ rfl (rfl) ?_;refine J2 ?_;refine jt ?_;refine bj rfl rfl ?_;exact⟨⟨_,rfl,⟨λ_=>t2 hb,λ_=>oO⟩⟩,hS.ab⟩
  |false=>
   refine ct rfl (rfl) ?_;refine V2 ?_;exact⟨i+1,_,rfl,⟨hlt,t1 hb,h0,h1,h7,vi rfl oO,hS⟩,oO⟩
 ·refine J1 ?_;refine jt ?_;obtain rfl:i=C.length:=oO;rw[List.take_length]at hn;refine J1 ?_;refine jt ?_;refine bj rfl rfl ?_;exact⟨⟨_,rfl,⟨λh=>oO,λh=>by rw[hn]at h;cases h⟩⟩,hS.ab⟩
theorem yb (p:Nat) (v vc:Value) (vs:List Value) (n:Nat) (M:Mx) (C:List Nat) (w:World) (hp:At w ⟨p,0,none⟩ [v]) (hA:kj ae 3 w v (oR n n (qM M)) vs) (hc:Sl lD 1 w vc (nI C)) (hCn:∀c∈C,c<n) (hL:∀c,c<n->Hb M n c):
  dj Tryz.prog 99 #[vc,.func (.func 100) #[] #[.pointer (some ⟨p,0,none⟩)]] w λr w'=>r= .bool (C.any (Bd M n))/\Below w.heap.size w w':=by
 have hS:=St.init w;refine enter Tryz.func99 rfl Tryz.ntmps99 rfl ?_;refine J3 ?_;refine jh (ah Tryz.call137 rfl (DW p v vc vs n M C _ hp hA hc hCn hL) ?_);rintro r w3 ⟨⟨k,rfl,hk⟩,hB3⟩;replace hS:=hS.aG hB3;refine J2 ?_;refine jt ?_;refine bj rfl rfl ?_;refine⟨congrArg Value.bool ?_,hS.ab⟩;rw[Bool.eq_iff_iff,decide_eq_true_iff];exact hk
theorem Gu (vo:Value) (l:List Bool) (w:World) (ho:Sl fy 1 w vo l) (hl:l.length<=1000000):
  dj Tryz.prog 98 #[vo] w λr w'=>∃LO,Gl fy 4 1 r l LO/\St w w' ([]++LO):=by
 obtain⟨a,c,rfl,h1,h2,h3⟩:=ho.form;have hS:=St.init w;have hW:=hS.ab;refine enter Tryz.func98 rfl Tryz.ntmps98 rfl ?_;refine J2 ?_;refine jp (uM rfl rfl (ht:=⟨_,Tryz.underlying36⟩) ?_);refine ja ?_;cases a with
 |none=>
  refine bZ rfl (rfl) ?_;refine J1 ?_;refine jt ?_;refine bj rfl rfl ?_;have:=h3 rfl;obtain rfl:l=[]:=List.eq_nil_of_length_eq_zero oO;exact⟨[],Gl.nil _ _ _,hS⟩
 |some a=>
  refine ct rfl (rfl) ?_;refine jr ?_;refine jh (JF iq hS ?_);intro b5 wz1 hS hBz1;refine J1 ?_;refine jh (zV rfl rfl iq dD (H:=[]) (Gl.Kx (z:=fy false) (n:=0) rfl dD) hS (ho.ab hS.ab) dE (λu hu=>by obtain⟨b,_,hb⟩:=List.mem_flatMap.1 hu;rw[List.mem_singleton.1 hb];rfl) (by simp;omega) (by simp;omega) ?_);intro va2 La2 wa2 hG hS hga2 hgu2;refine J1 ?_;refine jt ?_;refine bj rfl rfl ?_;exact⟨_,hG,hS⟩
inductive JV (M:Mx) (n:Nat) (B:List Bool):Nat->Prop
 |base (j:Nat):B.getD j false=true->JV M n B j
 |step (i j:Nat):JV M n B i->i<n->j<n->0<M j i->JV M n B j
def RO (A B:List Bool):Prop:=∀k,A.getD k false=true->B.getD k false=true
def cf (B:List Bool):Nat:=B.count false
theorem Ks:∀(B:List Bool) (j:Nat),j<B.length->B.getD j false=false->cf (B.set j true)<cf B
 | [],_,h,_=>absurd h (Nat.not_lt_zero _)
 |b::B,0,_,h=>by
  have:b=false:=h;subst this;show List.count false (true::B)<List.count false (false::B);simp
 |b::B,j+1,h,hb=>by
  have:=Ks B j (by simpa using h) (by simpa using hb);show List.count false (b::B.set j true)<List.count false (b::B);unfold cf at this;rw[List.count_cons,List.count_cons];omega
structure RI (M:Mx) (n:Nat) (A B:List Bool):Prop where
 len:B.length=n
 le:RO A B
 rea:∀k,B.getD k false=true->JV M n A k
structure PI (M:Mx) (n:Nat) (B C:List Bool) (ch:Bool) (j i:Nat):Prop where
 no:ch=false->C=B/\∀a b,(a<j\/a=j/\b<i)->a<n->b<n->B.getD b false=true->0<M a b->B.getD a false=true
 yes:ch=true->cf C<cf B
theorem RI.set {M:Mx} {n:Nat} {A B:List Bool} (h:RI M n A B) {i j:Nat} (hi:i<n) (hj:j<n) (hb:B.getD i false=true) (hm:0<M j i):RI M n A (B.set j true):=by
 have hl:j<B.length:=by rw[h.len];exact hj
 refine⟨by rw[List.length_set];exact h.len,λk hk=> ?_,λk hk=> ?_⟩
 ·rw[eZ _ _ _ hl];split
  ·rfl
  ·exact h.le k hk
 ·rw[eZ _ _ _ hl]at hk;by_cases e:k=j
  ·rw[e];exact .step i j (h.rea i hb) hi hj hm
  ·rw[if_neg e]at hk;exact h.rea k hk
theorem PI.set {M:Mx} {n:Nat} {B C:List Bool} {ch:Bool} {i j:Nat} (h:PI M n B C ch j i) (hj:j<C.length) (hb:C.getD j false=false):PI M n B (C.set j true) true j (i+1):=by
 refine⟨(by intro e;cases e),λ_=> ?_⟩;have h1:=Ks C j hj hb;cases ch with
 |true=>have:=h.yes rfl;omega
 |false=>rw[(h.no rfl).1]at h1⊢;exact h1
theorem PI.skip {M:Mx} {n:Nat} {B C:List Bool} {ch:Bool} {i j:Nat} (h:PI M n B C ch j i) (hb:C.getD i false=true->0<M j i->C.getD j false=true):PI M n B C ch j (i+1):=by
 refine⟨λe=> ?_,h.yes⟩;obtain⟨h1,h2⟩:=h.no e;refine⟨h1,λa b hab ha hbn g1 g2=> ?_⟩;by_cases e2:a=j/\b=i
 ·rw[e2.1,e2.2]at g2;rw[e2.2]at g1;rw[e2.1];rw[h1]at hb;exact hb g1 g2
 ·exact h2 a b oO ha hbn g1 g2
theorem PI.row {M:Mx} {n:Nat} {B C:List Bool} {ch:Bool} {j:Nat} (h:PI M n B C ch j n):PI M n B C ch (j+1) 0:=by
 refine⟨λe=> ?_,h.yes⟩;obtain⟨h1,h2⟩:=h.no e;exact⟨h1,λa b hab ha hbn g1 g2=>h2 a b oO ha hbn g1 g2⟩
theorem DE {M:Mx} {n:Nat} {A B:List Bool} (h:RI M n A B) (hc:∀a b,a<n->b<n->B.getD b false=true->0<M a b->B.getD a false=true) {k:Nat} (hk:JV M n A k):B.getD k false=true:=by
 induction hk with
 |base j hj=>exact h.le j hj
 |step i j _ hi hj hm ih=>exact hc j i hj hi ih hm
theorem Jx (v vf:Value) (vs:List Value) (n:Nat) (M:Mx) (A:List Bool) (w:World) (hA:kj ae 3 w v (oR n n (qM M)) vs) (hf:Sl fy 1 w vf A) (hfl:A.length=n) (hn:n<=1000) (hL:∀i,i<n->∀j,j<n->L (M i j)<=MX):
  dj Tryz.prog 57 #[v,vf] w λr w'=>∃B LO,Gl fy 4 1 r B LO/\B.length=n/\(∀k,B.getD k false=true↔JV M n A k)/\St w w' LO:=by
 have hS:=St.init w;have hmx:=hA.sl.maxLen;have hlen:=hA.len;rw[eg]at hlen;refine enter Tryz.func57 rfl Tryz.ntmps57 rfl ?_;refine J2 ?_;refine jh (ah Tryz.call98 rfl (Gu vf A _ (hf.ab hS.ab) oO) ?_);rintro r w3 ⟨LC,hG,hS3⟩;replace hS:=hS.join hS3;rw[List.append_nil]at hS;obtain⟨a5,c5,rfl⟩:=hG.len;rw[hfl];refine J2 ?_;refine jb ?_;refine aW (λρ w'=>∃B LO,ρ 5= .slice a5 n c5/\Gl fy 4 1 (.slice a5 n c5) B LO/\B.length=n/\(∀k,B.getD k false=true↔JV M n A k)/\St w w' ([]++LO)) ?_ ?_
 ·refine ja ?_;refine aQ (σ:=List Bool×Bool) (λs ρ w'=>RI M n A s.1/\(s.2=false->∀a b,a<n->b<n->s.1.getD b false=true->0<M a b->s.1.getD a false=true)/\ρ 0=v/\ρ 5= .slice a5 n c5/\ρ 6= .bool s.2/\∃LO,Gl fy 4 1 (.slice a5 n c5) s.1 LO/\St w w' ([]++LO)) (λs=>2*cf s.1+(bif s.2 then 1 else 0)) (A,true)
   ⟨⟨hfl,λk h=>h,λk h=> .base k h⟩,(by intro e;cases e),rfl,rfl,rfl,LC,hfl▸hG,hS⟩ ?_
  clear hS hS3 hG;rintro⟨B,ch⟩ ρ w2 ⟨hRI,hcl,h0,h5,h6,LO,hG,hS⟩;dsimp only at hRI hcl h6 hG;refine V1 ?_;cases ch with
  |false=>
   refine ct rfl (rfl) ?_;refine jt ?_;exact⟨_,rfl,B,LO,h5,hG,hRI.len,λk=>⟨hRI.rea k,λh=>DE hRI (hcl rfl) h⟩,hS⟩
  |true=>
   refine bZ rfl (rfl) ?_;refine J2 ?_;refine jp (aF rfl (hA.sl.ab hS.ab) ⟨_,Tryz.underlying35⟩ ?_);refine J1 ?_;refine jb ?_;rw[hlen];refine aW (λρ w'=>∃C ch,ρ 0=v/\ρ 5= .slice a5 n c5/\ρ 6= .bool ch/\RI M n A C/\PI M n B C ch n 0/\∃LO,Gl fy 4 1 (.slice a5 n c5) C LO/\St w w' ([]++LO)) ?_ ?_
   ·refine ja ?_;refine aQ (σ:=Nat) (λj ρ w'=>j<=n/\ρ 0=v/\ρ 5= .slice a5 n c5/\ρ 14=v/\ρ 15=iB n/\ρ 16=iB j/\∃C ch,ρ 6= .bool ch/\RI M n A C/\PI M n B C ch j 0/\∃LO,Gl fy 4 1 (.slice a5 n c5) C LO/\St w w' ([]++LO)) (λj=>n-j) 0
     ⟨Nat.zero_le _,jY,jY,rfl,rfl,rfl,B,false,rfl,hRI,⟨λ_=>⟨rfl,λa b h=>absurd h oO⟩,by intro e;cases e⟩,LO,hG,hS⟩ ?_
    clear hS hG;rintro j ρ w3 ⟨hj,h0,h5,h14,h15,h16,C,ch,h6,hRI,hPI,LO,hG,hS⟩;refine V1 ?_;by_cases hlt:j<n
    ·refine V1 ?_;have hrow:=hA.row j (by rw[eg];exact hlt);rw[iw _ hlt]at hrow;have htl:=ao n (qM M j);obtain⟨vr,hvr⟩:=jz (vs.getD j undef);rw[<-hvr]at hrow;refine J1 ?_;refine jp (aH (i:=j) h14 h16 (hA.sl.ab hS.ab) oO dO cZ (jq (aO (i:=j) undef rfl dh (hA.sl.ab hS.ab) dO rfl rfl (.inr rfl) ?_)));refine V2 ?_;rw[<-hvr];refine jr ?_;refine jp (aI rfl (jp (aF rfl (hrow.ab hS.ab) ⟨_,Tryz.underlying34⟩ ?_)));refine J1 ?_;refine jb ?_;rw[htl];refine aW (λρ w'=>ρ 0=v/\ρ 5= .slice a5 n c5/\ρ 14=v/\ρ 15=iB n/\ρ 16=iB j/\∃C ch,ρ 6= .bool ch/\RI M n A C/\PI M n B C ch j n/\∃LO,Gl fy 4 1 (.slice a5 n c5) C LO/\St w w' ([]++LO)) ?_ ?_
     ·refine ja ?_;refine aQ (σ:=Nat) (λi ρ w'=>i<=n/\ρ 0=v/\ρ 5= .slice a5 n c5/\ρ 7=iB j/\ρ 14=v/\ρ 15=iB n/\ρ 16=iB j/\ρ 21=vr/\ρ 22=iB n/\ρ 23=iB i/\∃C ch,ρ 6= .bool ch/\RI M n A C/\PI M n B C ch j i/\∃LO,Gl fy 4 1 (.slice a5 n c5) C LO/\St w w' ([]++LO)) (λi=>n-i) 0
       ⟨Nat.zero_le _,jY,jY,rfl,jY,jY,jY,rfl,rfl,rfl,C,ch,jY,hRI,hPI,LO,hG,hS⟩ ?_
      clear hS hG hRI hPI h6;rintro i ρ w4 ⟨hi,h0,h5,h7,h14,h15,h16,h21,h22,h23,C,ch,h6,hRI,hPI,LO,hG,hS⟩;have hCl:=hRI.len;refine V1 ?_;by_cases hil:i<n
      ·refine V1 ?_;have hg:(aS n (qM M j)).getD i bM=aj (M j i):=aV _ _ hil;refine J1 ?_;refine jp (aH (i:=i) h21 h23 (hrow.ab hS.ab) oO dO bJ (jq (aO (i:=i) bM rfl aB (hrow.ab hS.ab) dO rfl rfl (.inl rfl) ?_)));refine J1 ?_;intro b10 wz1 hS hBz1;refine J2 ?_;intro wz2 hS;refine ja ?_;rw[hg]at hS;replace hS:St w _ ([(b10,32,ae (aj (M j i)))]++LO):=hS;by_cases hbi:C.getD i false=true
       ·by_cases hbj:C.getD j false=true
        ·refine J2 ?_;refine jp (aH (i:=i) rfl rfl (hG.sl hS dE) oO dO iq (jq (aO (i:=i) false rfl iN (hG.sl hS dE) dO rfl rfl (.inr rfl) ?_)));refine J1 ?_;refine ax (ai 32 kR rfl hbi) (aI h5 (ax (ai 32 kR rfl hbi) (aI h7 (ax (ai 32 kR rfl hbi) (aH (i:=j) rfl rfl (hG.sl hS dE) oO dO iq (bW (ai 32 kR rfl hbi) (aO (i:=j) false rfl iN (hG.sl hS dE) dO rfl rfl (.inr rfl) (ax (ai 32 kR rfl hbi) (mJ rfl (jp (aZ (vb rfl hbi) rfl ?_)))))))))));refine J1 ?_;refine bI (ak 39 kR rfl (congrArg not hbj)) (bI (ak 39 kR rfl (congrArg not hbj)) (bI (ak 39 kR rfl (congrArg not hbj)) (jp (aZ (vb rfl (congrArg not hbj)) rfl ?_))));refine ja ?_;refine ct rfl (rfl) ?_;refine V2 ?_;exact⟨i+1,_,rfl,⟨hil,jY,jY,jY,jY,jY,jY,jY,jY,vi rfl oO,C,ch,jY,hRI,hPI.skip λ_ _=>hbj,LO,hG,hS.drop (List.sublist_cons_self _ _)⟩,oO⟩
        ·have hbj':C.getD j false=false:=by simpa using hbj
         refine J2 ?_;refine jp (aH (i:=i) rfl rfl (hG.sl hS dE) oO dO iq (jq (aO (i:=i) false rfl iN (hG.sl hS dE) dO rfl rfl (.inr rfl) ?_)));refine J1 ?_;refine ax (ai 32 kR rfl hbi) (aI h5 (ax (ai 32 kR rfl hbi) (aI h7 (ax (ai 32 kR rfl hbi) (aH (i:=j) rfl rfl (hG.sl hS dE) oO dO iq (bW (ai 32 kR rfl hbi) (aO (i:=j) false rfl iN (hG.sl hS dE) dO rfl rfl (.inr rfl) (ax (ai 32 kR rfl hbi) (mJ rfl (jp (aZ (vb rfl hbi) rfl ?_)))))))))));refine J1 ?_;refine bW (ai 39 kR rfl (congrArg not hbj')) (bT (k:=0) rfl aB hS rfl rfl rfl (.inl rfl) (fB (ai 39 kR rfl (congrArg not hbj')) (ah Tryz.call80 rfl (kK (aj (M j i)) _ (by rw[Lr_ofQ];exact hL j hlt i hil)) ?_)));rintro _ wc3 ⟨rfl,hBc3⟩;replace hS:=hS.aG hBc3;refine ax (ai 39 kR rfl (congrArg not hbj')) (mQ rfl rfl (jp (aZ (vb rfl (congrArg not hbj')) rfl ?_)));refine ja ?_;rw[toQ_ofQ];by_cases hm:0<M j i
         ·refine bZ rfl (decide_eq_true (fh.2 hm)) ?_;refine J2 ?_;refine jp (aH (i:=j) rfl rfl (hG.sl hS dE) oO dO iq (jh (mD (i:=j) true dE rfl rfl iN hG hS oO rfl rfl ?_)));intro wz4 hS;refine V1 ?_;obtain⟨LC2,hG,hS⟩:=hS;refine V2 ?_;exact⟨i+1,_,rfl,⟨hil,jY,jY,jY,jY,jY,jY,jY,jY,vi rfl oO,_,true,rfl,hRI.set hil hlt hbi hm,hPI.set (by rw[hCl];exact hlt) hbj',_,hG,hS.drop (List.sublist_cons_self _ _)⟩,oO⟩
         ·refine ct rfl (decide_eq_false (λg=>hm (fh.1 g))) ?_;refine V2 ?_;exact⟨i+1,_,rfl,⟨hil,jY,jY,jY,jY,jY,jY,jY,jY,vi rfl oO,C,ch,jY,hRI,hPI.skip λ_ g=>absurd g hm,LO,hG,hS.drop (List.sublist_cons_self _ _)⟩,oO⟩
       ·have hbi':C.getD i false=false:=by simpa using hbi
        refine J2 ?_;refine jp (aH (i:=i) rfl rfl (hG.sl hS dE) oO dO iq (jq (aO (i:=i) false rfl iN (hG.sl hS dE) dO rfl rfl (.inr rfl) ?_)));refine J1 ?_;refine bI (ak 32 kR rfl hbi') (bI (ak 32 kR rfl hbi') (bI (ak 32 kR rfl hbi') (bI (ak 32 kR rfl hbi') (bI (ak 32 kR rfl hbi') (jp (aZ (vb rfl hbi') rfl ?_))))));refine J1 ?_;refine bI (ak 39 kR rfl rfl) (bI (ak 39 kR rfl rfl) (bI (ak 39 kR rfl rfl) (jp (aZ (vb rfl rfl) rfl ?_))));refine ja ?_;refine ct rfl (rfl) ?_;refine V2 ?_;exact⟨i+1,_,rfl,⟨hil,jY,jY,jY,jY,jY,jY,jY,jY,vi rfl oO,C,ch,jY,hRI,hPI.skip λg _=>absurd g hbi,LO,hG,hS.drop (List.sublist_cons_self _ _)⟩,oO⟩
      ·refine J1 ?_;refine jt ?_;obtain rfl:i=n:=oO;exact⟨_,rfl,h0,h5,h14,h15,h16,C,ch,h6,hRI,hPI,LO,hG,hS⟩
     clear hS hG hRI hPI h6;rintro ρ w4 ⟨h0,h5,h14,h15,h16,C,ch,h6,hRI,hPI,LO,hG,hS⟩;refine V2 ?_;exact⟨j+1,_,rfl,⟨hlt,jY,jY,jY,jY,vi rfl oO,C,ch,jY,hRI,hPI.row,LO,hG,hS⟩,oO⟩
    ·refine J1 ?_;refine jt ?_;obtain rfl:j=n:=oO;exact⟨_,rfl,C,ch,h0,h5,h6,hRI,hPI,LO,hG,hS⟩
   clear hS hG hRI h6;rintro ρ w3 ⟨C,ch,h0,h5,h6,hRI,hPI,LO,hG,hS⟩;refine⟨(C,ch),_,rfl,⟨hRI,λe=> ?_,h0,h5,h6,LO,hG,hS⟩,?_⟩
   ·obtain⟨e1,e2⟩:=hPI.no e;dsimp only;rw[e1];exact λa b ha hb=>e2 a b (.inl ha) ha hb
   ·cases ch with
    |true=>
     have:=hPI.yes rfl;show 2*cf C+1<2*cf B+1;omega
    |false=>
     rw[(hPI.no rfl).1];show 2*cf B+0<2*cf B+1;omega
 clear hS hG;rintro ρ w2 ⟨B,LO,h5,hG,hBl,hB,hS⟩;refine J2 ?_;refine jt ?_;refine bj rfl rfl ?_;exact⟨B,LO,hG,hBl,hB,hS⟩
noncomputable def Ni (M:Mx) (n:Nat) (A:List Bool):List Bool:=aS n λk=> @decide (JV M n A k) (Classical.propDecidable _)
theorem FZ (M:Mx) (n:Nat) (A:List Bool) {k:Nat} (hk:k<n):(Ni M n A).getD k false=true↔JV M n A k:=by
 unfold Ni;rw[aV _ _ hk];exact @decide_eq_true_iff _ (Classical.propDecidable _)
theorem Og {M:Mx} {n:Nat} {A B:List Bool} (hl:B.length=n) (h:∀k,B.getD k false=true↔JV M n A k):B=Ni M n A:=by
 rw[D1 B false,hl];unfold Ni;refine bA λk _=> ?_;rw[Bool.eq_iff_iff,h k];exact(@decide_eq_true_iff _ (Classical.propDecidable _)).symm
def oX (n i:Nat):List Bool:=(List.replicate n false).set i true
noncomputable def lU (M:Mx) (n i:Nat):List Nat:=mv (Ni M n (oX n i)) n
theorem nZ {B:List Bool} {k i:Nat}:i∈mv B k↔i<k/\B.getD i false=true:=by
 unfold mv;rw[List.mem_filter,List.mem_range]
theorem yW {n i:Nat} (hi:i<n) (k:Nat):(oX n i).getD k false=true↔k=i:=by
 unfold oX;rw[eZ _ _ _ (by rw[List.length_replicate];exact hi)];by_cases e:k=i
 ·simp[e]
 ·rw[if_neg e,List.getD_eq_getElem?_getD,List.getElem?_replicate];by_cases g:k<n
  ·simp[g,e]
  ·simp[g,e]
theorem lO {M:Mx} {n i k:Nat}:k∈lU M n i↔k<n/\JV M n (oX n i) k:=by
 unfold lU;rw[nZ];constructor
 ·rintro⟨h1,h2⟩;exact⟨h1,(FZ _ _ _ h1).1 h2⟩
 ·rintro⟨h1,h2⟩;exact⟨h1,(FZ _ _ _ h1).2 h2⟩
theorem HS {M:Mx} {n i:Nat} (hi:i<n):i∈lU M n i:=lO.2 ⟨hi,.base i ((yW hi i).2 rfl)⟩
theorem Ky {M:Mx} {n i:Nat} (hi:i<n):lU M n i≠ []:=λe=>by have:=HS (M:=M) hi;rw[e]at this;cases this
noncomputable def iW (M:Mx) (n:Nat) (F:List Bool):Nat->List Nat
 |0=>[]
 |k+1=>if F.getD k false=true/\(lU M n k).any (Bd M n)=false/\(iW M n F k=[]\/(lU M n k).length<(iW M n F k).length)then lU M n k else iW M n F k
theorem tw (M:Mx) (n:Nat) (F:List Bool):∀k,(iW M n F k).length<=n
 |0=>Nat.zero_le _
 |k+1=>by
  unfold iW;split
  ·exact tU _ _
  ·exact tw M n F k
theorem Hc (v vf:Value) (vs:List Value) (n:Nat) (M:Mx) (F:List Bool) (w:World) (hA:kj ae 3 w v (oR n n (qM M)) vs) (hf:Sl fy 1 w vf F) (hfl:F.length=n) (hn:n<=1000) (hL:∀i,i<n->∀j,j<n->L (M i j)<=MX) (hk:∀c,c<n->Hb M n c):
  dj Tryz.prog 59 #[v,vf] w λr w'=>∃LO,Gl lD 3 1 r (nI (iW M n F n)) LO/\(iW M n F n=[]->r=aw)/\St w w' LO:=by
 have hS:=St.init w;have hmx:=hA.sl.maxLen;have hlen:=hA.len;rw[eg]at hlen;obtain⟨a0,c0,hv,_⟩:=hA.sl.form;subst hv;rw[hlen]at hA⊢;refine enter Tryz.func59 rfl Tryz.ntmps59 rfl ?_;refine jr ?_;refine jh (bY rfl rfl hS ?_);intro b2 wz1 hS hBz1;refine V1 ?_;replace hS:St w _ ([(b2,35,[.slice a0 n c0])]++[]):=hS;refine J2 ?_;refine jp (aF rfl (hf.ab hS.ab) ⟨_,Tryz.underlying36⟩ ?_);refine J1 ?_;refine jb ?_;rw[hfl];refine aW (λρ w'=>∃vb LB,ρ 5=vb/\Gl lD 3 1 vb (nI (iW M n F n)) LB/\(iW M n F n=[]->vb=aw)/\St w w' ([(b2,35,[.slice a0 n c0])]++LB)) ?_ ?_
 ·refine ja ?_;refine aQ (σ:=Nat) (λi ρ w'=>i<=n/\ρ 1=vf/\ρ 2=pB b2/\ρ 10=vf/\ρ 11=iB n/\ρ 12=iB i/\∃vb LB,ρ 5=vb/\Gl lD 3 1 vb (nI (iW M n F i)) LB/\(iW M n F i=[]->vb=aw)/\St w w' ([(b2,35,[.slice a0 n c0])]++LB)) (λi=>n-i) 0
   ⟨Nat.zero_le _,rfl,rfl,rfl,rfl,rfl,aw,[],rfl,Gl.nil _ _ _,λ_=>rfl,hS⟩ ?_
  clear hS;rintro i ρ w2 ⟨hi,h1,h2,h10,h11,h12,vb,LB,h5,hG,hnil,hS⟩;refine V1 ?_;by_cases hlt:i<n
  ·refine J2 ?_;refine jp (aH (i:=i) h10 h12 (hf.ab hS.ab) oO dO iq (jq (aO (i:=i) false rfl iN (hf.ab hS.ab) dO rfl rfl (.inr rfl) ?_)));refine V4 ?_;cases hF:F.getD i false with
   |false=>
    refine bZ rfl (rfl) ?_;refine jt ?_;have e:iW M n F (i+1)=iW M n F i:=by
     show(if _ then _ else _)=_;rw[if_neg (by rw[hF];rintro⟨h,_⟩;cases h)]
    refine V2 ?_;refine⟨i+1,_,rfl,⟨hlt,jY,jY,jY,jY,vi rfl oO,vb,LB,jY,?_⟩,oO⟩;rw[e];exact⟨hG,hnil,hS⟩
   |true=>
    refine ct rfl (rfl) ?_;refine J1 ?_;refine jp (aF rfl (hf.ab hS.ab) ⟨_,Tryz.underlying36⟩ (jh (de (enc:=fy) (n:=n) false rfl rfl iq rfl oO oO oO oO hS ?_)));intro b21 wz2 hS hBz2;refine V1 ?_;replace hS:St w _ ((b21,4,(List.replicate n false).flatMap fy)::([(b2,35,[.slice a0 n c0])]++LB)):=hS;refine J2 ?_;refine jp (bn (i:=i) rfl rfl oO dO iq ?_);refine jh (sa (k:=0) (i:=i) (enc:=fy) true (λ_=>rfl) rfl rfl iN hS rfl (by first|omega|simp) dO rfl rfl ?_);intro wz3 hS;refine ja ?_;replace hS:St w _ ((b21,4,(oX n i).flatMap fy)::([(b2,35,[.slice a0 n c0])]++LB)):=hS;have hul:(oX n i).length=n:=by unfold oX;rw[List.length_set,List.length_replicate]
    have hU:=hS.sle (k:=0) (n:=n) (cap:=n) rfl dE oO oO oO;rw[List.take_of_length_le oO]at hU;have hAW:=hA.ab hS.ab;refine J2 ?_;refine jh (ah Tryz.call57 rfl (Jx (.slice a0 n c0) _ vs n M (oX n i) _ hAW hU hul hn hL) ?_);rintro r w3 ⟨B,LR,hGR,hBl,hB,hS3⟩;obtain rfl:=Og hBl hB;replace hS:=hS.join hS3;refine jh (ah Tryz.call62 rfl (F9 r _ _ (hGR.sl (H:=[]) hS3 dE) oO) ?_);rintro r2 w4 ⟨LC,hGC,hS4⟩;rw[hBl]at hGC;replace hGC:Gl lD 3 1 r2 (nI (lU M n i)) LC:=hGC;replace hS:=hS.join hS4;replace hS:=(hS.drop (List.Sublist.append (List.Sublist.refl LC) ((List.sublist_cons_self _ _).trans (List.sublist_append_right LR _)))).perm List.perm_append_comm;refine V1 ?_;have hC:=hGC.sl (H:=[]) hS4 (λ_=>rfl);have hcl:=tU (Ni M n (oX n i)) n;have hbl:=tw M n F i;have hAW2:=hA.ab hS.ab;have hcn:∀c∈lU M n i,c<n:=λc hc=>(lO.1 hc).1;have hcne:=Ky (M:=M) hlt;replace hcl:(lU M n i).length<=n:=hcl;obtain⟨C,hCd⟩:=jz (lU M n i);obtain⟨D,hDd⟩:=jz (iW M n F i);have hbs:iW M n F (i+1)=if F.getD i false=true/\C.any (Bd M n)=false/\(D=[]\/C.length<D.length)then C else D:=by rw[hCd,hDd];rfl
    rw[<-hDd]at hG hbl hnil;rw[<-hCd]at hcl hcn hcne hGC hC;have hnC:=kJ C;have hnD:=kJ D;obtain⟨a9,c9,hr2⟩:=hGC.len;rw[hnC]at hr2;subst hr2;replace hS:St w _ (([(b2,35,[.slice a0 n c0])]++LB)++LC):=hS;refine ja ?_;refine fi (λρ'=>ρ' 1=vf/\ρ' 2= .pointer (some ⟨b2,0,none⟩)/\ρ' 5=vb/\ρ' 9= .slice a9 C.length c9/\ρ' 10=vf/\ρ' 11= .int .i64 n/\ρ' 12= .int .i64 i/\True) ⟨h1,h2,h5,rfl,h10,h11,h12,trivial⟩ ?_;rintro ρk4 ⟨hk4_1,hk4_2,hk4_5,hk4_9,hk4_10,hk4_11,hk4_12,-⟩;refine J1 ?_;refine jp (Il hk4_2 (jh (ah Tryz.call99 rfl (yb b2 (.slice a0 n c0) _ vs n M C _ (hS.at (k:=0) rfl 0 1) hAW2 hC hcn hk) ?_)));rintro r3 w5 ⟨rfl,hB5⟩;replace hS:=hS.aG hB5;refine ja ?_;cases hlk:C.any (Bd M n)with
    |true=>
     refine bZ rfl (rfl) ?_;refine jt ?_;rw[if_neg (by rw[hlk];rintro⟨_,h,_⟩;cases h)]at hbs;refine V2 ?_;refine⟨i+1,_,rfl,⟨hlt,jY,jY,jY,jY,vi rfl oO,vb,LB,jY,?_⟩,oO⟩;rw[hbs];exact⟨hG,hnil,hS.drop (List.sublist_append_left _ _)⟩
    |false=>
     refine ct rfl (rfl) ?_;refine ja ?_;have hSC:St w _ ([(b2,35,[.slice a0 n c0])]++LC):=hS.drop (List.Sublist.append (List.sublist_append_left _ _) (List.Sublist.refl _));by_cases hD:D=[]
     ·obtain rfl:=hnil hD;refine J1 ?_;refine jp (uM rfl rfl (ht:=⟨_,Tryz.underlying46⟩) ?_);refine J1 ?_;refine bI (ak 34 kR rfl rfl) (bI (ak 34 kR rfl rfl) (bI (ak 34 kR rfl rfl) (bI (ak 34 kR rfl rfl) (bI (ak 34 kR rfl rfl) (jp (aZ (vb rfl rfl) rfl ?_))))));refine ja ?_;refine bZ rfl (rfl) ?_;refine V4 ?_;rw[if_pos ⟨hF,hlk,.inl hD⟩]at hbs;refine⟨i+1,_,rfl,⟨hlt,jY,jY,jY,jY,vi rfl oO,_,LC,rfl,?_⟩,oO⟩;rw[hbs];exact⟨hGC,λe=>absurd e hcne,hSC⟩
     ·have hvb:∃b cap,vb= .slice (some ⟨b,0,none⟩) D.length cap:=by
       obtain⟨_,⟨_,h2,_⟩|⟨b,cap,_,h1,_⟩⟩:=hG
       ·exact absurd (List.length_eq_zero_iff.1 (by rw[<-hnD,h2])) hD
       ·exact⟨b,cap,by rw[h1,hnD]⟩
      obtain⟨bb,cb,rfl⟩:=hvb;refine J1 ?_;refine jp (uM rfl rfl (ht:=⟨_,Tryz.underlying46⟩) ?_);refine J1 ?_;refine ax (ai 34 kR rfl rfl) (aI hk4_9 (ax (ai 34 kR rfl rfl) (gV rfl ⟨_,Tryz.underlying46⟩ (ax (ai 34 kR rfl rfl) (aI hk4_5 (ax (ai 34 kR rfl rfl) (gV rfl ⟨_,Tryz.underlying46⟩ (ax (ai 34 kR rfl rfl) (oE rfl rfl (jp (aZ (vb rfl rfl) rfl ?_)))))))))));refine ja ?_;by_cases hlt2:C.length<D.length
      ·refine V5 ?_;rw[if_pos ⟨hF,hlk,.inr hlt2⟩]at hbs;refine⟨i+1,_,rfl,⟨hlt,jY,jY,jY,jY,vi rfl oO,_,LC,rfl,?_⟩,oO⟩;rw[hbs];exact⟨hGC,λe=>absurd e hcne,hSC⟩
      ·refine V3 ?_;rw[if_neg (by rintro⟨_,_,h|h⟩<;>contradiction)]at hbs;refine⟨i+1,_,rfl,⟨hlt,jY,jY,jY,jY,vi rfl oO,_,LB,jY,?_⟩,oO⟩;rw[hbs];exact⟨hG,hnil,hS.drop (List.sublist_append_left _ _)⟩
  ·refine J1 ?_;refine jt ?_;obtain rfl:i=n:=oO;exact⟨_,rfl,vb,LB,h5,hG,hnil,hS⟩
 clear hS;rintro ρ w2 ⟨vb,LB,h5,hG,hnil,hS⟩;refine J2 ?_;refine jt ?_;refine bj rfl rfl ?_;exact⟨LB,hG,hnil,hS.drop (List.sublist_append_right _ _)⟩
def pQ (q:Rat):Rat:=yu q 0
theorem B4 (q:Rat):L (pQ q)<=L q+1:=by
 unfold pQ yu;split
 ·omega
 ·rw[fM];omega
theorem fZ (q:Rat) (w:World) (hq:L q+2<=MX):
  dj Tryz.prog 91 #[cw (aj q)] w λr w'=>r=cw (aj (pQ q))/\Below w.heap.size w w':=by
 have hS:=St.init w;have h0:=fM;refine enter Tryz.func91 rfl Tryz.ntmps91 rfl ?_;refine jr ?_;refine jh (bY (new:=ae (aj q)) rfl rfl hS ?_);intro b1 wz1 hS hBz1;refine J1 ?_;intro b2 wz2 hS hBz2;refine J1 ?_;refine jp (bR rfl ix (jh (ah Tryz.call52 rfl (As (aj q) bM _ (by rw[Lr_ofQ,gY,Lr_ofQ];omega)) ?_)));rintro r w2 ⟨rfl,hB2⟩;rw[gY,toQ_ofQ,toQ_ofQ];replace hS:=hS.aG hB2;refine J1 ?_;intro wz3 hS;refine jt ?_;refine dx (k:=0) rfl rfl aB hS rfl rfl ?_;exact⟨rfl,hS.ab⟩
def fP (q:Nat->Rat) (k:Nat):Rat:=ay (λj=>pQ (q j)) k
def oP (W:Rat) (q:Nat->Rat):Nat->Rat
 |0=>0
 |k+1=>pQ (fP q (k+1)-pQ W)
def mK (W:Rat) (q:Nat->Rat) (k:Nat):Rat:=oP W q (k+1)-oP W q k
def oN (f:Nat->Rat) (i k:Nat):Rat:=if k<i then f k else 0
theorem om (f:Nat->Rat) (n i:Nat):(aS n λk=>aj (oN f i k)).set i (aj (f i))=aS n λk=>aj (oN f (i+1) k):=uW n (oN f i) (oN f (i+1)) i (f i) (λk _=>by
 unfold oN;by_cases e:k=i
 ·rw[if_pos e,if_pos oO,e]
 ·rw[if_neg e];by_cases e2:k<i
  ·rw[if_pos e2,if_pos oO]
  ·rw[if_neg e2,if_neg oO])
theorem oc (f:Nat->Rat) (n:Nat):(aS n λk=>aj (oN f n k))=aS n λk=>aj (f k):=bA λk hk=>by unfold oN;rw[if_pos hk]
theorem Dw (va:Value) (n:Nat) (W:Rat) (q:Nat->Rat) (K:Nat) (w:World) (ha:Sl ae 3 w va (aS n λk=>aj (q k))) (hn:n<=1000) (hW:L W<=K) (hq:∀k,k<n->L (q k)<=K) (hs:∀k,k<=n->L (fP q k)<=K) (hK:8*K+20<=MX):
  dj Tryz.prog 53 #[cw (aj W),va] w λr w'=>∃LO,Gl ae 32 3 r (aS n λk=>aj (mK W q k)) LO/\St w w' LO:=by
 have hS:=St.init w;have hla:=ao n λk=>aj (q k);have hz:ae bM=ae (aj (oP W q 0)):=by rw[cB];rfl
 have hpW:=B4 W;refine enter Tryz.func53 rfl Tryz.ntmps53 rfl ?_;refine jr ?_;refine jh (bY (new:=ae (aj W)) rfl rfl hS ?_);intro b2 wz1 hS hBz1;refine J2 ?_;refine jp (aF rfl (ha.ab hS.ab) ⟨_,Tryz.underlying34⟩ (jh (de (enc:=ae) (n:=n) bM rfl rfl bJ rfl oO oO oO oO hS ?_)));intro b13 wz2 hS hBz2;refine Y1 ?_;refine jp (bR rfl ix (jp (bR rfl ix ?_)));refine J1 ?_;intro b6 wz3 hS hBz3;refine J1 ?_;intro b7 wz4 hS hBz4;refine J1 ?_;intro wz5 hS;refine J1 ?_;intro wz6 hS;refine ja ?_;replace hS:St w _ ((b7,32,ae bM)::(b6,32,ae bM)::(b13,32,(List.replicate n bM).flatMap ae)::[(b2,32,ae (aj W))]):=hS;rw[hz,cG]at hS;replace hS:St w _ ([(b7,32,ae (aj (oP W q 0))),(b6,32,ae (aj (fP q 0))),(b2,32,ae (aj W))]++[(b13,32,(aS n λk=>aj (rH.c k)).flatMap ae)]):=hS.perm (List.Perm.cons _ (List.Perm.cons _ (List.Perm.swap _ _ _)));have hG:Gl ae 32 3 (.slice (some ⟨b13,0,none⟩) n n) (aS n λk=>aj (oN (mK W q) 0 k)) [(b13,32,(aS n λk=>aj (oN (mK W q) 0 k)).flatMap ae)]:=iE (ao _ _) oO;refine J1 ?_;refine jp (aF rfl (ha.ab hS.ab) ⟨_,Tryz.underlying34⟩ ?_);refine J1 ?_;refine jb ?_;rw[hla];refine aW (λρ w'=>∃LO,ρ 5= .slice (some ⟨b13,0,none⟩) n n/\Gl ae 32 3 (.slice (some ⟨b13,0,none⟩) n n) (aS n λk=>aj (mK W q k)) LO/\St w w' LO) ?_ ?_
 ·refine ja ?_;refine aQ (σ:=Nat) (λi ρ w'=>i<=n/\ρ 2=pB b2/\ρ 5= .slice (some ⟨b13,0,none⟩) n n/\ρ 6=pB b6/\ρ 7=pB b7/\ρ 16=va/\ρ 17=iB n/\ρ 18=iB i/\∃LO,Gl ae 32 3 (.slice (some ⟨b13,0,none⟩) n n) (aS n λk=>aj (oN (mK W q) i k)) LO/\
    St w w' ([(b7,32,ae (aj (oP W q i))),(b6,32,ae (aj (fP q i))),(b2,32,ae (aj W))]++LO)) (λi=>n-i) 0
   ⟨Nat.zero_le _,rfl,rfl,rfl,rfl,rfl,rfl,rfl,_,hG,hS⟩ ?_
  clear hS hG;rintro i ρ w2 ⟨hi,h2,h5,h6,h7,h16,h17,h18,LO,hG,hS⟩;have htl:=ao n λk=>aj (oN (mK W q) i k);refine V1 ?_;by_cases hlt:i<n
  ·refine V1 ?_;have hg:(aS n λk=>aj (q k)).getD i bM=aj (q i):=aV _ _ hlt;have hqi:=hq i hlt;have hs1:=hs i hi;have hs2:=hs (i+1) hlt;have hpq:=B4 (q i);have hsb:=mw (fP q (i+1)) (pQ W);have hov:L (oP W q i)<=2*K+4:=by
    cases i with
    |zero=>show L 0<=_;rw[fM];omega
    |succ i=>
     have h1:=B4 (fP q (i+1)-pQ W);have h2:=mw (fP q (i+1)) (pQ W);show L (pQ _)<=_;omega
   have hov2:L (oP W q (i+1))<=2*K+4:=by
    have h1:=B4 (fP q (i+1)-pQ W);show L (pQ _)<=_;omega
   have hadd:=λw=>fW (aj (fP q i)) (aj (pQ (q i))) w (by rw[Lr_ofQ,Lr_ofQ];omega);rw[toQ_ofQ,toQ_ofQ]at hadd;have hsub:=λw=>dH (aj (fP q (i+1))) (aj (pQ W)) w (by rw[Lr_ofQ,Lr_ofQ];omega);rw[toQ_ofQ,toQ_ofQ]at hsub;have hsub2:=λw=>dH (aj (oP W q (i+1))) (aj (oP W q i)) w (by rw[Lr_ofQ,Lr_ofQ];omega);rw[toQ_ofQ,toQ_ofQ]at hsub2;refine J1 ?_;refine jp (aH (i:=i) h16 h18 (ha.ab hS.ab) oO dO bJ (jq (aO (i:=i) bM rfl aB (ha.ab hS.ab) dO rfl rfl (.inl rfl) ?_)));refine J1 ?_;intro b9 wz7 hS hBz7;refine J2 ?_;intro wz8 hS;refine ja ?_;rw[hg]at hS;replace hS:St w _ ([(b9,32,ae (aj (q i))),(b7,32,ae (aj (oP W q i))),(b6,32,ae (aj (fP q i))),(b2,32,ae (aj W))]++LO):=hS;refine ja ?_;refine bk [ju 0,ju 1,jv 2,jv 3,jw 4] kR kR hS ?_;intro wz9 hS hBz9;refine J2 ?_;refine jn rfl (ah Tryz.call91 rfl (fZ (q i) _ oO) ?_);rintro _ wc10 ⟨rfl,hBc10⟩;replace hS:=hS.aG hBc10;refine⟨hBc10,?_⟩;refine jn rfl (ah Tryz.call18 rfl (hadd _) ?_);rintro _ wc11 ⟨rfl,hBc11⟩;replace hS:=hS.aG hBc11;refine⟨hBc11,?_⟩;refine J1 ?_;intro wz12 hS;refine ja ?_;replace hS:St w _ ([(b9,32,ae (aj (q i))),(b7,32,ae (aj (oP W q i))),(b6,32,ae (aj (fP q (i+1)))),(b2,32,ae (aj W))]++LO):=hS;refine aW (λρ w'=>ρ 2=pB b2/\ρ 5= .slice (some ⟨b13,0,none⟩) n n/\ρ 6=pB b6/\ρ 7=pB b7/\ρ 16=va/\ρ 17=iB n/\ρ 18=iB i/\ρ 8=iB i/\∃b10,ρ 10=pB b10/\St w w' ([(b10,32,ae (aj (oP W q (i+1)))),(b9,32,ae (aj (q i))),(b7,32,ae (aj (oP W q i))),(b6,32,ae (aj (fP q (i+1)))),(b2,32,ae (aj W))]++LO)) ?_ ?_
   ·refine ja ?_;refine pT 5 [ju 0,ju 1,jv 2,jv 3,jv 4,jw 6] kR kR hS ?_;intro wz13 hS hBz13;refine jE kR rfl rfl (bT (k:=2) h6 aB hS rfl rfl rfl (.inl rfl) (jE kR rfl rfl (bT (k:=3) h2 aB hS rfl rfl rfl (.inl rfl) ?_)));refine lY rfl rfl ?_ ?_
    ·refine J1 ?_;intro b10 wz14 hS hBz14;refine⟨hBz14,?_⟩;refine jn rfl (ah Tryz.call91 rfl (fZ W _ oO) ?_);rintro ra w3 ⟨rfl,hB3⟩;refine⟨hB3,?_⟩;replace hS:=hS.aG hB3;refine jn rfl (ah Tryz.call16 rfl (hsub _) ?_);rintro rb w4 ⟨rfl,hB4⟩;refine⟨hB4,?_⟩;replace hS:=hS.aG hB4;refine jn rfl (ah Tryz.call91 rfl (fZ _ _ oO) ?_);rintro rc w5 ⟨rfl,hB5⟩;refine⟨hB5,?_⟩;replace hS:=hS.aG hB5;refine J1 ?_;intro wz15 hS;refine ja ?_;replace hS:St w _ ([(b10,32,ae (aj (oP W q (i+1)))),(b9,32,ae (aj (q i))),(b7,32,ae (aj (oP W q i))),(b6,32,ae (aj (fP q (i+1)))),(b2,32,ae (aj W))]++LO):=hS;exact⟨_,rfl,jY,jY,jY,jY,jY,jY,jY,rfl,b10,rfl,hS⟩
    ·refine ah Tryz.call91 rfl (fZ W _ oO) ?_;rintro ra w3 ⟨rfl,hB3⟩;refine⟨hB3,?_⟩;replace hS:=hS.aG hB3;refine lY rfl rfl ?_ ?_
     ·refine J1 ?_;intro b10 wz16 hS hBz16;refine⟨hBz16,?_⟩;refine jn rfl (ah Tryz.call16 rfl (hsub _) ?_);rintro rb w4 ⟨rfl,hB4⟩;refine⟨hB4,?_⟩;replace hS:=hS.aG hB4;refine jn rfl (ah Tryz.call91 rfl (fZ _ _ oO) ?_);rintro rc w5 ⟨rfl,hB5⟩;refine⟨hB5,?_⟩;replace hS:=hS.aG hB5;refine J1 ?_;intro wz17 hS;refine ja ?_;replace hS:St w _ ([(b10,32,ae (aj (oP W q (i+1)))),(b9,32,ae (aj (q i))),(b7,32,ae (aj (oP W q i))),(b6,32,ae (aj (fP q (i+1)))),(b2,32,ae (aj W))]++LO):=hS;exact⟨_,rfl,jY,jY,jY,jY,jY,jY,jY,rfl,b10,rfl,hS⟩
     ·refine ah Tryz.call16 rfl (hsub _) ?_;rintro rb w4 ⟨rfl,hB4⟩;refine⟨hB4,?_⟩;replace hS:=hS.aG hB4;refine lY rfl rfl ?_ ?_
      ·refine J1 ?_;intro b10 wz18 hS hBz18;refine⟨hBz18,?_⟩;refine jn rfl (ah Tryz.call91 rfl (fZ _ _ oO) ?_);rintro rc w5 ⟨rfl,hB5⟩;refine⟨hB5,?_⟩;replace hS:=hS.aG hB5;refine J1 ?_;intro wz19 hS;refine ja ?_;replace hS:St w _ ([(b10,32,ae (aj (oP W q (i+1)))),(b9,32,ae (aj (q i))),(b7,32,ae (aj (oP W q i))),(b6,32,ae (aj (fP q (i+1)))),(b2,32,ae (aj W))]++LO):=hS;exact⟨_,rfl,jY,jY,jY,jY,jY,jY,jY,rfl,b10,rfl,hS⟩
      ·refine ah Tryz.call91 rfl (fZ _ _ oO) ?_;rintro rc w5 ⟨rfl,hB5⟩;refine⟨hB5,?_⟩;replace hS:=hS.aG hB5;refine tz kR ?_;refine J1 ?_;intro b10 wz20 hS hBz20;refine⟨hBz20,?_⟩;refine J1 ?_;intro wz21 hS;refine ja ?_;replace hS:St w _ ([(b10,32,ae (aj (oP W q (i+1)))),(b9,32,ae (aj (q i))),(b7,32,ae (aj (oP W q i))),(b6,32,ae (aj (fP q (i+1)))),(b2,32,ae (aj W))]++LO):=hS;exact⟨_,rfl,jY,jY,jY,jY,jY,jY,jY,rfl,b10,rfl,hS⟩
   clear hS h2 h5 h6 h7 h16 h17 h18;rintro ρ w6 ⟨h2,h5,h6,h7,h16,h17,h18,h8,b10,h10,hS⟩;refine J4 ?_;refine jh (ah Tryz.call16 rfl (hsub2 _) ?_);rintro _ wc22 ⟨rfl,hBc22⟩;replace hS:=hS.aG hBc22;refine jp (aH (i:=i) rfl rfl (hG.sl hS aK) oO dO bJ (jh (mD (i:=i) (aj (mK W q i)) aK rfl rfl aB hG hS oO rfl rfl ?_)));intro wz23 hS;refine ja ?_;obtain⟨LC2,hG,hS⟩:=hS;rw[om]at hG;refine J2 ?_;intro wz24 hS;refine V2 ?_;exact⟨i+1,_,rfl,⟨hlt,jY,jY,jY,jY,jY,jY,vi rfl oO,_,hG,hS.drop ((List.sublist_cons_self _ _).trans (List.sublist_cons_self _ _))⟩,oO⟩
  ·refine J1 ?_;refine jt ?_;obtain rfl:n=i:=oO;rw[oc]at hG;exact⟨_,rfl,LO,h5,hG,hS.drop (List.sublist_append_right _ _)⟩
 clear hS hG;rintro ρ w2 ⟨LO,h5,hG,hS⟩;refine J2 ?_;refine jt ?_;refine bj rfl rfl ?_;exact⟨LO,hG,hS⟩
def qi (W:Rat) (q s:Nat->Rat):Nat->Rat
 |0=>0
 |k+1=>if pQ W<=fP q (k+1)then fP s (k+1)else 0
def x6 (W:Rat) (q s:Nat->Rat) (k:Nat):Rat:=qi W q s (k+1)-qi W q s k
theorem IX (va vb:Value) (n:Nat) (W:Rat) (q s:Nat->Rat) (K:Nat) (w:World) (ha:Sl ae 3 w va (aS n λk=>aj (q k))) (hb:Sl ae 3 w vb (aS n λk=>aj (s k))) (hn:n<=1000) (hW:L W<=K) (hq:∀k,k<n->L (q k)<=K/\L (s k)<=K) (hs:∀k,k<=n->L (fP q k)<=K/\L (fP s k)<=K) (hK:8*K+20<=MX):
  dj Tryz.prog 95 #[cw (aj W),va,vb] w λr w'=>∃LO,Gl ae 32 3 r (aS n λk=>aj (x6 W q s k)) LO/\St w w' LO:=by
 have hS:=St.init w;have hla:=ao n λk=>aj (q k);have hlb:=ao n λk=>aj (s k);have hz:ae bM=ae (aj (qi W q s 0)):=by rw[cB];rfl
 have hpW:=B4 W;refine enter Tryz.func95 rfl Tryz.ntmps95 rfl ?_;refine jr ?_;refine jh (bY (new:=ae (aj W)) rfl rfl hS ?_);intro b3 wz1 hS hBz1;refine J2 ?_;refine jp (aF rfl (ha.ab hS.ab) ⟨_,Tryz.underlying34⟩ (jh (de (enc:=ae) (n:=n) bM rfl rfl bJ rfl oO oO oO oO hS ?_)));intro b16 wz2 hS hBz2;refine Y1 ?_;refine jp (bR rfl ix (jp (bR rfl ix (jp (bR rfl ix ?_)))));refine J1 ?_;intro b8 wz3 hS hBz3;refine J1 ?_;intro b9 wz4 hS hBz4;refine J1 ?_;intro b10 wz5 hS hBz5;refine J1 ?_;intro wz6 hS;refine J1 ?_;intro wz7 hS;refine J1 ?_;intro wz8 hS;refine ja ?_;replace hS:St w _ ((b10,32,ae bM)::(b9,32,ae bM)::(b8,32,ae bM)::(b16,32,(List.replicate n bM).flatMap ae)::[(b3,32,ae (aj W))]):=hS;rw[hz,cG]at hS;replace hS:St w _ ([(b10,32,ae (aj (qi W q s 0))),(b9,32,ae (aj (fP s 0))),(b8,32,ae (aj (fP q 0))),(b3,32,ae (aj W))]++[(b16,32,(aS n λk=>aj (rH.c k)).flatMap ae)]):=hS.perm (List.Perm.cons _ (List.Perm.cons _ (List.Perm.cons _ (List.Perm.swap _ _ _))));have hG:Gl ae 32 3 (.slice (some ⟨b16,0,none⟩) n n) (aS n λk=>aj (oN (x6 W q s) 0 k)) [(b16,32,(aS n λk=>aj (oN (x6 W q s) 0 k)).flatMap ae)]:=iE (ao _ _) oO;refine J1 ?_;refine jp (aF rfl (ha.ab hS.ab) ⟨_,Tryz.underlying34⟩ ?_);refine J1 ?_;refine jb ?_;rw[hla];refine aW (λρ w'=>∃LO,ρ 7= .slice (some ⟨b16,0,none⟩) n n/\Gl ae 32 3 (.slice (some ⟨b16,0,none⟩) n n) (aS n λk=>aj (x6 W q s k)) LO/\St w w' LO) ?_ ?_
 ·refine ja ?_;refine aQ (σ:=Nat) (λi ρ w'=>i<=n/\ρ 2=vb/\ρ 3=pB b3/\ρ 7= .slice (some ⟨b16,0,none⟩) n n/\ρ 8=pB b8/\ρ 9=pB b9/\ρ 10=pB b10/\ρ 20=va/\ρ 21=iB n/\ρ 22=iB i/\∃LO,Gl ae 32 3 (.slice (some ⟨b16,0,none⟩) n n) (aS n λk=>aj (oN (x6 W q s) i k)) LO/\
    St w w' ([(b10,32,ae (aj (qi W q s i))),(b9,32,ae (aj (fP s i))),(b8,32,ae (aj (fP q i))),(b3,32,ae (aj W))]++LO)) (λi=>n-i) 0
   ⟨Nat.zero_le _,rfl,rfl,rfl,rfl,rfl,rfl,rfl,rfl,rfl,_,hG,hS⟩ ?_
  clear hS hG;rintro i ρ w2 ⟨hi,h2,h3,h7,h8,h9,h10,h20,h21,h22,LO,hG,hS⟩;have htl:=ao n λk=>aj (oN (x6 W q s) i k);refine V1 ?_;by_cases hlt:i<n
  ·refine V1 ?_;have hg:(aS n λk=>aj (q k)).getD i bM=aj (q i):=aV _ _ hlt;have hg2:(aS n λk=>aj (s k)).getD i bM=aj (s i):=aV _ _ hlt;obtain⟨hqi,hsi⟩:=hq i hlt;obtain⟨hs1,hs1'⟩:=hs i hi;obtain⟨hs2,hs2'⟩:=hs (i+1) hlt;have hpq:=B4 (q i);have hps:=B4 (s i);have h0:=fM;have hov:L (qi W q s i)<=K+1:=by
    cases i with
    |zero=>show L 0<=_;omega
    |succ i=>
     show L (if _ then _ else _)<=_;split<;>omega
   have hov2:L (qi W q s (i+1))<=K+1:=by
    show L (if _ then _ else _)<=_;split<;>omega
   have hadd:=λw=>fW (aj (fP q i)) (aj (pQ (q i))) w (by rw[Lr_ofQ,Lr_ofQ];omega);rw[toQ_ofQ,toQ_ofQ]at hadd;have hadd2:=λw=>fW (aj (fP s i)) (aj (pQ (s i))) w (by rw[Lr_ofQ,Lr_ofQ];omega);rw[toQ_ofQ,toQ_ofQ]at hadd2;have hsub2:=λw=>dH (aj (qi W q s (i+1))) (aj (qi W q s i)) w (by rw[Lr_ofQ,Lr_ofQ];omega);rw[toQ_ofQ,toQ_ofQ]at hsub2;refine J1 ?_;refine jp (aH (i:=i) h20 h22 (ha.ab hS.ab) oO dO bJ (jq (aO (i:=i) bM rfl aB (ha.ab hS.ab) dO rfl rfl (.inl rfl) ?_)));refine J1 ?_;intro b12 wz9 hS hBz9;refine J2 ?_;intro wz10 hS;refine ja ?_;rw[hg]at hS;replace hS:St w _ ([(b12,32,ae (aj (q i))),(b10,32,ae (aj (qi W q s i))),(b9,32,ae (aj (fP s i))),(b8,32,ae (aj (fP q i))),(b3,32,ae (aj W))]++LO):=hS;refine ja ?_;refine bk [ju 0,ju 1,jv 2,jv 3,jw 4] kR kR hS ?_;intro wz11 hS hBz11;refine J2 ?_;refine jn rfl (ah Tryz.call91 rfl (fZ (q i) _ oO) ?_);rintro _ wc12 ⟨rfl,hBc12⟩;replace hS:=hS.aG hBc12;refine⟨hBc12,?_⟩;refine jn rfl (ah Tryz.call18 rfl (hadd _) ?_);rintro _ wc13 ⟨rfl,hBc13⟩;replace hS:=hS.aG hBc13;refine⟨hBc13,?_⟩;refine J1 ?_;intro wz14 hS;refine J2 ?_;refine jp (aF rfl (hb.ab hS.ab) ⟨_,Tryz.underlying34⟩ ?_);refine V2 ?_;refine bk [ju 0,jo 1,jo 2,jo 3,ju 4,jv 5,jv 6,jw 7] kR kR hS ?_;intro wz15 hS hBz15;refine J3 ?_;refine jl rfl (aH (i:=i) rfl rfl (hb.ab hS.ab) oO dO bJ (jm rfl (aO (i:=i) bM rfl aB (hb.ab hS.ab) dO rfl rfl (.inl rfl) ?_)));rw[hg2];refine jn rfl (ah Tryz.call91 rfl (fZ (s i) _ oO) ?_);rintro _ wc16 ⟨rfl,hBc16⟩;replace hS:=hS.aG hBc16;refine⟨hBc16,?_⟩;refine jn rfl (ah Tryz.call18 rfl (hadd2 _) ?_);rintro _ wc17 ⟨rfl,hBc17⟩;replace hS:=hS.aG hBc17;refine⟨hBc17,?_⟩;refine J1 ?_;intro wz18 hS;refine jr ?_;refine jp (bR rfl ix ?_);refine J1 ?_;intro b13 wz19 hS hBz19;refine J1 ?_;intro wz20 hS;refine ja ?_;replace hS:St w _ ([(b13,32,ae bM),(b12,32,ae (aj (q i))),(b10,32,ae (aj (qi W q s i))),(b9,32,ae (aj (fP s (i+1)))),(b8,32,ae (aj (fP q (i+1)))),(b3,32,ae (aj W))]++LO):=hS;refine ja ?_;refine bk [ju 0,ju 1,jv 2,jv 3,jo 4] kR kR hS ?_;intro wz21 hS hBz21;refine J2 ?_;refine jn rfl (ah Tryz.call91 rfl (fZ W _ oO) ?_);rintro _ wc22 ⟨rfl,hBc22⟩;replace hS:=hS.aG hBc22;refine⟨hBc22,?_⟩;refine jn rfl (ah Tryz.call50 rfl (g8 (aj (fP q (i+1))) (aj (pQ W)) _ (by rw[Lr_ofQ,Lr_ofQ];omega)) ?_);rintro _ wc23 ⟨rfl,hBc23⟩;replace hS:=hS.aG hBc23;refine⟨hBc23,?_⟩;refine V1 ?_;rw[toQ_ofQ,toQ_ofQ];refine aW (λρ w'=>ρ 2=vb/\ρ 3=pB b3/\ρ 7= .slice (some ⟨b16,0,none⟩) n n/\ρ 8=pB b8/\ρ 9=pB b9/\ρ 10=pB b10/\ρ 20=va/\ρ 21=iB n/\ρ 22=iB i/\ρ 11=iB i/\ρ 13=pB b13/\St w w' ([(b13,32,ae (aj (qi W q s (i+1)))),(b12,32,ae (aj (q i))),(b10,32,ae (aj (qi W q s i))),(b9,32,ae (aj (fP s (i+1)))),(b8,32,ae (aj (fP q (i+1)))),(b3,32,ae (aj W))]++LO)) ?_ ?_
   ·refine ja ?_;by_cases hge:pQ W<=fP q (i+1)
    ·refine bZ rfl ((zC _ _).trans (decide_eq_true hge)) ?_;refine J2 ?_;intro wz24 hS;refine ja ?_;have e:qi W q s (i+1)=fP s (i+1):=if_pos hge;rw[e];exact⟨_,rfl,jY,jY,jY,jY,jY,jY,jY,jY,jY,rfl,rfl,hS⟩
    ·refine ct rfl ((zC _ _).trans (decide_eq_false hge)) ?_;refine ja ?_;have e:qi W q s (i+1)=0:=if_neg hge;rw[e,<-cB];exact⟨_,rfl,jY,jY,jY,jY,jY,jY,jY,jY,jY,rfl,rfl,hS⟩
   clear hS h2 h3 h7 h8 h9 h10 h20 h21 h22;rintro ρ w6 ⟨h2,h3,h7,h8,h9,h10,h20,h21,h22,h11,h13,hS⟩;refine J4 ?_;refine jh (ah Tryz.call16 rfl (hsub2 _) ?_);rintro _ wc25 ⟨rfl,hBc25⟩;replace hS:=hS.aG hBc25;refine jp (aH (i:=i) rfl rfl (hG.sl hS aK) oO dO bJ (jh (mD (i:=i) (aj (x6 W q s i)) aK rfl rfl aB hG hS oO rfl rfl ?_)));intro wz26 hS;refine ja ?_;obtain⟨LC2,hG,hS⟩:=hS;rw[om]at hG;refine J2 ?_;intro wz27 hS;refine V2 ?_;exact⟨i+1,_,rfl,⟨hlt,jY,jY,jY,jY,jY,jY,jY,jY,vi rfl oO,_,hG,hS.drop ((List.sublist_cons_self _ _).trans (List.sublist_cons_self _ _))⟩,oO⟩
  ·refine J1 ?_;refine jt ?_;obtain rfl:n=i:=oO;rw[oc]at hG;exact⟨_,rfl,LO,h7,hG,hS.drop (List.sublist_append_right _ _)⟩
 clear hS hG;rintro ρ w2 ⟨LO,h7,hG,hS⟩;refine J2 ?_;refine jt ?_;refine bj rfl rfl ?_;exact⟨LO,hG,hS⟩
structure iH where
 h:Int
 rk:Int
 q:Rat
structure Jr where
 cash:Rat
 cl:List iH
structure lK where
 W:Rat
 legs:List (Nat×Nat)
def fO:iH:=⟨0,0,0⟩
def OD:Jr:=⟨0,[]⟩
def mP:lK:=⟨0,[]⟩
def Hs:Rat×Value:=(0,undef)
def iu:Rat×Value×Value:=(0,undef,undef)
def dg (c:iH):List Value:= .int .i64 c.h:: .int .i64 c.rk::ae (aj c.q)
def fA (p:Nat×Nat):List Value:=[.int .i64 p.1,.int .i64 p.2]
def bl (e:Rat×Value×Value):List Value:=ae (aj e.1)++[e.2.1,e.2.2]
def df (d:Rat×Value):List Value:=ae (aj d.1)++[d.2]
theorem gz (c:iH):(dg c).length=5:=rfl
theorem i4 (c:Nat×Nat):(fA c).length=2:=rfl
theorem fu (c:Rat×Value×Value):(bl c).length=5:=rfl
theorem iX (c:Rat×Value):(df c).length=4:=rfl
structure fp where
 es:List Jr
 ds:List lK
def fp.e (g:fp) (i:Nat):Jr:=g.es.getD i OD
def fp.d (g:fp) (k:Nat):lK:=g.ds.getD k mP
def fp.c (g:fp) (i c:Nat):iH:=(g.e i).cl.getD c fO
def fp.n (g:fp):Nat:=g.es.length
def fp.cn (g:fp) (i:Nat):Nat:=(g.e i).cl.length
def fp.lg (g:fp) (k j:Nat):Nat×Nat:=(g.d k).legs.getD j (0,0)
structure DU (w:World) (vE vD:Value) (g:fp) (ev:List (Value×Value)) (dv:List Value):Prop where
 es:Sl bl 5 w vE (aS g.n λi=>((g.e i).cash,ev.getD i mq))
 ds:Sl df 4 w vD (aS g.ds.length λk=>((g.d k).W,dv.getD k undef))
 cl:∀i,i<g.n->Sl dg 5 w (ev.getD i mq).1 (g.e i).cl
 lg:∀k,k<g.ds.length->Sl fA 2 w (dv.getD k undef) (g.d k).legs
 ag:∀i,i<g.n->∃a l c,(ev.getD i mq).2= .slice a l c
theorem DU.ab {w w':World} {vE vD:Value} {g:fp} {ev:List (Value×Value)} {dv:List Value} (h:DU w vE vD g ev dv) (hb:Below w.heap.size w w'):DU w' vE vD g ev dv:=⟨h.es.ab hb,h.ds.ab hb,λi hi=>(h.cl i hi).ab hb,λi hi=>(h.lg i hi).ab hb,h.ag⟩
structure LV where
 vR:Value
 vP:Value
 vs:List Value
 pv:List (Value×Value)
 lv:List (List Value)
def B5:LV:=⟨undef,undef,[],[],[]⟩
def RF:Ly:=⟨0,[],[],0⟩
def zn (p:Ly×LV):List Value:=iA p.1.n p.2.vR p.2.vP p.1.tot
theorem y3 (c:Ly×LV):(zn c).length=6:=rfl
structure yL (w:World) (bs:Nat) (vE vD vL vI:Value) (g:fp) (Y:Nat->Ly) (B:Nat->Nat->Bool) (ev:List (Value×Value)) (dv:List Value) (V:Nat->LV) (iv:List Value):Prop where
 at0:At w ⟨bs,0,none⟩ [vE,vD,vL,vI]
 gr:DU w vE vD g ev dv
 la:Sl zn 6 w vL (aS g.n λi=>(Y i,V i))
 lm:∀i,i<g.n->HF w (V i).vR (V i).vP (Y i) (V i).vs (V i).pv (V i).lv
 yn:∀i,i<g.n->(Y i).n=g.cn i
 il:iv.length=g.n
 ii:Sl lj 1 w vI iv
 ir:∀i,i<g.n->Sl fy 1 w (iv.getD i undef) (aS (g.cn i) (B i))
theorem yL.ab {w w':World} {bs:Nat} {vE vD vL vI:Value} {g:fp} {Y:Nat->Ly} {B:Nat->Nat->Bool} {ev:List (Value×Value)} {dv:List Value} {V:Nat->LV} {iv:List Value} (h:yL w bs vE vD vL vI g Y B ev dv V iv) (hb:Below w.heap.size w w'):yL w' bs vE vD vL vI g Y B ev dv V iv:=
 ⟨h.at0.ab hb,h.gr.ab hb,h.la.ab hb,λi hi=>(h.lm i hi).ab hb,h.yn,h.il,h.ii.ab hb,λi hi=>(h.ir i hi).ab hb⟩
def mH (n:Nat) (cn:Nat->Nat) (f:Nat->Nat->Rat):List (List RR):=aS n λi=>aS (cn i) λc=>aj (f i c)
theorem fV (n:Nat) (cn:Nat->Nat) (f:Nat->Nat->Rat):(mH n cn f).length=n:=ao _ _
theorem pO {n:Nat} (cn:Nat->Nat) (f:Nat->Nat->Rat) {i:Nat} (hi:i<n):(mH n cn f).getD i []=aS (cn i) λc=>aj (f i c):=aV _ _ hi
def nj (g:fp):Prop:=∀k,k<g.ds.length->∀j,j<(g.d k).legs.length->(g.lg k j).1<g.n/\(g.lg k j).2<g.cn (g.lg k j).1
def KJ (W:Rat) (v:Value):Value:= .agg #[.bool (aj W).neg,.string (aj W).num,.string (aj W).den,v]
theorem z6 (vl v:Value) (vs:List Value) (W:Rat) (l:List (Nat×Nat)) (n:Nat) (cn:Nat->Nat) (f:Nat->Nat->Rat) (w:World) (hl:Sl fA 2 w vl l) (hA:kj ae 3 w v (mH n cn f) vs) (hok:∀j,j<l.length->(l.getD j (0,0)).1<n/\(l.getD j (0,0)).2<cn (l.getD j (0,0)).1) (hn:l.length<=1000):
  dj Tryz.prog 54 #[KJ W vl,v] w λr w'=>∃LO,Gl ae 32 3 r (aS l.length λj=>aj (f (l.getD j (0,0)).1 (l.getD j (0,0)).2)) LO/\St w w' LO:=by
 have hS:=St.init w;have hmx:=hl.maxLen;have hmx2:=hA.sl.maxLen;have hlen:=hA.len;rw[fV]at hlen;obtain⟨m,hm⟩:=jz l.length;obtain⟨F,hF⟩:∃F:Nat->Rat,F=λj=>f (l.getD j (0,0)).1 (l.getD j (0,0)).2:=⟨_,rfl⟩;rw[<-hm]at hok hn⊢;have hFe:(aS m λj=>aj (f (l.getD j (0,0)).1 (l.getD j (0,0)).2))=aS m λj=>aj (F j):=by rw[hF]
 rw[hFe];obtain⟨al,cl,hvl,_⟩:=hl.form;subst hvl;refine enter Tryz.func54 rfl Tryz.ntmps54 rfl ?_;refine jr ?_;refine jh (bY (new:=df (W,.slice al l.length cl)) rfl rfl hS ?_);intro b2 wz1 hS hBz1;refine J3 ?_;refine jp (aF rfl (hl.ab hS.ab) ⟨_,Tryz.underlying62⟩ (jh (de (enc:=ae) (n:=m) bM rfl rfl bJ rfl oO oO oO oO hS ?_)));intro b11 wz2 hS hBz2;refine V1 ?_;replace hS:St w _ ((b11,32,(List.replicate m bM).flatMap ae)::[(b2,64,df (W,.slice al l.length cl))]):=hS;rw[cG]at hS;replace hS:St w _ ([(b2,64,df (W,.slice al l.length cl))]++[(b11,32,(aS m λk=>aj (rH.c k)).flatMap ae)]):=hS.perm (List.Perm.swap _ _ _);have hG:Gl ae 32 3 (.slice (some ⟨b11,0,none⟩) m m) (aS m λk=>aj (oN F 0 k)) [(b11,32,(aS m λk=>aj (oN F 0 k)).flatMap ae)]:=iE (ao _ _) oO;refine J2 ?_;refine jp (aF rfl (hl.ab hS.ab) ⟨_,Tryz.underlying62⟩ ?_);refine J1 ?_;refine jb ?_;rw[<-hm];refine aW (λρ w'=>∃LO,ρ 5= .slice (some ⟨b11,0,none⟩) m m/\Gl ae 32 3 (.slice (some ⟨b11,0,none⟩) m m) (aS m λj=>aj (F j)) LO/\St w w' LO) ?_ ?_
 ·refine ja ?_;refine aQ (σ:=Nat) (λi ρ w'=>i<=m/\ρ 1=v/\ρ 5= .slice (some ⟨b11,0,none⟩) m m/\ρ 13= .slice al m cl/\ρ 14=iB m/\ρ 15=iB i/\∃LO,Gl ae 32 3 (.slice (some ⟨b11,0,none⟩) m m) (aS m λk=>aj (oN F i k)) LO/\St w w' ([]++LO)) (λi=>m-i) 0
   ⟨Nat.zero_le _,rfl,rfl,(by rw[hm];rfl),rfl,rfl,_,hG,hS.drop (List.sublist_append_right [_] _)⟩ ?_
  clear hS hG;rintro i ρ w2 ⟨hi,h1,h5,h13,h14,h15,LO,hG,hS⟩;rw[hm]at h13;have htl:=ao m λk=>aj (oN F i k);refine V1 ?_;by_cases hlt:i<m
  ·refine V1 ?_;obtain⟨p,hp⟩:=jz (l.getD i (0,0));obtain⟨h1n,h2n⟩:=hok i hlt;rw[<-hp]at h1n h2n;have hFi:F i=f p.1 p.2:=by rw[hF,hp]
   have hrow:=hA.row p.1 (by rw[fV];exact h1n);rw[pO cn f h1n]at hrow;have hrl:=ao (cn p.1) λc=>aj (f p.1 c);have hg:(aS (cn p.1) λc=>aj (f p.1 c)).getD p.2 bM=aj (F i):=by rw[hFi];exact aV _ _ h2n
   refine J1 ?_;refine jp (aH (i:=i) h13 h15 (hl.ab hS.ab) oO dO jf (jq (aO (i:=i) (0,0) rfl jj (hl.ab hS.ab) dO rfl rfl (.inl rfl) ?_)));refine J1 ?_;intro b7 wz3 hS hBz3;refine J2 ?_;intro wz4 hS;refine ja ?_;rw[<-hp]at hS;replace hS:St w _ ([(b7,66,fA p)]++LO):=hS;refine ja ?_;refine bk [jo 0,jo 1,jo 2,jo 3,ju 4,jo 5,ju 6,jo 7,ju 8,jo 9,ju 10,jo 11,jw 12] kR kR hS ?_;intro wz5 hS hBz5;refine J5 ?_;refine jl rfl (aH (i:=p.1) rfl rfl (hA.sl.ab hS.ab) oO dO cZ (jm rfl (aO (i:=p.1) undef rfl dh (hA.sl.ab hS.ab) dO rfl rfl (.inr rfl) ?_)));refine J2 ?_;refine jl rfl (aH (i:=p.2) rfl rfl (hrow.ab hS.ab) oO dO bJ (jm rfl (aO (i:=p.2) bM rfl aB (hrow.ab hS.ab) dO rfl rfl (.inl rfl) (jl rfl (aH (i:=i) rfl rfl (hG.sl hS aK) oO dO bJ (jx rfl (mD (i:=i) (aj (F i)) aK rfl rfl aB hG hS oO (by rw[hg];rfl) rfl ?_)))))));intro wz6 hS;refine ja ?_;obtain⟨LC2,hG,hS⟩:=hS;rw[om]at hG;refine V2 ?_;exact⟨i+1,_,rfl,⟨hlt,jY,jY,(by rw[hm];assumption),jY,vi rfl oO,_,hG,hS.drop (List.sublist_cons_self _ _)⟩,oO⟩
  ·refine J1 ?_;refine jt ?_;obtain rfl:m=i:=oO;rw[oc]at hG;exact⟨_,rfl,LO,h5,hG,hS⟩
 clear hS hG;rintro ρ w2 ⟨LO,h5,hG,hS⟩;refine J2 ?_;refine jt ?_;refine bj rfl rfl ?_;exact⟨LO,hG,hS⟩
section
variable {w : World} {bs : Nat} {vE vD vL vI : Value} {g : fp} {Y : Nat → Ly} {B : Nat → Nat → Bool} {ev : List (Value × Value)} {dv : List Value} {V : Nat → LV} {iv : List Value}
theorem yL.a0 (h:yL w bs vE vD vL vI g Y B ev dv V iv):At w ⟨bs,0,none⟩ [vE]:=λj u hj=>by
 match j,hj with
 |0,hj=>exact h.at0 0 u hj
theorem yL.a1 (h:yL w bs vE vD vL vI g Y B ev dv V iv):At w ⟨bs,1,none⟩ [vD]:=λj u hj=>by
 match j,hj with
 |0,hj=>exact h.at0 1 u hj
theorem yL.a2 (h:yL w bs vE vD vL vI g Y B ev dv V iv):At w ⟨bs,2,none⟩ [vL]:=λj u hj=>by
 match j,hj with
 |0,hj=>exact h.at0 2 u hj
theorem yL.a3 (h:yL w bs vE vD vL vI g Y B ev dv V iv):At w ⟨bs,3,none⟩ [vI]:=λj u hj=>by
 match j,hj with
 |0,hj=>exact h.at0 3 u hj
end
def CV (g:fp) (k:Nat):Int:=(g.c (g.lg k 0).1 (g.lg k 0).2).h
theorem Ga {bs:Nat} {vE vD vL vI:Value} {g:fp} {Y:Nat->Ly} {B:Nat->Nat->Bool} {ev:List (Value×Value)} {dv:List Value} {V:Nat->LV} {iv:List Value} (k:Nat) (w:World) (hS0:yL w bs vE vD vL vI g Y B ev dv V iv) (hk:k<g.ds.length) (h0:0<(g.d k).legs.length) (hl:nj g):
  dj Tryz.prog 96 #[.pointer (some ⟨bs,0,none⟩),KJ (g.d k).W (dv.getD k undef)] w λr w'=>r= .int .i64 (CV g k)/\Below w.heap.size w w':=by
 have hS:=St.init w;have hlg:=hS0.gr.lg k hk;obtain⟨h1,h2⟩:=hl k hk 0 h0;obtain⟨p,hp⟩:=jz (g.lg k 0);have hpl:(g.d k).legs.getD 0 (0,0)=p:=by rw[hp];rfl
 rw[<-hp]at h1 h2;have hcl:=hS0.gr.cl p.1 h1;have hel:(aS g.n λi=>((g.e i).cash,ev.getD i mq)).getD p.1 iu=((g.e p.1).cash,ev.getD p.1 mq):=aV _ _ h1;have htl:=ao g.n λi=>((g.e i).cash,ev.getD i mq);have hho:CV g k=((g.e p.1).cl.getD p.2 fO).h:=by rw[hp];rfl
 obtain⟨al,cl,hvl,_⟩:=hlg.form;rw[hvl]at hlg⊢;obtain⟨a1,c1,hv1,_⟩:=hcl.form;rw[hv1]at hcl;have hel1:((aS g.n λi=>((g.e i).cash,ev.getD i mq)).getD p.1 iu).2.1= .slice a1 (g.e p.1).cl.length c1:=by rw[hel];exact hv1
 rw[hho];have h2':p.2<(g.e p.1).cl.length:=h2;refine enter Tryz.func96 rfl Tryz.ntmps96 rfl ?_;refine jr ?_;refine jh (bY (new:=df ((g.d k).W,.slice al (g.d k).legs.length cl)) rfl rfl hS ?_);intro b3 wz1 hS hBz1;refine V1 ?_;refine bk [jo 0,jo 1,jo 2,jo 3,ju 4,jo 5,ju 6,jo 7,jo 8,ju 9,jo 10,jo 11,ju 12,jo 13,ju 14,jo 15,jo 16,ju 17,jo 18,jo 19,ju 20,jo 21] kR kR hS ?_;intro wz2 hS hBz2;refine J1 ?_;refine jl rfl (dX rfl ?_);refine J2 ?_;refine jm rfl (iQ (v:=vE) (cs:=[vE]) rfl jB (hS0.ab hS.ab).a0 rfl rfl (.inr rfl) ?_);refine J2 ?_;refine jl rfl (aH (i:=0) rfl rfl (hlg.ab hS.ab) oO dO jf ?_);refine jl rfl (fL rfl (dZ (hlg.ab hS.ab) (λ_=>rfl) dD dO) oz ?_);refine jm rfl (fJ (v:= .int .i64 p.1) (i:=0) (off:=0) (0,0) rfl eI (hlg.ab hS.ab) (λ_=>rfl) dD h0 rfl (by rw[hpl];rfl) (.inr rfl) ?_);refine jl rfl (aH (i:=p.1) rfl rfl (hS0.gr.es.ab hS.ab) oO dO iL ?_);refine jl rfl (fL rfl (dZ (hS0.gr.es.ab hS.ab) (λ_=>rfl) dD dO) gS ?_);refine jm rfl (fJ (v:= .slice a1 (g.e p.1).cl.length c1) (i:=p.1) (off:=3) iu rfl i6 (hS0.gr.es.ab hS.ab) (λ_=>rfl) dD oO rfl (by rw[<-hel1];rfl) (.inr rfl) ?_);refine J2 ?_;refine jl rfl (aH (i:=0) rfl rfl (hlg.ab hS.ab) oO dO jf ?_);refine jl rfl (fL rfl (dZ (hlg.ab hS.ab) (λ_=>rfl) dD dO) na ?_);refine jm rfl (fJ (v:= .int .i64 p.2) (i:=0) (off:=1) (0,0) rfl eI (hlg.ab hS.ab) (λ_=>rfl) dD h0 rfl (by rw[hpl];rfl) (.inr rfl) ?_);refine jl rfl (aH (i:=p.2) rfl rfl (hcl.ab hS.ab) oO dO kd ?_);refine jl rfl (fL rfl (dZ (hcl.ab hS.ab) (λ_=>rfl) dD dO) m9 ?_);refine jm rfl (fJ (i:=p.2) (off:=0) fO rfl eI (hcl.ab hS.ab) (λ_=>rfl) dD dO rfl rfl (.inr rfl) ?_);refine J1 ?_;refine jt ?_;refine bj rfl rfl ?_;exact⟨rfl,hS.ab⟩
structure RowsIn {α:Type} (enc:α->List Value) (T:TypeId) (sz:Nat) (vs:List Value) (X:List (List α)) (D:List bQ):Prop where
 len:vs.length=X.length
 g:∀i,i<X.length->∃L,L.Sublist D/\Gl enc T sz (vs.getD i undef) (X.getD i []) L
section
variable {α : Type} {enc : α → List Value} {T : TypeId} {sz : Nat} {vs : List Value} {X : List (List α)} {D D' L : List bQ} {v : Value} {x : List α}
theorem RowsIn.nil:RowsIn enc T sz [] ([]:List (List α)) []:=⟨rfl,λ_ h=>absurd h (Nat.not_lt_zero _)⟩
theorem RowsIn.mono (h:RowsIn enc T sz vs X D) (hs:D.Sublist D'):RowsIn enc T sz vs X D':=⟨h.len,λi hi=>by obtain⟨L,h1,h2⟩:=h.g i hi;exact⟨L,h1.trans hs,h2⟩⟩
theorem dP {β:Type} (l:List β) (b d:β) (i:Nat):(l++[b]).getD i d=if i<l.length then l.getD i d else if i=l.length then b else d:=by
 rw[List.getD_eq_getElem?_getD];by_cases h:i<l.length
 ·rw[if_pos h,List.getElem?_append_left h,List.getD_eq_getElem?_getD]
 ·rw[if_neg h,List.getElem?_append_right oO];by_cases e:i=l.length
  ·rw[if_pos e,e,Nat.sub_self];rfl
  ·rw[if_neg e,List.getElem?_eq_none (by simp;omega)];rfl
theorem RowsIn.snoc (h:RowsIn enc T sz vs X D) (hg:Gl enc T sz v x L):RowsIn enc T sz (vs++[v]) (X++[x]) (L++D):=by
 refine⟨by rw[List.length_append,List.length_append,h.len];rfl,λi hi=> ?_⟩;rw[dP,dP,h.len];rw[List.length_append,List.length_singleton]at hi;by_cases e:i<X.length
 ·rw[if_pos e,if_pos e];obtain⟨L2,h1,h2⟩:=h.g i e;exact⟨L2,h1.trans (List.sublist_append_right _ _),h2⟩
 ·rw[if_neg e,if_neg e,if_pos oO,if_pos oO];exact⟨L,List.sublist_append_left _ _,hg⟩
theorem RowsIn.row {w0 w:World} {P:List bQ} (h:RowsIn enc T sz vs X D) (hS:St w0 w (P++D)) (hu:∀x,(enc x).length=sz) {i:Nat} (hi:i<X.length):Sl enc sz w (vs.getD i undef) (X.getD i []):=by
 obtain⟨L,h1,h2⟩:=h.g i hi;exact h2.sl (H:=[]) (hS.drop (h1.trans (List.sublist_append_right _ _))) hu
theorem RowsIn.FV {w0 w:World} {P Q LO:List bQ} {TT:TypeId} (h:RowsIn enc T sz vs X D) (hG:Gl lj TT 1 v vs LO) (hS:St w0 w (P++D)) (hS2:St w0 w (Q++LO)) (hu:∀x,(enc x).length=sz):kj enc sz w v X vs:=
 ⟨h.len,hG.sl hS2 (λ_=>rfl),λ_ hi=>h.row hS hu hi⟩
end
def Ps:Ly×LV:=(RF,B5)
def cJ (Y:Nat->Ly) (x:Nat->Rat) (i c:Nat):Rat:=(kp (Y i) (x i) (Y i).pl.length).c c
def gq (Y:Nat->Ly) (x:Nat->Rat) (i c:Nat):Rat:=(kB (Y i) (x i) (Y i).pl.length).c c
theorem xO (n:Nat) (cn:Nat->Nat) (f:Nat->Nat->Rat):mH (n+1) cn f=mH n cn f++[aS (cn n) λc=>aj (f n c)]:=gU _ _
theorem yg (v:Value) (h:v.oneCell'=true):∀u∈[v],u.oneCell'=true:=λu hu=>by rw[List.mem_singleton.1 hu];exact h
theorem QL {α:Type} (A B C:List α):((A++B)++C).Perm ((A++C)++B):=by
 rw[List.append_assoc,List.append_assoc];exact List.Perm.append_left _ List.perm_append_comm
theorem HF.Im {w:World} {vR vP:Value} {y:Ly} {vs:List Value} {pv:List (Value×Value)} {lv:List (List Value)} (h:HF w vR vP y vs pv lv):∃aR nR cR aP nP cP,vR= .slice aR nR cR/\vP= .slice aP nP cP:=by
 obtain⟨aR,cR,h1,_⟩:=h.rk.sl.form;obtain⟨aP,cP,h2,_⟩:=h.pl.sl.form;exact⟨aR,_,cR,aP,_,cP,h1,h2⟩
theorem RA {α:Type} (A D L1 L2 Ld Ls:List α):(((((A++D)++L1)++L2)++Ld)++Ls).Perm (((A++(Ls++(Ld++D)))++L2)++L1):=by
 have e1:((((A++D)++L1)++L2)++Ld)++Ls=A++((D++(L1++L2))++(Ld++Ls)):=by simp only[List.append_assoc]
 have e2:((A++(Ls++(Ld++D)))++L2)++L1=A++((Ls++Ld)++(D++(L2++L1))):=by simp only[List.append_assoc]
 rw[e1,e2];refine List.Perm.append_left A (List.perm_append_comm.trans (List.Perm.append ?_ (List.Perm.append_left _ ?_)))<;>exact List.perm_append_comm
theorem Mf {bs:Nat} {vE vD vL vI:Value} {g:fp} {Y:Nat->Ly} {B:Nat->Nat->Bool} {ev:List (Value×Value)} {dv:List Value} {V:Nat->LV} {iv:List Value} (vx:Value) (x:Nat->Rat) (w:World) (hS0:yL w bs vE vD vL vI g Y B ev dv V iv) (hx:Sl ae 3 w vx (aS g.n λi=>aj (x i))) (hn:g.n<=1000) (hh:∀i,i<g.n->Ch (Y i) (x i)):
  dj Tryz.prog 55 #[.pointer (some ⟨bs,0,none⟩),vx] w λr w'=>∃v1 v2 u1 u2,r= .agg #[v1,v2]/\kj ae 3 w' v1 (mH g.n g.cn (cJ Y x)) u1/\kj ae 3 w' v2 (mH g.n g.cn (gq Y x)) u2/\Below w.heap.size w w':=by
 have hS:=St.init w;have hlx:=ao g.n λi=>aj (x i);have hly:=ao g.n λi=>(Y i,V i);obtain⟨n,hn'⟩:∃n,n=g.n:=⟨_,rfl⟩;refine enter Tryz.func55 rfl Tryz.ntmps55 rfl ?_;refine J1 ?_;intro b4 wz1 hS hBz1;refine J1 ?_;intro b5 wz2 hS hBz2;refine ja ?_;replace hS:St w _ [(b5,123,[aw,aw]),(b4,123,[aw,aw])]:=hS;refine J1 ?_;refine jp (dX rfl ?_);refine J1 ?_;refine jq (iQ (v:=vL) (cs:=[vL]) rfl jM (hS0.ab hS.ab).a2 rfl rfl (.inr rfl) (jp (aF rfl (hS0.la.ab hS.ab) ⟨_,Tryz.underlying104⟩ ?_)));refine J1 ?_;refine jb ?_;rw[hly];refine aW (λρ w'=>ρ 4=pB b4/\ρ 5=pB b5/\∃v1 v2 u1 u2 L1 L2 D,Gl lj 34 1 v1 u1 L1/\Gl lj 34 1 v2 u2 L2/\RowsIn ae 32 3 u1 (mH g.n g.cn (cJ Y x)) D/\RowsIn ae 32 3 u2 (mH g.n g.cn (gq Y x)) D/\St w w' ((([(b5,123,[v1,v2]),(b4,123,[aw,aw])]++D)++L1)++L2)) ?_ ?_
 ·refine ja ?_;refine aQ (σ:=Nat) (λi ρ w'=>i<=g.n/\ρ 0=pB bs/\ρ 1=vx/\ρ 4=pB b4/\ρ 5=pB b5/\ρ 15=vL/\ρ 16=iB g.n/\ρ 17=iB i/\∃v1 v2 u1 u2 L1 L2 D,Gl lj 34 1 v1 u1 L1/\Gl lj 34 1 v2 u2 L2/\RowsIn ae 32 3 u1 (mH i g.cn (cJ Y x)) D/\RowsIn ae 32 3 u2 (mH i g.cn (gq Y x)) D/\St w w' ((([(b5,123,[v1,v2]),(b4,123,[aw,aw])]++D)++L1)++L2)) (λi=>g.n-i) 0
   ⟨Nat.zero_le _,rfl,rfl,rfl,rfl,rfl,rfl,rfl,aw,aw,[],[],[],[],[],Gl.nil _ _ _,Gl.nil _ _ _,RowsIn.nil,RowsIn.nil,hS⟩ ?_
  clear hS;rintro i ρ w2 ⟨hi,h0,h1,h4,h5,h15,h16,h17,v1,v2,u1,u2,L1,L2,D,hG1,hG2,hR1,hR2,hS⟩;have hl1:=hR1.len;have hl2:=hR2.len;rw[fV]at hl1 hl2;refine V1 ?_;by_cases hlt:i<g.n
  ·refine V1 ?_;have hgy:(aS g.n λi=>(Y i,V i)).getD i Ps=(Y i,V i):=aV _ _ hlt;have hgx:(aS g.n λi=>aj (x i)).getD i bM=aj (x i):=aV _ _ hlt;have hyn:=hS0.yn i hlt;have hlm:=hS0.lm i hlt;obtain⟨y,hy⟩:=jz (Y i);obtain⟨q,hq⟩:=jz (V i);have hsl:=hh i hlt;obtain⟨aR,nR,cR,aP,nP,cP,hvR,hvP⟩:=hlm.Im;rw[<-hq]at hvR hvP;rw[<-hy]at hyn hsl;rw[<-hy,<-hq]at hgy hlm;rw[hvR,hvP]at hlm;refine J1 ?_;refine jp (aH (i:=i) h15 h17 (hS0.la.ab hS.ab) oO dO wD (jq (aO (v:=Hp y.n (.slice aR nR cR) (.slice aP nP cP) y.tot) (i:=i) Ps rfl gK (hS0.la.ab hS.ab) oO rfl (by rw[hgy,<-hvR,<-hvP];rfl) (.inl rfl) ?_)));refine J1 ?_;intro b7 wz3 hS hBz3;refine J2 ?_;intro wz4 hS;refine ja ?_;replace hS:St w _ ((b7,112,iA y.n (.slice aR nR cR) (.slice aP nP cP) y.tot)::((([(b5,123,[v1,v2]),(b4,123,[aw,aw])]++D)++L1)++L2)):=hS;refine aW (λρ w'=>ρ 0=pB bs/\ρ 1=vx/\ρ 4=pB b4/\ρ 5=pB b5/\ρ 7=pB b7/\ρ 6=iB i/\ρ 15=vL/\ρ 16=iB g.n/\ρ 17=iB i/\∃vd Ld,ρ 8=vd/\Gl ae 32 3 vd (aS y.n λk=>aj ((kp y (x i) y.pl.length).c k)) Ld/\St w w' (((b7,112,iA y.n (.slice aR nR cR) (.slice aP nP cP) y.tot)::((([(b5,123,[v1,v2]),(b4,123,[aw,aw])]++D)++L1)++L2))++Ld)) ?_ ?_
   ·refine ja ?_;refine pT 9 [ju 0,jo 1,jo 2,jo 3,ju 4,jv 5,jo 6,jo 7,jo 8,jo 10,jw 11] kR kR hS ?_;intro wz5 hS hBz5;refine jE kR rfl rfl (bT (k:=0) rfl gK hS rfl rfl rfl (.inl rfl) (dG kR rfl rfl (aI h1 (dG kR rfl rfl (aI rfl (dG kR rfl rfl (aH (i:=i) rfl rfl (hx.ab hS.ab) oO dO bJ (jE kR rfl rfl (aO (i:=i) bM rfl aB (hx.ab hS.ab) dO rfl rfl (.inl rfl) ?_)))))))));rw[hgx];refine lY rfl rfl ?_ ?_
    ·refine J1 ?_;intro b9 wz6 hS hBz6;refine⟨hBz6,?_⟩;refine jn rfl (ah Tryz.call48 rfl (qQ _ _ y _ _ _ (x i) _ (hlm.ab hS.ab) hsl.d) ?_);rintro rd w3 ⟨vd,Ld,rfl,hGd,hS3⟩;refine⟨hS3.ab,?_⟩;replace hS:=(hS.join hS3).perm List.perm_append_comm;refine J5 ?_;intro wz7 hS;refine ja ?_;exact⟨_,rfl,jY,jY,jY,jY,rfl,rfl,jY,jY,jY,vd,Ld,rfl,hGd,hS.drop (List.sublist_cons_self _ _)⟩
    ·refine ah Tryz.call48 rfl (qQ _ _ y _ _ _ (x i) _ (hlm.ab hS.ab) hsl.d) ?_;rintro rd w3 ⟨vd,Ld,rfl,hGd,hS3⟩;refine⟨hS3.ab,?_⟩;replace hS:=(hS.join hS3).perm List.perm_append_comm;refine dG kR rfl rfl (aI rfl (dG kR rfl rfl (oB rfl rfl (dG kR rfl rfl (oB rfl rfl (tz kR ?_))))));refine J1 ?_;intro b9 wz8 hS hBz8;refine⟨hBz8,?_⟩;refine J2 ?_;intro wz9 hS;refine ja ?_;exact⟨_,rfl,jY,jY,jY,jY,rfl,rfl,jY,jY,jY,vd,Ld,rfl,hGd,hS.drop (List.sublist_cons_self _ _)⟩
   clear hS h0 h1 h4 h5 h15 h16 h17;rintro ρ w4 ⟨h0,h1,h4,h5,h7,h6,h15,h16,h17,vd,Ld,h8,hGd,hS⟩;refine ja ?_;refine aW (λρ w'=>ρ 0=pB bs/\ρ 1=vx/\ρ 4=pB b4/\ρ 5=pB b5/\ρ 7=pB b7/\ρ 6=iB i/\ρ 15=vL/\ρ 16=iB g.n/\ρ 17=iB i/\ρ 8=vd/\∃vs_ Ls,ρ 10=vs_/\Gl ae 32 3 vs_ (aS y.n λk=>aj ((kB y (x i) y.pl.length).c k)) Ls/\St w w' ((((b7,112,iA y.n (.slice aR nR cR) (.slice aP nP cP) y.tot)::((([(b5,123,[v1,v2]),(b4,123,[aw,aw])]++D)++L1)++L2))++Ld)++Ls)) ?_ ?_
   ·refine ja ?_;refine pT 9 [ju 0,jo 1,jo 2,jo 3,ju 4,jv 5,jo 6,jo 7,jo 8,jo 10,jw 11] kR kR hS ?_;intro wz10 hS hBz10;refine jE kR rfl rfl (bT (k:=0) h7 gK hS rfl rfl rfl (.inl rfl) (dG kR rfl rfl (aI h1 (dG kR rfl rfl (aI h6 (dG kR rfl rfl (aH (i:=i) rfl rfl (hx.ab hS.ab) oO dO bJ (jE kR rfl rfl (aO (i:=i) bM rfl aB (hx.ab hS.ab) dO rfl rfl (.inl rfl) ?_)))))))));rw[hgx];refine lY rfl rfl ?_ ?_
    ·refine J1 ?_;intro b11 wz11 hS hBz11;refine⟨hBz11,?_⟩;refine jn rfl (ah Tryz.call92 rfl (tQ _ _ y _ _ _ (x i) _ (hlm.ab hS.ab) hsl) ?_);rintro rd w3 ⟨vs_,Ls,rfl,hGs,hS3⟩;refine⟨hS3.ab,?_⟩;replace hS:=(hS.join hS3).perm List.perm_append_comm;refine J5 ?_;intro wz12 hS;refine ja ?_;exact⟨_,rfl,jY,jY,jY,jY,jY,jY,jY,jY,jY,jY,vs_,Ls,rfl,hGs,hS.drop (List.sublist_cons_self _ _)⟩
    ·refine ah Tryz.call92 rfl (tQ _ _ y _ _ _ (x i) _ (hlm.ab hS.ab) hsl) ?_;rintro rd w3 ⟨vs_,Ls,rfl,hGs,hS3⟩;refine⟨hS3.ab,?_⟩;replace hS:=(hS.join hS3).perm List.perm_append_comm;refine dG kR rfl rfl (aI rfl (dG kR rfl rfl (oB rfl rfl (dG kR rfl rfl (oB rfl rfl (tz kR ?_))))));refine J1 ?_;intro b11 wz13 hS hBz13;refine⟨hBz13,?_⟩;refine J2 ?_;intro wz14 hS;refine ja ?_;exact⟨_,rfl,jY,jY,jY,jY,jY,jY,jY,jY,jY,jY,vs_,Ls,rfl,hGs,hS.drop (List.sublist_cons_self _ _)⟩
   clear hS h0 h1 h4 h5 h6 h7 h8 h15 h16 h17;rintro ρ w5 ⟨h0,h1,h4,h5,h7,h6,h15,h16,h17,h8,vs_,Ls,h10,hGs,hS⟩;rw[hyn]at hGd hGs;have e1:(aS (g.cn i) λk=>aj ((kp y (x i) y.pl.length).c k))=aS (g.cn i) λc=>aj (cJ Y x i c):=by unfold cJ;rw[<-hy]
   have e2:(aS (g.cn i) λk=>aj ((kB y (x i) y.pl.length).c k))=aS (g.cn i) λc=>aj (gq Y x i c):=by unfold gq;rw[<-hy]
   rw[e1]at hGd;rw[e2]at hGs;obtain⟨ad,cd,hvd⟩:=hGd.len;obtain⟨az,cz,hvz⟩:=hGs.len;rw[ao]at hvd hvz;subst hvd hvz;replace hS:St w w5 ((([(b5,123,[v1,v2]),(b4,123,[aw,aw])]++(Ls++(Ld++D)))++L2)++L1):=(hS.drop (List.Sublist.append (List.Sublist.append (List.sublist_cons_self _ _) (List.Sublist.refl _)) (List.Sublist.refl _))).perm (RA _ _ _ _ _ _);refine J3 ?_;refine jh (dI (vs:=[_]) rfl cZ rfl dD dD dD (by simp[Value.cells]) rfl hS ?_);intro b43 wz15 hS hBz15;refine jh (dK [_] rfl rfl cZ dD hG1 hS rfl rfl (λ_=>rfl) (yg _ rfl) dL dL ?_);intro va16 La16 wa16 hG1 hS hga16;refine J1 ?_;refine jh (gl (k:=0) rfl rfl gO hS rfl (by simp) (by obtain⟨a,c,h⟩:=hG1.len;rw[h];rfl) ?_);intro wz17 hS;refine ja ?_;obtain⟨v1',hv1'⟩:∃v,v=va16:=⟨_,rfl⟩;rw[<-hv1']at hG1;replace hS:St w _ (((([(b5,123,[va16,v2]),(b4,123,[aw,aw])]++(Ls++(Ld++D)))++L2))++La16):=hS;rw[<-hv1']at hS;have hS':=hS.perm (QL _ _ _);clear hS;have hS:=hS';clear hS';refine J3 ?_;refine jh (dI (vs:=[_]) rfl cZ rfl dD dD dD (by simp[Value.cells]) rfl hS ?_);intro b49 wz18 hS hBz18;refine jh (dK [_] rfl rfl cZ dD hG2 hS rfl rfl (λ_=>rfl) (yg _ rfl) dL dL ?_);intro va19 La19 wa19 hG2 hS hga19;refine J1 ?_;refine jh (gl (k:=0) rfl rfl gO hS rfl (by simp) (by obtain⟨a,c,h⟩:=hG2.len;rw[h];rfl) ?_);intro wz20 hS;refine V2 ?_;obtain⟨v2',hv2'⟩:∃v,v=va19:=⟨_,rfl⟩;rw[<-hv2']at hG2;replace hS:St w _ (((([(b5,123,[v1',va19]),(b4,123,[aw,aw])]++(Ls++(Ld++D)))++La16))++La19):=hS;rw[<-hv2']at hS;have hR1':=(hR1.snoc hGd).mono (List.sublist_append_right Ls _);have hR2':=(hR2.mono (List.sublist_append_right Ld D)).snoc hGs;rw[<-xO]at hR1' hR2';exact⟨i+1,_,rfl,⟨hlt,jY,jY,jY,jY,jY,jY,vi rfl oO,v1',v2',_,_,La16,La19,_,hG1,hG2,hR1',hR2',hS⟩,oO⟩
  ·refine J1 ?_;refine jt ?_;obtain rfl:g.n=i:=oO;exact⟨_,rfl,h4,h5,v1,v2,u1,u2,L1,L2,D,hG1,hG2,hR1,hR2,hS⟩
 clear hS;rintro ρ w2 ⟨h4,h5,v1,v2,u1,u2,L1,L2,D,hG1,hG2,hR1,hR2,hS⟩;obtain⟨a1,c1,hf1⟩:=hG1.len;obtain⟨a2,c2,hf2⟩:=hG2.len;subst hf1 hf2;refine J2 ?_;intro wz21 hS;refine ja ?_;replace hS:St w _ ((([(b5,123,[.slice a1 u1.length c1,.slice a2 u2.length c2]),(b4,123,[.slice a1 u1.length c1,.slice a2 u2.length c2])]++D)++L1)++L2):=hS;have hSa:=hS.drop (List.sublist_append_left _ L2);have hSb:=hSa.drop (List.sublist_append_left _ L1);refine jt ?_;refine dx (k:=1) rfl h4 mM hS rfl rfl ?_;exact⟨_,_,u1,u2,rfl,hR1.FV hG1 hSb hSa aK,hR2.FV hG2 hSb hS aK,hS.ab⟩
abbrev Do:Type:=Nat×Nat×Rat
def rP (T:List Do):Mx:=T.foldl (λM o=>j7 M o.1 o.2.1 o.2.2) (λ_ _=>0)
theorem wy (T:List Do) (o:Do):rP (T++[o])=j7 (rP T) o.1 o.2.1 o.2.2:=by unfold rP;rw[List.foldl_append];rfl
def JP (n:Nat) (T:List Do) (o:Do):Prop:=o.1<n/\o.2.1<n/\L (rP T o.1 o.2.1)+L o.2.2<=MX
def Ry (n:Nat) (T:List Do):Prop:=∀P o,(P++[o])<+:T->JP n P o
def dV {α:Type} (f:Nat->List α) (k:Nat):List α:=(List.range k).flatMap f
theorem gA {α:Type} (f:Nat->List α) (k:Nat):dV f (k+1)=dV f k++f k:=by unfold dV;rw[List.range_succ,List.flatMap_append];simp
theorem Mk {α:Type} (f:Nat->List α) {k m:Nat} (h:k<=m):dV f k<+:dV f m:=by
 induction m with
 |zero=>obtain rfl:k=0:=oO;exact List.prefix_refl _
 |succ m ih=>
  by_cases e:k=m+1
  ·rw[e];exact List.prefix_refl _
  ·rw[gA];exact(ih oO).trans (List.prefix_append _ _)
theorem r5 {α:Type} (f:Nat->List α) {k m:Nat} (h:k<m) {p:List α} (hp:p<+:f k):dV f k++p<+:dV f m:=by
 have h1:dV f k++p<+:dV f (k+1):=by rw[gA];exact(List.prefix_append_right_inj _).2 hp
 exact h1.trans (Mk f h)
section
variable (g : fp) (B : Nat → Nat → Bool) (dl sl : Nat → Nat → Rat)
def lI (i c:Nat):List Do:=if(g.c i c).h≠-1/\B i c=false then [((g.c i c).h.toNat,i,sl i c)]else []
def ux (i:Nat):List Do:=dV (lI g B sl i) (g.cn i)
def qD (d j:Nat):Rat:=dl (g.lg d j).1 (g.lg d j).2
def j0 (d i j:Nat):Rat:=if(g.lg d j).1=i then sl (g.lg d j).1 (g.lg d j).2 else 0
def pD (d i j:Nat):Rat:=x6 (g.d d).W (qD g dl d) (j0 g sl d i) j
def dB (d:Nat):Nat:=(g.d d).legs.length
def qg (d i j:Nat):List Do:=[((g.lg d j).1,i,pD g dl sl d i j)]
def tF (d i:Nat):List Do:=if 0<dB g d/\CV g d≠-1 then [((CV g d).toNat,i,ay (j0 g sl d i) (dB g d)-ay (pD g dl sl d i) (dB g d))]else []
def pb (d i:Nat):List Do:=dV (qg g dl sl d i) (dB g d)++tF g dl sl d i
def yt (d:Nat):List Do:=dV (pb g dl sl d) g.n
def DS:List Do:=dV (ux g B sl) g.n++dV (yt g dl sl) g.ds.length
def Iz:Prop:=∀i,i<g.n->∀c,c<g.cn i->(g.c i c).h≠-1->∃a:Nat,a<g.n/\(g.c i c).h=a
structure QO (K:Nat):Prop where
 gr:Ry g.n (DS g B dl sl)
 W:∀d,d<g.ds.length->L (g.d d).W<=K
 q:∀d,d<g.ds.length->∀j,j<dB g d->L (qD g dl d j)<=K/\∀i,i<g.n->L (j0 g sl d i j)<=K
 s:∀d,d<g.ds.length->∀j,j<=dB g d->L (fP (qD g dl d) j)<=K/\∀i,i<g.n->L (fP (j0 g sl d i) j)<=K
 k:8*K+20<=MX
 so:∀d,d<g.ds.length->∀i,i<g.n->qm (aS (dB g d) λj=>aj (j0 g sl d i j))+1<=MX/\qm (aS (dB g d) λj=>aj (pD g dl sl d i j))+1<=MX/\L (ay (j0 g sl d i) (dB g d))+L (ay (pD g dl sl d i) (dB g d))<=MX
 ln:∀d,d<g.ds.length->dB g d<=1000
end
theorem wO (f:Nat->Rat):∀n,qe ((aS n λk=>aj (f k)).map toQ)=ay f n
 |0=>rfl
 |n+1=>by
  rw[gU,List.map_append,List.map_cons,List.map_nil,zk,wO f n,toQ_ofQ];rfl
theorem AB {α:Type} {enc:α->List Value} {e:TypeId} {size:Nat} {v:Value} {X:List α} {L P M:List bQ} {w0 w:World} (hG:Gl enc e size v X L) (hs:L.Sublist P) (hS:St w0 w (P++M)) (hu:∀x,(enc x).length=size):Sl enc size w v X:=
 hG.sl (H:=[]) (hS.drop (hs.trans (List.sublist_append_left _ _))) hu
theorem RJ {α:Type} (Lr P M Lo:List α):(Lr++((P++M)++Lo)).Perm ((P++(Lr++Lo))++M):=by
 have e1:Lr++((P++M)++Lo)=Lr++(P++(M++Lo)):=by simp only[List.append_assoc]
 have e2:(P++(Lr++Lo))++M=P++(Lr++(Lo++M)):=by simp only[List.append_assoc]
 rw[e1,e2];have h1:(Lr++(P++(M++Lo))).Perm (P++(Lr++(M++Lo))):=by
  rw[<-List.append_assoc,<-List.append_assoc P];exact List.Perm.append_right _ List.perm_append_comm
 exact h1.trans (List.Perm.append_left _ (List.Perm.append_left _ List.perm_append_comm))
def Ke (q:Rat) (v1 v2:Value):Value:= .agg #[.bool (aj q).neg,.string (aj q).num,.string (aj q).den,v1,v2]
theorem DU.form {w:World} {vE vD:Value} {g:fp} {ev:List (Value×Value)} {dv:List Value} (h:DU w vE vD g ev dv) {i:Nat} (hi:i<g.n):∃a1 c1 a2 l2 c2,ev.getD i mq=(.slice a1 (g.e i).cl.length c1,.slice a2 l2 c2):=by
 obtain⟨a1,c1,h1,_⟩:=(h.cl i hi).form;obtain⟨a2,l2,c2,h2⟩:=h.ag i hi;exact⟨a1,c1,a2,l2,c2,Prod.ext h1 h2⟩
theorem Dj {bs:Nat} {vE vD vL vI v1 v2:Value} {g:fp} {Y:Nat->Ly} {B:Nat->Nat->Bool} {ev:List (Value×Value)} {dv u1 u2:List Value} {V:Nat->LV} {iv:List Value} (dl sl:Nat->Nat->Rat) (K:Nat) (w:World) (hS0:yL w bs vE vD vL vI g Y B ev dv V iv) (hM1:kj ae 3 w v1 (mH g.n g.cn dl) u1) (hM2:kj ae 3 w v2 (mH g.n g.cn sl) u2) (hn:g.n<=1000) (hl:nj g) (hho:Iz g) (hK:QO g B dl sl K):
  dj Tryz.prog 56 #[.pointer (some ⟨bs,0,none⟩),.agg #[v1,v2]] w λr w'=>∃bo R,r= .slice (some ⟨bo,0,none⟩) g.n g.n/\dA R g.n g.n (qM (rP (DS g B dl sl)))/\St w w' (mB ae 32 34 bo R []):=by
 have hS:=St.init w;have hly:=ao g.n λi=>(Y i,V i);have hle:=ao g.n λi=>((g.e i).cash,ev.getD i mq);have hld:=ao g.ds.length λk=>((g.d k).W,dv.getD k undef);have hu1:=hM1.len;have hu2:=hM2.len;rw[fV]at hu1 hu2;have hil:=hS0.il;refine enter Tryz.func56 rfl Tryz.ntmps56 rfl ?_;refine jr ?_;refine jh (bY (new:=[v1,v2]) rfl rfl hS ?_);intro b3 wz1 hS hBz1;refine V1 ?_;replace hS:St w _ [(b3,123,[v1,v2])]:=hS;refine J1 ?_;refine jp (dX rfl ?_);refine J1 ?_;refine jq (iQ (v:=vL) (cs:=[vL]) rfl jM (hS0.ab hS.ab).a2 rfl rfl (.inr rfl) (jp (aF rfl (hS0.la.ab hS.ab) ⟨_,Tryz.underlying104⟩ ?_)));rw[hly];refine jh (ah Tryz.call93 rfl (y9 g.n _ hn) ?_);rintro rm w3 ⟨bo,R0,rfl,hR0,hS3⟩;replace hS:=(hS.join hS3).perm List.perm_append_comm;refine J2 ?_;refine jp (dX rfl ?_);refine J2 ?_;refine jq (iQ (v:=vE) (cs:=[vE]) rfl jB (hS0.ab hS.ab).a0 rfl rfl (.inr rfl) (jp (aF rfl (hS0.gr.es.ab hS.ab) ⟨_,Tryz.underlying26⟩ ?_)));refine J1 ?_;refine jb ?_;rw[hle];refine aW (λρ w'=>ρ 0=pB bs/\ρ 3=pB b3/\ρ 5= .slice (some ⟨bo,0,none⟩) g.n g.n/\∃R,dA R g.n g.n (qM (rP (dV (ux g B sl) g.n)))/\St w w' ([(b3,123,[v1,v2])]++mB ae 32 34 bo R [])) ?_ ?_
 ·refine ja ?_;refine aQ (σ:=Nat) (λi ρ w'=>i<=g.n/\ρ 0=pB bs/\ρ 3=pB b3/\ρ 5= .slice (some ⟨bo,0,none⟩) g.n g.n/\ρ 31=vE/\ρ 32=iB g.n/\ρ 33=iB i/\∃R,dA R g.n g.n (qM (rP (dV (ux g B sl) i)))/\St w w' ([(b3,123,[v1,v2])]++mB ae 32 34 bo R [])) (λi=>g.n-i) 0
   ⟨Nat.zero_le _,rfl,rfl,rfl,rfl,rfl,rfl,R0,hR0,hS⟩ ?_
  clear hS hS3;rintro i ρ w2 ⟨hi,h0,h3,h5,h31,h32,h33,R,hR,hS⟩;refine V1 ?_;by_cases hlt:i<g.n
  ·refine V1 ?_;obtain⟨a1,c1,a2,l2,c2,hev⟩:=hS0.gr.form hlt;have hge:(aS g.n λi=>((g.e i).cash,ev.getD i mq)).getD i iu=((g.e i).cash,.slice a1 (g.e i).cl.length c1,.slice a2 l2 c2):=by rw[aV _ _ hlt,hev]
   have hcl:=hS0.gr.cl i hlt;rw[hev]at hcl;dsimp only at hcl;have hcm:=hcl.maxLen;refine J1 ?_;refine jp (aH (i:=i) h31 h33 (hS0.gr.es.ab hS.ab) oO dO iL (jq (aO (v:=Ke (g.e i).cash (.slice a1 (g.e i).cl.length c1) (.slice a2 l2 c2)) (i:=i) iu rfl mT (hS0.gr.es.ab hS.ab) oO rfl (by rw[hge];rfl) (.inl rfl) ?_)));refine J1 ?_;intro b7 wz2 hS hBz2;refine J2 ?_;intro wz3 hS;refine ja ?_;obtain⟨bE,hbE⟩:∃bE:bQ,bE=(b7,51,bl ((g.e i).cash,.slice a1 (g.e i).cl.length c1,.slice a2 l2 c2)):=⟨_,rfl⟩;replace hS:St w _ ([(b7,51,bl ((g.e i).cash,.slice a1 (g.e i).cl.length c1,.slice a2 l2 c2)),(b3,123,[v1,v2])]++mB ae 32 34 bo R []):=hS;refine J2 ?_;refine jp (aF rfl (hcl.ab hS.ab) ⟨_,Tryz.underlying48⟩ ?_);refine J1 ?_;refine jb ?_;obtain⟨T0,hT0⟩:=jz (dV (ux g B sl) i);have hT1:dV (ux g B sl) (i+1)=T0++dV (lI g B sl i) (g.cn i):=by rw[gA,hT0];rfl
   rw[<-hT0]at hR;have hpre:∀c,c<g.cn i->∀o,lI g B sl i c=[o]->JP g.n (T0++dV (lI g B sl i) c) o:=by
    intro c hc o ho;refine hK.gr _ _ ?_;have h1:dV (lI g B sl i) c++[o]<+:ux g B sl i:=r5 _ hc (by rw[ho];exact List.prefix_refl _);have h2:=r5 (ux g B sl) hlt h1;rw[List.append_assoc,hT0];exact h2.trans (List.prefix_append _ _)
   refine aW (λρ w'=>ρ 0=pB bs/\ρ 3=pB b3/\ρ 5= .slice (some ⟨bo,0,none⟩) g.n g.n/\ρ 31=vE/\ρ 32=iB g.n/\ρ 33=iB i/\∃R,dA R g.n g.n (qM (rP (T0++dV (lI g B sl i) (g.cn i))))/\St w w' ([(b3,123,[v1,v2])]++mB ae 32 34 bo R [])) ?_ ?_
   ·refine ja ?_;refine aQ (σ:=Nat) (λc ρ w'=>c<=g.cn i/\ρ 0=pB bs/\ρ 3=pB b3/\ρ 5= .slice (some ⟨bo,0,none⟩) g.n g.n/\ρ 6=iB i/\ρ 31=vE/\ρ 32=iB g.n/\ρ 33=iB i/\ρ 39= .slice a1 (g.e i).cl.length c1/\ρ 40=iB (g.cn i)/\ρ 41=iB c/\∃R,dA R g.n g.n (qM (rP (T0++dV (lI g B sl i) c)))/\St w w' ([(b3,123,[v1,v2])]++mB ae 32 34 bo R [])) (λc=>g.cn i-c) 0
     ⟨Nat.zero_le _,jY,jY,jY,rfl,jY,jY,jY,rfl,rfl,rfl,R,by rw[show T0++dV (lI g B sl i) 0=T0 from List.append_nil _];exact hR,hS.drop (List.sublist_cons_self _ _)⟩ ?_
    clear hS hR h0 h3 h5 h31 h32 h33;rintro c ρ w4 ⟨hc,h0,h3,h5,h6,h31,h32,h33,h39,h40,h41,R,hR,hS⟩;refine V1 ?_;by_cases hcl':c<g.cn i
    ·refine V1 ?_;have hir:=hS0.ir i hlt;have hbl:=ao (g.cn i) (B i);have hgb:(aS (g.cn i) (B i)).getD c false=B i c:=aV _ _ hcl';have hsucc:T0++dV (lI g B sl i) (c+1)=T0++(dV (lI g B sl i) c++lI g B sl i c):=by rw[gA]
     have hcc:c<(g.e i).cl.length:=hcl';obtain⟨k,hk⟩:=jz ((g.e i).cl.getD c fO);have hkc:g.c i c=k:=by rw[hk];rfl
     refine J1 ?_;refine jp (aH (i:=c) h39 h41 (hcl.ab hS.ab) oO dO kd (jq (aO (i:=c) fO rfl mU (hcl.ab hS.ab) dO rfl rfl (.inl rfl) ?_)));refine J1 ?_;intro b9 wz4 hS hBz4;refine J2 ?_;intro wz5 hS;refine ja ?_;rw[<-hk]at hS;replace hS:St w _ ([(b9,53,dg k),(b3,123,[v1,v2])]++mB ae 32 34 bo R []):=hS;by_cases hh1:k.h= -1
     ·have e0:lI g B sl i c=[]:=by unfold lI;rw[hkc,if_neg (λq=>q.1 hh1)]
      refine J4 ?_;refine bI (ak 49 kR rfl (decide_eq_false (by exact λq=>q hh1))) ?_;refine bI (ak 49 kR rfl (decide_eq_false (by exact λq=>q hh1))) ?_;refine bI (ak 49 kR rfl (decide_eq_false (by exact λq=>q hh1))) ?_;refine bI (ak 49 kR rfl (decide_eq_false (by exact λq=>q hh1))) ?_;refine bI (ak 49 kR rfl (decide_eq_false (by exact λq=>q hh1))) ?_;refine bI (ak 49 kR rfl (decide_eq_false (by exact λq=>q hh1))) ?_;refine bI (ak 49 kR rfl (decide_eq_false (by exact λq=>q hh1))) ?_;refine bI (ak 49 kR rfl (decide_eq_false (by exact λq=>q hh1))) ?_;refine bI (ak 49 kR rfl (decide_eq_false (by exact λq=>q hh1))) ?_;refine bI (ak 49 kR rfl (decide_eq_false (by exact λq=>q hh1))) ?_;refine bI (ak 49 kR rfl (decide_eq_false (by exact λq=>q hh1))) ?_;refine jp (aZ (vb rfl (decide_eq_false (by exact λq=>q hh1))) rfl ?_);refine ja ?_;refine ct rfl (rfl) ?_;refine V2 ?_;rw[e0,List.append_nil]at hsucc;rw[<-hsucc]at hR;exact⟨c+1,_,rfl,⟨hcl',jY,jY,jY,jY,jY,jY,jY,jY,jY,vi rfl oO,R,hR,hS.drop (List.sublist_cons_self _ _)⟩,oO⟩
     ·refine J4 ?_;refine ax (ai 49 kR rfl (decide_eq_true hh1)) (aI h0 (ax (ai 49 kR rfl (decide_eq_true hh1)) (dX rfl (ax (ai 49 kR rfl (decide_eq_true hh1)) (cx rfl wQ (bW (ai 49 kR rfl (decide_eq_true hh1)) (iQ (v:=vI) (cs:=[vI]) rfl nm (hS0.ab hS.ab).a3 rfl rfl (.inr rfl) (ax (ai 49 kR rfl (decide_eq_true hh1)) (aI h6 (ax (ai 49 kR rfl (decide_eq_true hh1)) (aH (i:=i) rfl rfl (hS0.ii.ab hS.ab) oO dO Ac (bW (ai 49 kR rfl (decide_eq_true hh1)) (aO (i:=i) undef rfl nW (hS0.ii.ab hS.ab) dO rfl rfl (.inr rfl) (ax (ai 49 kR rfl (decide_eq_true hh1)) (aI rfl (ax (ai 49 kR rfl (decide_eq_true hh1)) (aH (i:=c) rfl rfl (hir.ab hS.ab) oO dO iq (bW (ai 49 kR rfl (decide_eq_true hh1)) (aO (i:=c) false rfl iN (hir.ab hS.ab) dO rfl rfl (.inr rfl) (ax (ai 49 kR rfl (decide_eq_true hh1)) (mJ rfl (jp (aZ (vb rfl (decide_eq_true hh1)) rfl ?_)))))))))))))))))))))));refine ja ?_;cases hb:B i c with
      |true=>
       have e0:lI g B sl i c=[]:=by unfold lI;rw[hkc,hb,if_neg (λq=>by cases q.2)]
       refine ct rfl ((congrArg not (hgb.trans hb))) ?_;refine V2 ?_;rw[e0,List.append_nil]at hsucc;rw[<-hsucc]at hR;exact⟨c+1,_,rfl,⟨hcl',jY,jY,jY,jY,jY,jY,jY,jY,jY,vi rfl oO,R,hR,hS.drop (List.sublist_cons_self _ _)⟩,oO⟩
      |false=>
       obtain⟨a,han,hha⟩:=hho i hlt c hcl' (by rw[hkc];exact hh1);rw[hkc]at hha;have e0:lI g B sl i c=[(a,i,sl i c)]:=by unfold lI;rw[hkc,hb,if_pos ⟨hh1,rfl⟩,hha];rfl
       obtain⟨kh,kr,kq⟩:=k;dsimp only at hha;subst hha;have hLo:L (rP (T0++dV (lI g B sl i) c) a i)+L (sl i c)<=MX:=(hpre c hcl' _ e0).2.2;have hgr:=λwz h=>zZ (w0:=w) (bo:=bo) (pre:=[(b9,53,dg ⟨a,kr,kq⟩),(b3,123,[v1,v2])]) (H:=[]) g.n a i (sl i c) wz hR han hlt hLo h;have hrow:=hM2.row i (by rw[fV];exact hlt);rw[pO _ _ hlt]at hrow;have hrl:=ao (g.cn i) λc=>aj (sl i c);have hg2:(aS (g.cn i) λc=>aj (sl i c)).getD c bM=aj (sl i c):=aV _ _ hcl';refine bZ rfl ((congrArg not (hgb.trans hb))) ?_;refine ja ?_;refine bk [jo 0,jo 1,ju 2,jo 3,jo 4,ju 5,jo 6,jo 7,ju 8,jo 9,jo 10,ju 11,jw 12] kR kR hS ?_;intro wz6 hS hBz6;refine J7 ?_;refine jl rfl (aH (i:=i) rfl rfl (hM2.sl.ab hS.ab) oO dO cZ (jm rfl (aO (i:=i) undef rfl dh (hM2.sl.ab hS.ab) dO rfl rfl (.inr rfl) ?_)));refine J1 ?_;refine jl rfl (aH (i:=c) rfl rfl (hrow.ab hS.ab) oO dO bJ (jm rfl (aO (i:=c) bM rfl aB (hrow.ab hS.ab) dO rfl rfl (.inl rfl) ?_)));rw[hg2];refine jx rfl (ah Tryz.call94 rfl (hgr _ hS) ?_);rintro rg w6 ⟨rfl,R',hR',hS⟩;refine V2 ?_;have em:j7 (rP (T0++dV (lI g B sl i) c)) a i (sl i c)=rP (T0++dV (lI g B sl i) (c+1)):=by
        rw[gA,e0,<-List.append_assoc,wy]
       rw[em]at hR';exact⟨c+1,_,rfl,⟨hcl',jY,jY,jY,jY,jY,jY,jY,jY,jY,vi rfl oO,R',hR',hS.drop (List.sublist_cons_self _ _)⟩,oO⟩
    ·refine J1 ?_;refine jt ?_;obtain rfl:c=g.cn i:=oO;exact⟨_,rfl,h0,h3,h5,h31,h32,h33,R,hR,hS⟩
   clear hS hR h0 h3 h5 h31 h32 h33;rintro ρ w4 ⟨h0,h3,h5,h31,h32,h33,R,hR,hS⟩;rw[<-hT1]at hR;refine V2 ?_;exact⟨i+1,_,rfl,⟨hlt,jY,jY,jY,jY,jY,vi rfl oO,R,hR,hS⟩,oO⟩
  ·refine J1 ?_;refine jt ?_;obtain rfl:i=g.n:=oO;exact⟨_,rfl,h0,h3,h5,R,hR,hS⟩
 clear hS hS3 hR0;rintro ρ w2 ⟨h0,h3,h5,R,hR,hS⟩;obtain⟨T0,hT0⟩:=jz (dV (ux g B sl) g.n);have hTT:DS g B dl sl=T0++dV (yt g dl sl) g.ds.length:=by rw[hT0];rfl
 rw[<-hT0]at hR;refine J1 ?_;refine jp (dX rfl ?_);refine J2 ?_;refine jq (iQ (v:=vD) (cs:=[vD]) rfl mY (hS0.ab hS.ab).a1 rfl rfl (.inr rfl) (jp (aF rfl (hS0.gr.ds.ab hS.ab) ⟨_,Tryz.underlying27⟩ ?_)));refine J1 ?_;refine jb ?_;rw[hld];refine aW (λρ w'=>ρ 5= .slice (some ⟨bo,0,none⟩) g.n g.n/\∃R,dA R g.n g.n (qM (rP (DS g B dl sl)))/\St w w' ([(b3,123,[v1,v2])]++mB ae 32 34 bo R [])) ?_ ?_
 ·refine ja ?_;refine aQ (σ:=Nat) (λd ρ w'=>d<=g.ds.length/\ρ 0=pB bs/\ρ 3=pB b3/\ρ 5= .slice (some ⟨bo,0,none⟩) g.n g.n/\ρ 81=vD/\ρ 82=iB g.ds.length/\ρ 83=iB d/\∃R,dA R g.n g.n (qM (rP (T0++dV (yt g dl sl) d)))/\St w w' ([(b3,123,[v1,v2])]++mB ae 32 34 bo R [])) (λd=>g.ds.length-d) 0
   ⟨Nat.zero_le _,jY,jY,jY,rfl,rfl,rfl,R,by rw[show T0++dV (yt g dl sl) 0=T0 from List.append_nil _];exact hR,hS⟩ ?_
  clear hS hR h0 h3 h5;rintro d ρ w2 ⟨hd,h0,h3,h5,h81,h82,h83,R,hR,hS⟩;have hdm:=hS0.gr.ds.maxLen;rw[hld]at hdm;refine V1 ?_;by_cases hlt:d<g.ds.length
  ·refine V1 ?_;have hlg:=hS0.gr.lg d hlt;obtain⟨al,cl,hvl,_⟩:=hlg.form;rw[hvl]at hlg;obtain⟨m,hm⟩:=jz (dB g d);have hm':(g.d d).legs.length=m:=hm.symm;rw[hm']at hvl hlg;have hmk:=hK.ln d hlt;rw[<-hm]at hmk;have hgd:(aS g.ds.length λk=>((g.d k).W,dv.getD k undef)).getD d Hs=((g.d d).W,.slice al m cl):=by rw[aV _ _ hlt,hvl]
   have hok:∀j,j<(g.d d).legs.length->((g.d d).legs.getD j (0,0)).1<g.n/\((g.d d).legs.getD j (0,0)).2<g.cn ((g.d d).legs.getD j (0,0)).1:=hl d hlt;have hhold:=λwz h=>λh0:0<(g.d d).legs.length=>Ga d wz (hS0.ab h) hlt h0 hl;rw[hvl]at hhold;refine jr ?_;refine jp (aH (i:=d) h81 h83 (hS0.gr.ds.ab hS.ab) oO dO oK (jq (aO (v:=KJ (g.d d).W (.slice al m cl)) (i:=d) Hs rfl lJ (hS0.gr.ds.ab hS.ab) oO rfl (by rw[hgd];rfl) (.inl rfl) ?_)));refine J1 ?_;intro b11 wz7 hS hBz7;refine J1 ?_;intro wz8 hS;refine ja ?_;obtain⟨bD,hbD⟩:=jz (df ((g.d d).W,.slice al m cl));replace hS:St w _ ([(b11,64,df ((g.d d).W,.slice al m cl)),(b3,123,[v1,v2])]++mB ae 32 34 bo R []):=hS;refine ja ?_;refine bk [ju 0,jo 1,ju 2,ju 4,jo 5,ju 6,jv 3,jv 7,jo 8,jo 9] kR kR hS ?_;intro wz9 hS hBz9;refine J6 ?_;refine jn rfl (ah Tryz.call54 rfl (z6 (.slice al m cl) v1 u1 (g.d d).W (g.d d).legs g.n g.cn dl _ (hlg.ab hS.ab) (hM1.ab hS.ab) hok oO) ?_);rintro rq w5 ⟨Lq,hGq,hS5⟩;refine⟨hS5.ab,?_⟩;replace hS:=(hS.join hS5).perm List.perm_append_comm;refine jn rfl (ah Tryz.call54 rfl (z6 (.slice al m cl) v2 u2 (g.d d).W (g.d d).legs g.n g.cn sl _ (hlg.ab hS.ab) (hM2.ab hS.ab) hok oO) ?_);rintro rs w6 ⟨Ls,hGs,hS6⟩;refine⟨hS6.ab,?_⟩;replace hS:=(hS.join hS6).perm List.perm_append_comm;refine V2 ?_;rw[hm']at hGq hGs;have eq:(aS m λj=>aj (dl ((g.d d).legs.getD j (0,0)).1 ((g.d d).legs.getD j (0,0)).2))=aS m λj=>aj (qD g dl d j):=rfl;rw[eq]at hGq;clear eq;obtain⟨sd,hsd⟩:∃sd:Nat->Rat,sd=λj=>sl (g.lg d j).1 (g.lg d j).2:=⟨_,rfl⟩;have es:(aS m λj=>aj (sl ((g.d d).legs.getD j (0,0)).1 ((g.d d).legs.getD j (0,0)).2))=aS m λj=>aj (sd j):=by rw[hsd];rfl
   rw[es]at hGs;clear es;obtain⟨aq,cq,hvq⟩:=hGq.len;obtain⟨az,cz,hvz⟩:=hGs.len;rw[ao]at hvq hvz;subst hvq hvz;obtain⟨T1,hT1⟩:=jz (T0++dV (yt g dl sl) d);have hT1':T0++dV (yt g dl sl) (d+1)=T1++dV (pb g dl sl d) g.n:=by rw[gA,hT1,List.append_assoc];rfl
   rw[<-hT1]at hR;have hpre:∀i,i<g.n->∀P o,(P++[o])<+:pb g dl sl d i->JP g.n ((T1++dV (pb g dl sl d) i)++P) o:=by
    intro i hi P o ho;refine hK.gr _ _ ?_;have h2:=r5 (pb g dl sl d) hi ho;have h3:=r5 (yt g dl sl) hlt h2;rw[hTT,hT1];simp only[List.append_assoc]at h3⊢;exact(List.prefix_append_right_inj _).2 h3
   rw[List.append_assoc]at hS;replace hS:St w _ (([(b11,64,df ((g.d d).W,.slice al m cl)),(b3,123,[v1,v2])]++(Lq++Ls))++mB ae 32 34 bo R []):=hS.perm (QL _ _ _);have hqs:∀wx Z,St w wx (([(b11,64,df ((g.d d).W,.slice al m cl)),(b3,123,[v1,v2])]++(Lq++Ls))++Z)->Sl ae 3 wx (.slice aq m cq) (aS m λj=>aj (qD g dl d j))/\Sl ae 3 wx (.slice az m cz) (aS m λj=>aj (sd j)):=λwx Z h=>⟨AB hGq ((List.sublist_append_left Lq Ls).trans (List.sublist_append_right _ _)) h aK,AB hGs ((List.sublist_append_right Lq Ls).trans (List.sublist_append_right _ _)) h aK⟩;obtain⟨LL,hLL⟩:=jz (Lq++Ls);rw[<-hLL]at hS hqs;have htz:=ao m λj=>aj (sd j);clear hGq hGs hS5 hS6;refine J1 ?_;refine jp (dX rfl ?_);refine J1 ?_;refine jq (iQ (v:=vL) (cs:=[vL]) rfl jM (hS0.ab hS.ab).a2 rfl rfl (.inr rfl) (jp (aF rfl (hS0.la.ab hS.ab) ⟨_,Tryz.underlying104⟩ ?_)));refine J1 ?_;refine jb ?_;rw[hly];refine aW (λρ w'=>ρ 0=pB bs/\ρ 3=pB b3/\ρ 5= .slice (some ⟨bo,0,none⟩) g.n g.n/\ρ 81=vD/\ρ 82=iB g.ds.length/\ρ 83=iB d/\∃R,dA R g.n g.n (qM (rP (T1++dV (pb g dl sl d) g.n)))/\St w w' ([(b3,123,[v1,v2])]++mB ae 32 34 bo R [])) ?_ ?_
   ·refine ja ?_;refine aQ (σ:=Nat) (λi ρ w'=>i<=g.n/\ρ 0=pB bs/\ρ 3=pB b3/\ρ 5= .slice (some ⟨bo,0,none⟩) g.n g.n/\ρ 11=pB b11/\ρ 12= .slice aq m cq/\ρ 13= .slice az m cz/\ρ 81=vD/\ρ 82=iB g.ds.length/\ρ 83=iB d/\ρ 99=iB g.n/\ρ 100=iB i/\
      ∃R,dA R g.n g.n (qM (rP (T1++dV (pb g dl sl d) i)))/\St w w' (([(b11,64,df ((g.d d).W,.slice al m cl)),(b3,123,[v1,v2])]++LL)++mB ae 32 34 bo R [])) (λi=>g.n-i) 0
     ⟨Nat.zero_le _,jY,jY,jY,rfl,rfl,rfl,jY,jY,jY,rfl,rfl,R,by rw[show T1++dV (pb g dl sl d) 0=T1 from List.append_nil _];exact hR,hS⟩ ?_
    clear hS hR h0 h3 h5 h81 h82 h83;rintro i ρ w4 ⟨hi,h0,h3,h5,h11,h12,h13,h81,h82,h83,h99,h100,R,hR,hS⟩;refine V1 ?_;by_cases hil:i<g.n
    ·refine J5 ?_;refine jh (de (enc:=ae) (n:=m) bM rfl rfl bJ rfl oO oO oO oO hS ?_);intro b105 wz10 hS hBz10;refine V1 ?_;have hS':=hS.perm (List.perm_append_singleton _ _).symm;rw[cG]at hS';clear hS;have hS:=hS';clear hS';have hG:Gl ae 32 3 (.slice (some ⟨b105,0,none⟩) m m) (aS m λk=>aj (oN (j0 g sl d i) 0 k)) [(b105,32,(aS m λk=>aj (oN (j0 g sl d i) 0 k)).flatMap ae)]:=iE (ao _ _) oO;refine J2 ?_;refine jp (aF rfl (hlg.ab hS.ab) ⟨_,Tryz.underlying62⟩ ?_);refine J1 ?_;refine jb ?_;rw[hm'];refine aW (λρ w'=>ρ 0=pB bs/\ρ 3=pB b3/\ρ 5= .slice (some ⟨bo,0,none⟩) g.n g.n/\ρ 11=pB b11/\ρ 12= .slice aq m cq/\ρ 13= .slice az m cz/\ρ 14=iB i/\ρ 15= .slice (some ⟨b105,0,none⟩) m m/\ρ 81=vD/\ρ 82=iB g.ds.length/\ρ 83=iB d/\ρ 99=iB g.n/\ρ 100=iB i/\
       ∃Lo,Gl ae 32 3 (.slice (some ⟨b105,0,none⟩) m m) (aS m λk=>aj (j0 g sl d i k)) Lo/\St w w' ((([(b11,64,df ((g.d d).W,.slice al m cl)),(b3,123,[v1,v2])]++LL)++mB ae 32 34 bo R [])++Lo)) ?_ ?_
     ·refine ja ?_;refine aQ (σ:=Nat) (λk ρ w'=>k<=m/\ρ 0=pB bs/\ρ 3=pB b3/\ρ 5= .slice (some ⟨bo,0,none⟩) g.n g.n/\ρ 11=pB b11/\ρ 12= .slice aq m cq/\ρ 13= .slice az m cz/\ρ 14=iB i/\ρ 15= .slice (some ⟨b105,0,none⟩) m m/\ρ 81=vD/\ρ 82=iB g.ds.length/\ρ 83=iB d/\ρ 99=iB g.n/\ρ 100=iB i/\ρ 107= .slice al m cl/\ρ 108=iB m/\ρ 109=iB k/\
        ∃Lo,Gl ae 32 3 (.slice (some ⟨b105,0,none⟩) m m) (aS m λj=>aj (oN (j0 g sl d i) k j)) Lo/\St w w' ((([(b11,64,df ((g.d d).W,.slice al m cl)),(b3,123,[v1,v2])]++LL)++mB ae 32 34 bo R [])++Lo)) (λk=>m-k) 0
       ⟨Nat.zero_le _,jY,jY,jY,jY,jY,jY,rfl,rfl,jY,jY,jY,jY,jY,rfl,rfl,rfl,_,hG,hS⟩ ?_
      clear hS hG h0 h3 h5 h11 h12 h13 h81 h82 h83 h99 h100;rintro k ρ w5 ⟨hk,h0,h3,h5,h11,h12,h13,h14,h15,h81,h82,h83,h99,h100,h107,h108,h109,Lo,hG,hS⟩;have htl:=ao m λj=>aj (oN (j0 g sl d i) k j);refine V1 ?_;by_cases hkl:k<m
      ·refine V1 ?_;obtain⟨p,hp⟩:=jz ((g.d d).legs.getD k (0,0));have hpl:g.lg d k=p:=by rw[hp];rfl
       have hgs:(aS m λj=>aj (sd j)).getD k bM=aj (sd k):=aV _ _ hkl;refine J1 ?_;refine jp (aH (i:=k) h107 h109 (hlg.ab hS.ab) oO dO jf (jq (aO (i:=k) (0,0) rfl jj (hlg.ab hS.ab) dO rfl rfl (.inl rfl) ?_)));refine J1 ?_;intro b17 wz11 hS hBz11;refine J2 ?_;intro wz12 hS;refine ja ?_;rw[<-hp]at hS;replace hS:St w _ (((b17,66,fA p)::(([(b11,64,df ((g.d d).W,.slice al m cl)),(b3,123,[v1,v2])]++LL)++mB ae 32 34 bo R []))++Lo):=hS;have hzs:∀wx,St w wx (((b17,66,fA p)::(([(b11,64,df ((g.d d).W,.slice al m cl)),(b3,123,[v1,v2])]++LL)++mB ae 32 34 bo R []))++Lo)->Sl ae 3 wx (.slice az m cz) (aS m λj=>aj (sd j)):=λwx h=>(hqs wx _ ((h.drop (List.sublist_append_left _ Lo)).drop (List.sublist_cons_self _ _))).2;refine V4 ?_;by_cases hpi:p.1=i
       ·refine V1 ?_;have how:j0 g sl d i k=sd k:=by unfold j0;rw[hpl,if_pos hpi,hsd];dsimp only;rw[hpl]
        refine J4 ?_;refine jp (aH (i:=k) rfl rfl (hzs _ hS) oO dO bJ (jq (aO (i:=k) bM rfl aB (hzs _ hS) dO rfl rfl (.inl rfl) (jp (aH (i:=k) rfl rfl (hG.sl hS aK) oO dO bJ (jh (mD (i:=k) (aj (j0 g sl d i k)) aK rfl rfl aB hG hS oO (by rw[hgs,how];rfl) rfl ?_)))))));intro wz13 hS;refine ja ?_;obtain⟨LC2,hG,hS⟩:=hS;rw[om]at hG;refine V2 ?_;exact⟨k+1,_,rfl,⟨hkl,jY,jY,jY,jY,jY,jY,jY,jY,jY,jY,jY,jY,jY,jY,jY,vi rfl oO,_,hG,hS.drop (List.sublist_cons_self _ _)⟩,oO⟩
       ·refine V1 ?_;have how:j0 g sl d i k=0:=by unfold j0;rw[hpl,if_neg hpi]
        have e2:(aS m λj=>aj (oN (j0 g sl d i) k j))=aS m λj=>aj (oN (j0 g sl d i) (k+1) j):=bA λj _=>by
         unfold oN;by_cases q1:j=k
         ·rw[q1,if_neg oO,if_pos oO,how]
         ·by_cases q2:j<k
          ·rw[if_pos q2,if_pos oO]
          ·rw[if_neg q2,if_neg oO]
        rw[e2]at hG;refine V2 ?_;exact⟨k+1,_,rfl,⟨hkl,jY,jY,jY,jY,jY,jY,jY,jY,jY,jY,jY,jY,jY,jY,jY,vi rfl oO,_,hG,hS.drop (List.sublist_cons_self _ _)⟩,oO⟩
      ·refine J1 ?_;refine jt ?_;obtain rfl:m=k:=oO;rw[oc]at hG;exact⟨_,rfl,h0,h3,h5,h11,h12,h13,h14,h15,h81,h82,h83,h99,h100,Lo,hG,hS⟩
     clear hS hG h0 h3 h5 h11 h12 h13 h81 h82 h83 h99 h100;rintro ρ w5 ⟨h0,h3,h5,h11,h12,h13,h14,h15,h81,h82,h83,h99,h100,Lo,hG,hS⟩;have hW:=hK.W d hlt;have hsub:=λwx (h:St w wx ((([(b11,64,df ((g.d d).W,.slice al m cl)),(b3,123,[v1,v2])]++LL)++mB ae 32 34 bo R [])++Lo))=>(hqs wx _ (h.drop (List.sublist_append_left _ Lo))).1;refine J4 ?_;refine jh (ah Tryz.call95 rfl (IX (.slice aq m cq) (.slice (some ⟨b105,0,none⟩) m m) m (g.d d).W (qD g dl d) (j0 g sl d i) K _ (hsub _ hS) (hG.sl hS aK) hmk hW (λj hj=>⟨(hK.q d hlt j oO).1,(hK.q d hlt j oO).2 i hil⟩) (λj hj=>⟨(hK.s d hlt j oO).1,(hK.s d hlt j oO).2 i hil⟩) hK.k) ?_);rintro rr w8 ⟨Lr,hGr,hS8⟩;replace hS:=(hS.join hS8).perm (RJ Lr _ _ Lo);have er:(aS m λj=>aj (x6 (g.d d).W (qD g dl d) (j0 g sl d i) j))=aS m λj=>aj (pD g dl sl d i j):=rfl;rw[er]at hGr;clear er;obtain⟨ar,cr,hvr⟩:=hGr.len;rw[ao]at hvr;subst hvr;have hrt:∀wx Z,St w wx (([(b11,64,df ((g.d d).W,.slice al m cl)),(b3,123,[v1,v2])]++LL)++(Lr++Lo)++Z)->Sl ae 3 wx (.slice ar m cr) (aS m λj=>aj (pD g dl sl d i j))/\Sl ae 3 wx (.slice (some ⟨b105,0,none⟩) m m) (aS m λj=>aj (j0 g sl d i j)):=λwx Z h=>⟨AB hGr ((List.sublist_append_left Lr Lo).trans (List.sublist_append_right _ _)) h aK,AB hG ((List.sublist_append_right Lr Lo).trans (List.sublist_append_right _ _)) h aK⟩;obtain⟨LR,hLR⟩:=jz (Lr++Lo);rw[<-hLR]at hS hrt;clear hGr hG hS8 hsub;have hrtl:=ao m λj=>aj (pD g dl sl d i j);have howl:=ao m λj=>aj (j0 g sl d i j);refine J4 ?_;refine jb ?_;obtain⟨T2,hT2⟩:=jz (T1++dV (pb g dl sl d) i);have hdi:pb g dl sl d i=dV (qg g dl sl d i) m++tF g dl sl d i:=by rw[hm];rfl
     have hT2':T1++dV (pb g dl sl d) (i+1)=T2++(dV (qg g dl sl d i) m++tF g dl sl d i):=by rw[gA,hT2,List.append_assoc,hdi]
     have hpre2:=hpre i hil;rw[<-hT2]at hR hpre2;refine aW (λρ w'=>ρ 0=pB bs/\ρ 3=pB b3/\ρ 5= .slice (some ⟨bo,0,none⟩) g.n g.n/\ρ 11=pB b11/\ρ 12= .slice aq m cq/\ρ 13= .slice az m cz/\ρ 14=iB i/\ρ 15= .slice (some ⟨b105,0,none⟩) m m/\ρ 18= .slice ar m cr/\ρ 81=vD/\ρ 82=iB g.ds.length/\ρ 83=iB d/\ρ 99=iB g.n/\ρ 100=iB i/\∃R,dA R g.n g.n (qM (rP (T2++dV (qg g dl sl d i) m)))/\St w w' ((([(b11,64,df ((g.d d).W,.slice al m cl)),(b3,123,[v1,v2])]++LL)++LR)++mB ae 32 34 bo R [])) ?_ ?_
     ·refine ja ?_;refine aQ (σ:=Nat) (λk ρ w'=>k<=m/\ρ 0=pB bs/\ρ 3=pB b3/\ρ 5= .slice (some ⟨bo,0,none⟩) g.n g.n/\ρ 11=pB b11/\ρ 12= .slice aq m cq/\ρ 13= .slice az m cz/\ρ 14=iB i/\ρ 15= .slice (some ⟨b105,0,none⟩) m m/\ρ 18= .slice ar m cr/\ρ 81=vD/\ρ 82=iB g.ds.length/\ρ 83=iB d/\ρ 99=iB g.n/\ρ 100=iB i/\ρ 131= .slice ar m cr/\ρ 132=iB m/\ρ 133=iB k/\∃R,dA R g.n g.n (qM (rP (T2++dV (qg g dl sl d i) k)))/\St w w' ((([(b11,64,df ((g.d d).W,.slice al m cl)),(b3,123,[v1,v2])]++LL)++LR)++mB ae 32 34 bo R [])) (λk=>m-k) 0
       ⟨Nat.zero_le _,jY,jY,jY,jY,jY,jY,jY,jY,rfl,jY,jY,jY,jY,jY,rfl,rfl,rfl,R,by rw[show T2++dV (qg g dl sl d i) 0=T2 from List.append_nil _];exact hR,hS⟩ ?_
      clear hS hR h0 h3 h5 h11 h12 h13 h14 h15 h81 h82 h83 h99 h100;rintro k ρ w9 ⟨hk,h0,h3,h5,h11,h12,h13,h14,h15,h18,h81,h82,h83,h99,h100,h131,h132,h133,R,hR,hS⟩;refine V1 ?_;by_cases hkl:k<m
      ·refine V1 ?_;have hgr:(aS m λj=>aj (pD g dl sl d i j)).getD k bM=aj (pD g dl sl d i k):=aV _ _ hkl;have e0:qg g dl sl d i k=[((g.lg d k).1,i,pD g dl sl d i k)]:=rfl;have hin:=hpre2 (dV (qg g dl sl d i) k) ((g.lg d k).1,i,pD g dl sl d i k) (by rw[hdi];exact(r5 (qg g dl sl d i) hkl (by rw[e0];exact List.prefix_refl _)).trans (List.prefix_append _ _));have hLo:L (rP (T2++dV (qg g dl sl d i) k) (g.lg d k).1 i)+L (pD g dl sl d i k)<=MX:=hin.2.2;have hle1:(g.lg d k).1<g.n:=(hl d hlt k oO).1;refine J1 ?_;refine jp (aH (i:=k) h131 h133 (hrt _ _ hS).1 oO dO bJ (jq (aO (i:=k) bM rfl aB (hrt _ _ hS).1 dO rfl rfl (.inl rfl) ?_)));refine J1 ?_;intro b20 wz14 hS hBz14;refine J2 ?_;intro wz15 hS;refine ja ?_;rw[hgr]at hS;replace hS:St w _ (((b20,32,ae (aj (pD g dl sl d i k)))::(([(b11,64,df ((g.d d).W,.slice al m cl)),(b3,123,[v1,v2])]++LL)++LR))++mB ae 32 34 bo R []):=hS;have hgg:=λwz h=>zZ (w0:=w) (bo:=bo) (pre:=((b20,32,ae (aj (pD g dl sl d i k)))::(([(b11,64,df ((g.d d).W,.slice al m cl)),(b3,123,[v1,v2])]++LL)++LR))) (H:=[]) g.n (g.lg d k).1 i (pD g dl sl d i k) wz hR hle1 hil hLo h;refine ja ?_;refine bk [jo 0,jo 1,ju 2,jo 3,jo 4,jo 5,ju 6,jo 7,ju 8,jw 9] kR kR hS ?_;intro wz16 hS hBz16;refine J4 ?_;refine jl rfl (aH (i:=k) rfl rfl (hlg.ab hS.ab) oO dO jf ?_);refine jl rfl (fL rfl (dZ (hlg.ab hS.ab) (λ_=>rfl) dD dO) oz ?_);refine jm rfl (fJ (i:=k) (off:=0) (0,0) rfl eI (hlg.ab hS.ab) (λ_=>rfl) dD dO rfl rfl (.inr rfl) ?_);refine J2 ?_;refine jx rfl (ah Tryz.call94 rfl (hgg _ hS) ?_);rintro rg w10 ⟨rfl,R',hR',hS⟩;refine V2 ?_;have em:j7 (rP (T2++dV (qg g dl sl d i) k)) (g.lg d k).1 i (pD g dl sl d i k)=rP (T2++dV (qg g dl sl d i) (k+1)):=by
        rw[gA,e0,<-List.append_assoc,wy]
       rw[em]at hR';exact⟨k+1,_,rfl,⟨hkl,jY,jY,jY,jY,jY,jY,jY,jY,jY,jY,jY,jY,jY,jY,jY,jY,vi rfl oO,R',hR',hS.drop (List.sublist_cons_self _ _)⟩,oO⟩
      ·refine J1 ?_;refine jt ?_;obtain rfl:m=k:=oO;exact⟨_,rfl,h0,h3,h5,h11,h12,h13,h14,h15,h18,h81,h82,h83,h99,h100,R,hR,hS⟩
     clear hS hR h0 h3 h5 h11 h12 h13 h14 h15 h81 h82 h83 h99 h100;rintro ρ w9 ⟨h0,h3,h5,h11,h12,h13,h14,h15,h18,h81,h82,h83,h99,h100,R,hR,hS⟩;refine ja ?_;have hRno:tF g dl sl d i=[]->dA R g.n g.n (qM (rP (T1++dV (pb g dl sl d) (i+1)))):=λe=>by rw[hT2',e,List.append_nil];exact hR
     by_cases hm0:0<m
     ·refine J2 ?_;refine jp (aF rfl (hlg.ab hS.ab) ⟨_,Tryz.underlying62⟩ ?_);refine J2 ?_;refine ax (ai 153 kR rfl dT) (aI h0 (bW (ai 153 kR rfl dT) (bT (k:=0) h11 lJ hS rfl rfl rfl (.inl rfl) (fB (ai 153 kR rfl dT) (ah Tryz.call96 rfl (hhold _ hS.ab oO) ?_)))));rintro rh w10 ⟨rfl,hB10⟩;replace hS:=hS.aG hB10;obtain⟨e1,e2⟩:=hl d hlt 0 oO;by_cases hz:CV g d= -1
      ·refine ax (ai 153 kR rfl dT) (Ct rfl rfl (jp (aZ (vb rfl dT) rfl ?_)));refine ja ?_;refine ct rfl (decide_eq_false (λq=>q hz)) ?_;refine V2 ?_;have hR':=hRno (by unfold tF;rw[if_neg (λq=>q.2 hz)]);exact⟨i+1,_,rfl,⟨hil,jY,jY,jY,jY,jY,jY,jY,jY,jY,jY,vi rfl oO,R,hR',hS.drop (List.Sublist.append (List.sublist_append_left _ LR) (List.Sublist.refl _))⟩,oO⟩
      ·obtain⟨a,han,hha⟩:=hho (g.lg d 0).1 e1 (g.lg d 0).2 e2 hz;replace hha:CV g d=a:=hha;refine ax (ai 153 kR rfl dT) (Ct rfl rfl (jp (aZ (vb rfl dT) rfl ?_)));refine ja ?_;refine bZ rfl (decide_eq_true hz) ?_;refine ja ?_;obtain⟨s1,s2,s3⟩:=hK.so d hlt i hil;rw[<-hm]at s1 s2 s3;obtain⟨z,hzd⟩:=jz (ay (j0 g sl d i) m-ay (pD g dl sl d i) m);have e0:tF g dl sl d i=[(a,i,z)]:=by unfold tF;rw[<-hm,if_pos ⟨hm0,hz⟩,hha,hzd];rfl
       have hin:=hpre2 (dV (qg g dl sl d i) m) (a,i,z) (by rw[hdi,e0];exact List.prefix_refl _);have hLo:L (rP (T2++dV (qg g dl sl d i) m) a i)+L z<=MX:=hin.2.2;have hsb:=λw=>dH (aj (ay (j0 g sl d i) m)) (aj (ay (pD g dl sl d i) m)) w (by rw[Lr_ofQ,Lr_ofQ];exact s3);rw[toQ_ofQ,toQ_ofQ,<-hzd]at hsb;have hgg:=λwz h=>zZ (w0:=w) (bo:=bo) (pre:=(([(b11,64,df ((g.d d).W,.slice al m cl)),(b3,123,[v1,v2])]++LL)++LR)) (H:=[]) g.n a i z wz hR han hil hLo h;refine J3 ?_;refine jh (ah Tryz.call96 rfl (hhold _ hS.ab oO) ?_);rintro rh2 w11 ⟨rfl,hB11⟩;rw[hha];replace hS:=hS.aG hB11;refine J2 ?_;refine jh (ah Tryz.call97 rfl (F8 _ _ _ (hrt _ _ hS).2 s1) ?_);rintro ro w12 ⟨rfl,hB12⟩;rw[wO];replace hS:=hS.aG hB12;refine J1 ?_;refine jh (ah Tryz.call97 rfl (F8 _ _ _ (hrt _ _ hS).1 s2) ?_);rintro rp w13 ⟨rfl,hB13⟩;rw[wO];replace hS:=hS.aG hB13;refine jh (ah Tryz.call16 rfl (hsb _) ?_);rintro rp2 w14 ⟨rfl,hB14⟩;replace hS:=hS.aG hB14;refine jh (ah Tryz.call94 rfl (hgg _ hS) ?_);rintro rg w15 ⟨rfl,R',hR',hS⟩;refine V2 ?_;have em:j7 (rP (T2++dV (qg g dl sl d i) m)) a i z=rP (T1++dV (pb g dl sl d) (i+1)):=by
        rw[hT2',e0,<-List.append_assoc,wy]
       rw[em]at hR';exact⟨i+1,_,rfl,⟨hil,jY,jY,jY,jY,jY,jY,jY,jY,jY,jY,vi rfl oO,R',hR',hS.drop (List.Sublist.append (List.sublist_append_left _ LR) (List.Sublist.refl _))⟩,oO⟩
     ·refine J2 ?_;refine jp (aF rfl (hlg.ab hS.ab) ⟨_,Tryz.underlying62⟩ ?_);refine J2 ?_;refine bI (ak 153 kR rfl dF) (bI (ak 153 kR rfl dF) (bI (ak 153 kR rfl dF) (bI (ak 153 kR rfl dF) (jp (aZ (vb rfl dF) rfl ?_)))));refine ja ?_;refine ct rfl (rfl) ?_;refine V2 ?_;have hR':=hRno (by unfold tF;rw[<-hm,if_neg (λq=>hm0 q.1)]);exact⟨i+1,_,rfl,⟨hil,jY,jY,jY,jY,jY,jY,jY,jY,jY,jY,vi rfl oO,R,hR',hS.drop (List.Sublist.append (List.sublist_append_left _ LR) (List.Sublist.refl _))⟩,oO⟩
    ·refine J1 ?_;refine jt ?_;obtain rfl:i=g.n:=oO;exact⟨_,rfl,h0,h3,h5,h81,h82,h83,R,hR,hS.drop (List.Sublist.append ((List.sublist_cons_self _ _).trans (List.sublist_append_left _ LL)) (List.Sublist.refl _))⟩
   clear hS hR h0 h3 h5 h81 h82 h83;rintro ρ w4 ⟨h0,h3,h5,h81,h82,h83,R,hR,hS⟩;rw[<-hT1']at hR;refine V2 ?_;exact⟨d+1,_,rfl,⟨hlt,jY,jY,jY,jY,jY,vi rfl oO,R,hR,hS⟩,oO⟩
  ·refine J1 ?_;refine jt ?_;obtain rfl:d=g.ds.length:=oO;rw[<-hTT]at hR;exact⟨_,rfl,h5,R,hR,hS⟩
 clear hS hR h0 h3 h5;rintro ρ w2 ⟨h5,R,hR,hS⟩;refine J2 ?_;refine jt ?_;refine bj rfl rfl ?_;exact⟨bo,R,rfl,hR,hS.drop (List.sublist_append_right _ _)⟩
def Ai (o:Option Rat) (s:Rat):Option Rat:=match o with
 |none=>some s
 |some h=>if s<h then some s else some h
def n6 (b11 b10:Nat) (o:Option Rat):List bQ:=[(b11,4,[.bool o.isSome]),(b10,32,ae (aj (o.getD 0)))]
theorem E2 (b11 b10:Nat) (o:Option Rat) (gap rate:Rat) (H:List bQ) (w0 w:World) (hr:rate≠0) (hL:L gap+L rate<=MX) (hL2:L (gap/rate)+L (o.getD 0)<=MX) (hS:St w0 w (n6 b11 b10 o++H)):
  dj Tryz.prog 107 #[cw (aj gap),cw (aj rate),.pointer (some ⟨b11,0,none⟩),.pointer (some ⟨b10,0,none⟩)] w λr w'=>r= .tuple #[]/\St w0 w' (n6 b11 b10 (Ai o (gap/rate))++H):=by
 obtain⟨s,hs⟩:=jz (gap/rate);have hdiv:=λw=>oo (aj gap) (aj rate) w (by rw[Lr_ofQ,Lr_ofQ];exact hL) (by rw[toQ_ofQ];exact hr);rw[toQ_ofQ,toQ_ofQ,<-hs]at hdiv;rw[<-hs]at hL2⊢;refine enter Tryz.func107 rfl Tryz.ntmps107 rfl ?_;refine jr ?_;refine jh (bY (new:=ae (aj gap)) rfl rfl hS ?_);intro b4 wz1 hS hBz1;refine jh (bY (new:=ae (aj rate)) rfl rfl hS ?_);intro b5 wz2 hS hBz2;refine ja ?_;replace hS:St w0 _ ((b5,32,ae (aj rate))::(b4,32,ae (aj gap))::(b11,4,[.bool o.isSome])::(b10,32,ae (aj (o.getD 0)))::H):=hS;refine J2 ?_;refine jh (ah Tryz.call108 rfl (hdiv _) ?_);rintro r w3 ⟨rfl,hB3⟩;replace hS:=hS.aG hB3;refine J4 ?_;intro b6 wz3 hS hBz3;refine J1 ?_;intro wz4 hS;refine V1 ?_;replace hS:St w0 _ ((b6,32,ae (aj s))::(b5,32,ae (aj rate))::(b4,32,ae (aj gap))::(b11,4,[.bool o.isSome])::(b10,32,ae (aj (o.getD 0)))::H):=hS;cases o with
 |none=>
  refine J3 ?_;refine bI (ak 16 kR rfl rfl) (bI (ak 16 kR rfl rfl) (bI (ak 16 kR rfl rfl) (bI (ak 16 kR rfl rfl) (jp (aZ (vb rfl rfl) rfl ?_)))));refine ja ?_;refine bZ rfl (rfl) ?_;refine J2 ?_;intro wz5 hS;refine jh (gl (k:=3) rfl rfl iN hS rfl dM rfl ?_);intro wz6 hS;refine ja ?_;exact iS rfl ⟨rfl,hS.drop ((List.sublist_cons_self _ _).trans ((List.sublist_cons_self _ _).trans (List.sublist_cons_self _ _)))⟩
 |some h=>
  refine J3 ?_;refine bW (ai 16 kR rfl rfl) (bT (k:=0) rfl aB hS rfl rfl rfl (.inl rfl) (bW (ai 16 kR rfl rfl) (bT (k:=4) rfl aB hS rfl rfl rfl (.inl rfl) (fB (ai 16 kR rfl rfl) (ah Tryz.call50 rfl (g8 (aj s) (aj h) _ (by rw[Lr_ofQ,Lr_ofQ];exact hL2)) ?_)))));rintro _ wc7 ⟨rfl,hBc7⟩;replace hS:=hS.aG hBc7;refine ax (ai 16 kR rfl rfl) (oE rfl rfl (jp (aZ (vb rfl rfl) rfl ?_)));refine ja ?_;rw[toQ_ofQ,toQ_ofQ];by_cases hlt:s<h
  ·refine bZ rfl ((AO _ _).trans (decide_eq_true hlt)) ?_;refine ja ?_;have e:Ai (some h) s=some s:=if_pos hlt;rw[e];refine J2 ?_;intro wz8 hS;refine jh (gl (k:=3) rfl rfl iN hS rfl dM rfl ?_);intro wz9 hS;refine ja ?_;exact iS rfl ⟨rfl,hS.drop ((List.sublist_cons_self _ _).trans ((List.sublist_cons_self _ _).trans (List.sublist_cons_self _ _)))⟩
  ·refine ct rfl ((AO _ _).trans (decide_eq_false hlt)) ?_;refine ja ?_;have e:Ai (some h) s=some h:=if_neg hlt;rw[e];exact iS rfl ⟨rfl,hS.drop ((List.sublist_cons_self _ _).trans ((List.sublist_cons_self _ _).trans (List.sublist_cons_self _ _)))⟩
end Go.Proofs.YtoeiejliehgopaaGreatDoor
