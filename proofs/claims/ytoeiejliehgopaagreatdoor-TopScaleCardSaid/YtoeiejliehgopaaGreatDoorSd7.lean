import Derived.Test.YtoeiejliehgopaaGreatDoorSd6
set_option maxRecDepth 20000
set_option maxHeartbeats 8000000
namespace Go.Proofs.YtoeiejliehgopaaGreatDoor
open Go Go.RowKit Go.Sx
def Mv (M:Mx) (n c:Nat):Prop:=(∀i,i<n->L (qP M c i)+L (M i c)<=MX)/\L (qP M c n)+1<=MX
theorem ID (p:Nat) (v:Value) (vs:List Value) (n:Nat) (M:Mx) (c:Nat) (w:World) (hp:At w ⟨p,0,none⟩ [v]) (hA:rJ j5 3 w v (ws n n (qM M)) vs) (hc:c<n) (hL:Mv M n c):
  lU Tryz.prog 100 #[.int .i64 c,.pointer (some ⟨p,0,none⟩)] w λu w'=>u= .bool (Gp M n c)/\Below w.heap.size w w':=by
 have hS:=St.init w;refine enter Tryz.func100 rfl Tryz.ntmps100 rfl ?_;refine Y1 ?_;refine jq (oB (v:=v) (cs:=[v]) rfl oT (hp.j4 hS.j4) rfl rfl (.inr rfl) ?_);refine J1 ?_;refine jh (j6 Tryz.call101 rfl (Qg v vs n n M c _ (hA.j4 hS.j4) hc hL.1 hL.2) ?_);rintro r w3 ⟨rfl,hB3⟩;replace hS:=hS.km hB3;refine J1 ?_;refine jt ?_;refine kB rfl rfl ?_;exact⟨rfl,hS.j4⟩
theorem Pr {C:List Nat} {f:Nat->Bool} {i:Nat} (hi:i<C.length) (h:(C.take i).any f=false):(f (C.getD i 0)=false->(C.take (i+1)).any f=false)/\(f (C.getD i 0)=true->C.any f=true):=by
 refine⟨λh1=> ?_,λh1=>dG.2 ⟨_,kE C i 0 hi,h1⟩⟩;rw[lE C i 0 hi,List.any_append,h,List.any_cons,h1];rfl
theorem I3 (p:Nat) (v vc:Value) (vs:List Value) (n:Nat) (M:Mx) (C:List Nat) (w:World) (hp:At w ⟨p,0,none⟩ [v]) (hA:rJ j5 3 w v (ws n n (qM M)) vs) (hc:Sl sK 1 w vc (nI C)) (hCn:∀c∈C,c<n) (hL:∀c,c<n->Mv M n c):
  lU Tryz.prog 137 #[vc,.func (.func 100) #[] #[.pointer (some ⟨p,0,none⟩)]] w λr w'=>(∃k:Int,r= .int .i64 k/\(0<=k↔C.any (Gp M n)=true))/\Below w.heap.size w w':=by
 have hmax:=hc.maxLen;have hnl:=rT C;rw[hnl]at hmax;have hS:=St.init w;refine enter Tryz.func137 rfl Tryz.ntmps137 rfl ?_;refine J2 ?_;refine jp (ki rfl (hc.j4 hS.j4) ⟨_,Tryz.underlying46⟩ ?_);refine V1 ?_;rw[hnl];refine ku (σ:=Nat) (λi ρ w'=>i<=C.length/\(C.take i).any (Gp M n)=false/\ρ 0=vc/\ρ 1= .func (.func 100) #[] #[.pointer (some ⟨p,0,none⟩)]/\ρ 7=iB C.length/\ρ 8=iB i/\St w w' []) (λi=>C.length-i) 0
  ⟨aB _,rfl,rfl,rfl,rfl,rfl,hS⟩ ?_
 clear hS;rintro i ρ w2 ⟨hi,hn,h0,h1,h7,h8,hS⟩;refine V1 ?_;by_cases hlt:i<C.length
 ·refine V1 ?_;obtain⟨t1,t2⟩:=Pr hlt hn;obtain⟨k,hk⟩:=jz (C.getD i 0);have hkn:k<n:=hCn k (by rw[hk];exact kE _ _ _ hlt);have hni:(nI C).getD i 0=(k:Int):=by unfold nI;rw[getD_map _ _ 0 _ hlt,hk]
  rw[<-hk]at t1 t2;refine J5 ?_;refine jp (kj (i:=i) rfl rfl (hc.j4 hS.j4) oO dO py (jq (kt (i:=i) 0 rfl nm (hc.j4 hS.j4) dO rfl rfl (.inr rfl) ?_)));rw[hni];refine jh (zF Tryz.call100 rfl rfl (ID p v vs n M k _ (hp.j4 hS.j4) (hA.j4 hS.j4) hkn (hL k hkn)) ?_);rintro r w3 ⟨rfl,hB3⟩;replace hS:=hS.km hB3;refine ja ?_;cases hb:Gp M n k with
  |true=>
   refine k9 rfl (rfl) ?_;refine J2 ?_;refine jt ?_;refine kB rfl rfl ?_;exact⟨⟨_,rfl,⟨λ_=>t2 hb,λ_=>oO⟩⟩,hS.j4⟩
  |false=>
   refine lx rfl (rfl) ?_;refine V2 ?_;exact⟨i+1,_,rfl,⟨hlt,t1 hb,h0,h1,h7,vi rfl oO,hS⟩,oO⟩
 ·refine J1 ?_;refine jt ?_;obtain rfl:i=C.length:=oO;rw[bR]at hn;refine J1 ?_;refine jt ?_;refine kB rfl rfl ?_;exact⟨⟨_,rfl,⟨λh=>oO,λh=>by rw[hn]at h;cases h⟩⟩,hS.j4⟩
theorem DC (p:Nat) (v vc:Value) (vs:List Value) (n:Nat) (M:Mx) (C:List Nat) (w:World) (hp:At w ⟨p,0,none⟩ [v]) (hA:rJ j5 3 w v (ws n n (qM M)) vs) (hc:Sl sK 1 w vc (nI C)) (hCn:∀c∈C,c<n) (hL:∀c,c<n->Mv M n c):
  lU Tryz.prog 99 #[vc,.func (.func 100) #[] #[.pointer (some ⟨p,0,none⟩)]] w λr w'=>r= .bool (C.any (Gp M n))/\Below w.heap.size w w':=by
 have hS:=St.init w;refine enter Tryz.func99 rfl Tryz.ntmps99 rfl ?_;refine J3 ?_;refine jh (j6 Tryz.call137 rfl (I3 p v vc vs n M C _ hp hA hc hCn hL) ?_);rintro r w3 ⟨⟨k,rfl,hk⟩,hB3⟩;replace hS:=hS.km hB3;refine J2 ?_;refine jt ?_;refine kB rfl rfl ?_;refine⟨bQ Value.bool ?_,hS.j4⟩;rw[gg,fI];exact hk
theorem Mf (vo:Value) (l:List Bool) (w:World) (ho:Sl nF 1 w vo l) (hl:l.length<=1000000):
  lU Tryz.prog 98 #[vo] w λr w'=>∃LO,Gl nF 4 1 r l LO/\St w w' ([]++LO):=by
 obtain⟨a,c,rfl,h1,h2,h3⟩:=ho.form;have hS:=St.init w;have hW:=hS.j4;refine enter Tryz.func98 rfl Tryz.ntmps98 rfl ?_;refine J2 ?_;refine jp (BG rfl rfl (ht:=⟨_,Tryz.underlying36⟩) ?_);refine ja ?_;cases a with
 |none=>
  refine k9 rfl (rfl) ?_;refine J1 ?_;refine jt ?_;refine kB rfl rfl ?_;have:=h3 rfl;obtain rfl:l=[]:=cH oO;exact⟨[],Gl.nil _ _ _,hS⟩
 |some a=>
  refine lx rfl (rfl) ?_;refine jr ?_;refine jh (O6 pT hS ?_);intro b5 wz1 hS hBz1;refine J1 ?_;refine jh (EI rfl rfl pT dD (H:=[]) (Gl.ON (z:=nF false) (n:=0) rfl dD) hS (ho.j4 hS.j4) mz (λu hu=>by obtain⟨b,_,hb⟩:=dQ.1 hu;rw[aZ.1 hb];rfl) (by simp;omega) (by simp;omega) ?_);intro va2 La2 wa2 hG hS hga2 hgu2;refine J1 ?_;refine jt ?_;refine kB rfl rfl ?_;exact⟨_,hG,hS⟩
inductive Pf (M:Mx) (n:Nat) (B:List Bool):Nat->Prop
 |base (j:Nat):B.getD j false=true->Pf M n B j
 |step (i j:Nat):Pf M n B i->i<n->j<n->0<M j i->Pf M n B j
def Xa (A B:List Bool):Prop:=∀k,A.getD k false=true->B.getD k false=true
def cf (B:List Bool):Nat:=B.count false
theorem P9:∀(B:List Bool) (j:Nat),j<B.length->B.getD j false=false->cf (B.set j true)<cf B
 | [],_,h,_=>absurd h (aW _)
 |b::B,0,_,h=>by
  have:b=false:=h;subst this;show List.count false (true::B)<List.count false (false::B);simp
 |b::B,j+1,h,hb=>by
  have:=P9 B j (by simpa using h) (by simpa using hb);show List.count false (b::B.set j true)<List.count false (b::B);unfold cf at this;rw[List.count_cons,List.count_cons];omega
structure RI (M:Mx) (n:Nat) (A B:List Bool):Prop where
 len:B.length=n
 le:Xa A B
 rea:∀k,B.getD k false=true->Pf M n A k
structure PI (M:Mx) (n:Nat) (B C:List Bool) (ch:Bool) (j i:Nat):Prop where
 no:ch=false->C=B/\∀a b,(a<j\/a=j/\b<i)->a<n->b<n->B.getD b false=true->0<M a b->B.getD a false=true
 yes:ch=true->cf C<cf B
theorem RI.set {M:Mx} {n:Nat} {A B:List Bool} (h:RI M n A B) {i j:Nat} (hi:i<n) (hj:j<n) (hb:B.getD i false=true) (hm:0<M j i):RI M n A (B.set j true):=by
 have hl:j<B.length:=by rw[h.len];exact hj
 refine⟨by rw[ce];exact h.len,λk hk=> ?_,λk hk=> ?_⟩
 ·rw[ni _ _ _ hl];split
  ·rfl
  ·exact h.le k hk
 ·rw[ni _ _ _ hl]at hk;by_cases e:k=j
  ·rw[e];exact .step i j (h.rea i hb) hi hj hm
  ·rw[ah e]at hk;exact h.rea k hk
theorem PI.set {M:Mx} {n:Nat} {B C:List Bool} {ch:Bool} {i j:Nat} (h:PI M n B C ch j i) (hj:j<C.length) (hb:C.getD j false=false):PI M n B (C.set j true) true j (i+1):=by
 refine⟨(by intro e;cases e),λ_=> ?_⟩;have h1:=P9 C j hj hb;cases ch with
 |true=>have:=h.yes rfl;omega
 |false=>rw[(h.no rfl).1]at h1⊢;exact h1
theorem PI.skip {M:Mx} {n:Nat} {B C:List Bool} {ch:Bool} {i j:Nat} (h:PI M n B C ch j i) (hb:C.getD i false=true->0<M j i->C.getD j false=true):PI M n B C ch j (i+1):=by
 refine⟨λe=> ?_,h.yes⟩;obtain⟨h1,h2⟩:=h.no e;refine⟨h1,λa b hab ha hbn g1 g2=> ?_⟩;by_cases e2:a=j/\b=i
 ·rw[e2.1,e2.2]at g2;rw[e2.2]at g1;rw[e2.1];rw[h1]at hb;exact hb g1 g2
 ·exact h2 a b oO ha hbn g1 g2
theorem PI.row {M:Mx} {n:Nat} {B C:List Bool} {ch:Bool} {j:Nat} (h:PI M n B C ch j n):PI M n B C ch (j+1) 0:=by
 refine⟨λe=> ?_,h.yes⟩;obtain⟨h1,h2⟩:=h.no e;exact⟨h1,λa b hab ha hbn g1 g2=>h2 a b oO ha hbn g1 g2⟩
theorem Jx {M:Mx} {n:Nat} {A B:List Bool} (h:RI M n A B) (hc:∀a b,a<n->b<n->B.getD b false=true->0<M a b->B.getD a false=true) {k:Nat} (hk:Pf M n A k):B.getD k false=true:=by
 induction hk with
 |base j hj=>exact h.le j hj
 |step i j _ hi hj hm ih=>exact hc j i hj hi ih hm
theorem OX (v vf:Value) (vs:List Value) (n:Nat) (M:Mx) (A:List Bool) (w:World) (hA:rJ j5 3 w v (ws n n (qM M)) vs) (hf:Sl nF 1 w vf A) (hfl:A.length=n) (hn:n<=1000) (hL:∀i,i<n->∀j,j<n->L (M i j)<=MX):
  lU Tryz.prog 57 #[v,vf] w λr w'=>∃B LO,Gl nF 4 1 r B LO/\B.length=n/\(∀k,B.getD k false=true↔Pf M n A k)/\St w w' LO:=by
 have hS:=St.init w;have hmx:=hA.sl.maxLen;have hlen:=hA.len;rw[mQ]at hlen;refine enter Tryz.func57 rfl Tryz.ntmps57 rfl ?_;refine J2 ?_;refine jh (j6 Tryz.call98 rfl (Mf vf A _ (hf.j4 hS.j4) oO) ?_);rintro r w3 ⟨LC,hG,hS3⟩;replace hS:=hS.join hS3;rw[aU]at hS;obtain⟨a5,c5,rfl⟩:=hG.len;rw[hfl];refine J2 ?_;refine jb ?_;refine kx (λρ w'=>∃B LO,ρ 5= .slice a5 n c5/\Gl nF 4 1 (.slice a5 n c5) B LO/\B.length=n/\(∀k,B.getD k false=true↔Pf M n A k)/\St w w' ([]++LO)) ?_ ?_
 ·refine ja ?_;refine ku (σ:=List Bool×Bool) (λs ρ w'=>RI M n A s.1/\(s.2=false->∀a b,a<n->b<n->s.1.getD b false=true->0<M a b->s.1.getD a false=true)/\ρ 0=v/\ρ 5= .slice a5 n c5/\ρ 6= .bool s.2/\∃LO,Gl nF 4 1 (.slice a5 n c5) s.1 LO/\St w w' ([]++LO)) (λs=>2*cf s.1+(bif s.2 then 1 else 0)) (A,true)
   ⟨⟨hfl,λk h=>h,λk h=> .base k h⟩,(by intro e;cases e),rfl,rfl,rfl,LC,hfl▸hG,hS⟩ ?_
  clear hS hS3 hG;rintro⟨B,ch⟩ ρ w2 ⟨hRI,hcl,h0,h5,h6,LO,hG,hS⟩;dsimp only at hRI hcl h6 hG;refine V1 ?_;cases ch with
  |false=>
   refine lx rfl (rfl) ?_;refine jt ?_;exact⟨_,rfl,B,LO,h5,hG,hRI.len,λk=>⟨hRI.rea k,λh=>Jx hRI (hcl rfl) h⟩,hS⟩
  |true=>
   refine k9 rfl (rfl) ?_;refine J2 ?_;refine jp (ki rfl (hA.sl.j4 hS.j4) ⟨_,Tryz.underlying35⟩ ?_);refine J1 ?_;refine jb ?_;rw[hlen];refine kx (λρ w'=>∃C ch,ρ 0=v/\ρ 5= .slice a5 n c5/\ρ 6= .bool ch/\RI M n A C/\PI M n B C ch n 0/\∃LO,Gl nF 4 1 (.slice a5 n c5) C LO/\St w w' ([]++LO)) ?_ ?_
   ·refine ja ?_;refine ku (σ:=Nat) (λj ρ w'=>j<=n/\ρ 0=v/\ρ 5= .slice a5 n c5/\ρ 14=v/\ρ 15=iB n/\ρ 16=iB j/\∃C ch,ρ 6= .bool ch/\RI M n A C/\PI M n B C ch j 0/\∃LO,Gl nF 4 1 (.slice a5 n c5) C LO/\St w w' ([]++LO)) (λj=>n-j) 0
     ⟨aB _,jY,jY,rfl,rfl,rfl,B,false,rfl,hRI,⟨λ_=>⟨rfl,λa b h=>absurd h oO⟩,by intro e;cases e⟩,LO,hG,hS⟩ ?_
    clear hS hG;rintro j ρ w3 ⟨hj,h0,h5,h14,h15,h16,C,ch,h6,hRI,hPI,LO,hG,hS⟩;refine V1 ?_;by_cases hlt:j<n
    ·refine V1 ?_;have hrow:=hA.row j (by rw[mQ];exact hlt);rw[pD _ hlt]at hrow;have htl:=j9 n (qM M j);obtain⟨vr,hvr⟩:=jz (vs.getD j undef);rw[<-hvr]at hrow;refine J1 ?_;refine jp (kj (i:=j) h14 h16 (hA.sl.j4 hS.j4) oO dO lH (jq (kt (i:=j) undef rfl lQ (hA.sl.j4 hS.j4) dO rfl rfl (.inr rfl) ?_)));refine V2 ?_;rw[<-hvr];refine jr ?_;refine jp (ko rfl (jp (ki rfl (hrow.j4 hS.j4) ⟨_,Tryz.underlying34⟩ ?_)));refine J1 ?_;refine jb ?_;rw[htl];refine kx (λρ w'=>ρ 0=v/\ρ 5= .slice a5 n c5/\ρ 14=v/\ρ 15=iB n/\ρ 16=iB j/\∃C ch,ρ 6= .bool ch/\RI M n A C/\PI M n B C ch j n/\∃LO,Gl nF 4 1 (.slice a5 n c5) C LO/\St w w' ([]++LO)) ?_ ?_
     ·refine ja ?_;refine ku (σ:=Nat) (λi ρ w'=>i<=n/\ρ 0=v/\ρ 5= .slice a5 n c5/\ρ 7=iB j/\ρ 14=v/\ρ 15=iB n/\ρ 16=iB j/\ρ 21=vr/\ρ 22=iB n/\ρ 23=iB i/\∃C ch,ρ 6= .bool ch/\RI M n A C/\PI M n B C ch j i/\∃LO,Gl nF 4 1 (.slice a5 n c5) C LO/\St w w' ([]++LO)) (λi=>n-i) 0
       ⟨aB _,jY,jY,rfl,jY,jY,jY,rfl,rfl,rfl,C,ch,jY,hRI,hPI,LO,hG,hS⟩ ?_
      clear hS hG hRI hPI h6;rintro i ρ w4 ⟨hi,h0,h5,h7,h14,h15,h16,h21,h22,h23,C,ch,h6,hRI,hPI,LO,hG,hS⟩;have hCl:=hRI.len;refine V1 ?_;by_cases hil:i<n
      ·refine V1 ?_;have hg:(ky n (qM M j)).getD i kP=j8 (M j i):=kz _ _ hil;refine J1 ?_;refine jp (kj (i:=i) h21 h23 (hrow.j4 hS.j4) oO dO kK (jq (kt (i:=i) kP rfl kf (hrow.j4 hS.j4) dO rfl rfl (.inl rfl) ?_)));refine J1 ?_;intro b10 wz1 hS hBz1;refine J2 ?_;intro wz2 hS;refine ja ?_;rw[hg]at hS;replace hS:St w _ ([(b10,32,j5 (j8 (M j i)))]++LO):=hS;by_cases hbi:C.getD i false=true
       ·by_cases hbj:C.getD j false=true
        ·refine J2 ?_;refine jp (kj (i:=i) rfl rfl (hG.sl hS mz) oO dO pT (jq (kt (i:=i) false rfl p9 (hG.sl hS mz) dO rfl rfl (.inr rfl) ?_)));refine J1 ?_;refine ke (j7 32 kR rfl hbi) (ko h5 (ke (j7 32 kR rfl hbi) (ko h7 (ke (j7 32 kR rfl hbi) (kj (i:=j) rfl rfl (hG.sl hS mz) oO dO pT (lj (j7 32 kR rfl hbi) (kt (i:=j) false rfl p9 (hG.sl hS mz) dO rfl rfl (.inr rfl) (ke (j7 32 kR rfl hbi) (xU rfl (jp (kA (vb rfl hbi) rfl ?_)))))))))));refine J1 ?_;refine kL (ka 39 kR rfl (bQ not hbj)) (kL (ka 39 kR rfl (bQ not hbj)) (kL (ka 39 kR rfl (bQ not hbj)) (jp (kA (vb rfl (bQ not hbj)) rfl ?_))));refine ja ?_;refine lx rfl (rfl) ?_;refine V2 ?_;exact⟨i+1,_,rfl,⟨hil,jY,jY,jY,jY,jY,jY,jY,jY,vi rfl oO,C,ch,jY,hRI,hPI.skip λ_ _=>hbj,LO,hG,hS.drop (ab _ _)⟩,oO⟩
        ·have hbj':C.getD j false=false:=by simpa using hbj
         refine J2 ?_;refine jp (kj (i:=i) rfl rfl (hG.sl hS mz) oO dO pT (jq (kt (i:=i) false rfl p9 (hG.sl hS mz) dO rfl rfl (.inr rfl) ?_)));refine J1 ?_;refine ke (j7 32 kR rfl hbi) (ko h5 (ke (j7 32 kR rfl hbi) (ko h7 (ke (j7 32 kR rfl hbi) (kj (i:=j) rfl rfl (hG.sl hS mz) oO dO pT (lj (j7 32 kR rfl hbi) (kt (i:=j) false rfl p9 (hG.sl hS mz) dO rfl rfl (.inr rfl) (ke (j7 32 kR rfl hbi) (xU rfl (jp (kA (vb rfl hbi) rfl ?_)))))))))));refine J1 ?_;refine lj (j7 39 kR rfl (bQ not hbj')) (kO (k:=0) rfl kf hS rfl rfl rfl (.inl rfl) (pj (j7 39 kR rfl (bQ not hbj')) (j6 Tryz.call80 rfl (sb (j8 (M j i)) _ (by rw[Lr_ofQ];exact hL j hlt i hil)) ?_)));rintro _ wc3 ⟨rfl,hBc3⟩;replace hS:=hS.km hBc3;refine ke (j7 39 kR rfl (bQ not hbj')) (t5 rfl rfl (jp (kA (vb rfl (bQ not hbj')) rfl ?_)));refine ja ?_;rw[toQ_ofQ];by_cases hm:0<M j i
         ·refine k9 rfl (ao (ny.2 hm)) ?_;refine J2 ?_;refine jp (kj (i:=j) rfl rfl (hG.sl hS mz) oO dO pT (jh (tD (i:=j) true mz rfl rfl p9 hG hS oO rfl rfl ?_)));intro wz4 hS;refine V1 ?_;obtain⟨LC2,hG,hS⟩:=hS;refine V2 ?_;exact⟨i+1,_,rfl,⟨hil,jY,jY,jY,jY,jY,jY,jY,jY,vi rfl oO,_,true,rfl,hRI.set hil hlt hbi hm,hPI.set (by rw[hCl];exact hlt) hbj',_,hG,hS.drop (ab _ _)⟩,oO⟩
         ·refine lx rfl (ae (λg=>hm (ny.1 g))) ?_;refine V2 ?_;exact⟨i+1,_,rfl,⟨hil,jY,jY,jY,jY,jY,jY,jY,jY,vi rfl oO,C,ch,jY,hRI,hPI.skip λ_ g=>absurd g hm,LO,hG,hS.drop (ab _ _)⟩,oO⟩
       ·have hbi':C.getD i false=false:=by simpa using hbi
        refine J2 ?_;refine jp (kj (i:=i) rfl rfl (hG.sl hS mz) oO dO pT (jq (kt (i:=i) false rfl p9 (hG.sl hS mz) dO rfl rfl (.inr rfl) ?_)));refine J1 ?_;refine kL (ka 32 kR rfl hbi') (kL (ka 32 kR rfl hbi') (kL (ka 32 kR rfl hbi') (kL (ka 32 kR rfl hbi') (kL (ka 32 kR rfl hbi') (jp (kA (vb rfl hbi') rfl ?_))))));refine J1 ?_;refine kL (ka 39 kR rfl rfl) (kL (ka 39 kR rfl rfl) (kL (ka 39 kR rfl rfl) (jp (kA (vb rfl rfl) rfl ?_))));refine ja ?_;refine lx rfl (rfl) ?_;refine V2 ?_;exact⟨i+1,_,rfl,⟨hil,jY,jY,jY,jY,jY,jY,jY,jY,vi rfl oO,C,ch,jY,hRI,hPI.skip λg _=>absurd g hbi,LO,hG,hS.drop (ab _ _)⟩,oO⟩
      ·refine J1 ?_;refine jt ?_;obtain rfl:i=n:=oO;exact⟨_,rfl,h0,h5,h14,h15,h16,C,ch,h6,hRI,hPI,LO,hG,hS⟩
     clear hS hG hRI hPI h6;rintro ρ w4 ⟨h0,h5,h14,h15,h16,C,ch,h6,hRI,hPI,LO,hG,hS⟩;refine V2 ?_;exact⟨j+1,_,rfl,⟨hlt,jY,jY,jY,jY,vi rfl oO,C,ch,jY,hRI,hPI.row,LO,hG,hS⟩,oO⟩
    ·refine J1 ?_;refine jt ?_;obtain rfl:j=n:=oO;exact⟨_,rfl,C,ch,h0,h5,h6,hRI,hPI,LO,hG,hS⟩
   clear hS hG hRI h6;rintro ρ w3 ⟨C,ch,h0,h5,h6,hRI,hPI,LO,hG,hS⟩;refine⟨(C,ch),_,rfl,⟨hRI,λe=> ?_,h0,h5,h6,LO,hG,hS⟩,?_⟩
   ·obtain⟨e1,e2⟩:=hPI.no e;dsimp only;rw[e1];exact λa b ha hb=>e2 a b (.inl ha) ha hb
   ·cases ch with
    |true=>
     have:=hPI.yes rfl;show 2*cf C+1<2*cf B+1;omega
    |false=>
     rw[(hPI.no rfl).1];show 2*cf B+0<2*cf B+1;omega
 clear hS hG;rintro ρ w2 ⟨B,LO,h5,hG,hBl,hB,hS⟩;refine J2 ?_;refine jt ?_;refine kB rfl rfl ?_;exact⟨B,LO,hG,hBl,hB,hS⟩
noncomputable def SK (M:Mx) (n:Nat) (A:List Bool):List Bool:=ky n λk=> @decide (Pf M n A k) (Classical.propDecidable _)
theorem JR (M:Mx) (n:Nat) (A:List Bool) {k:Nat} (hk:k<n):(SK M n A).getD k false=true↔Pf M n A k:=by
 unfold SK;rw[kz _ _ hk];exact @fI _ (Classical.propDecidable _)
theorem Uo {M:Mx} {n:Nat} {A B:List Bool} (hl:B.length=n) (h:∀k,B.getD k false=true↔Pf M n A k):B=SK M n A:=by
 rw[Je B false,hl];unfold SK;refine kF λk _=> ?_;rw[gg,h k];exact(@fI _ (Classical.propDecidable _)).symm
def xb (n i:Nat):List Bool:=(List.replicate n false).set i true
noncomputable def to (M:Mx) (n i:Nat):List Nat:=tO (SK M n (xb n i)) n
theorem uL {B:List Bool} {k i:Nat}:i∈tO B k↔i<k/\B.getD i false=true:=by
 unfold tO;rw[dV,cW]
theorem Ee {n i:Nat} (hi:i<n) (k:Nat):(xb n i).getD k false=true↔k=i:=by
 unfold xb;rw[ni _ _ _ (by rw[eP];exact hi)];by_cases e:k=i
 ·simp[e]
 ·rw[ah e,ap,gm];by_cases g:k<n
  ·simp[g,e]
  ·simp[g,e]
theorem tc {M:Mx} {n i k:Nat}:k∈to M n i↔k<n/\Pf M n (xb n i) k:=by
 unfold to;rw[uL];constructor
 ·rintro⟨h1,h2⟩;exact⟨h1,(JR _ _ _ h1).1 h2⟩
 ·rintro⟨h1,h2⟩;exact⟨h1,(JR _ _ _ h1).2 h2⟩
theorem Om {M:Mx} {n i:Nat} (hi:i<n):i∈to M n i:=tc.2 ⟨hi,.base i ((Ee hi i).2 rfl)⟩
theorem NR {M:Mx} {n i:Nat} (hi:i<n):to M n i≠ []:=λe=>by have:=Om (M:=M) hi;rw[e]at this;cases this
noncomputable def qe (M:Mx) (n:Nat) (F:List Bool):Nat->List Nat
 |0=>[]
 |k+1=>if F.getD k false=true/\(to M n k).any (Gp M n)=false/\(qe M n F k=[]\/(to M n k).length<(qe M n F k).length)then to M n k else qe M n F k
theorem zY (M:Mx) (n:Nat) (F:List Bool):∀k,(qe M n F k).length<=n
 |0=>aB _
 |k+1=>by
  unfold qe;split
  ·exact z7 _ _
  ·exact zY M n F k
theorem Mr (v vf:Value) (vs:List Value) (n:Nat) (M:Mx) (F:List Bool) (w:World) (hA:rJ j5 3 w v (ws n n (qM M)) vs) (hf:Sl nF 1 w vf F) (hfl:F.length=n) (hn:n<=1000) (hL:∀i,i<n->∀j,j<n->L (M i j)<=MX) (hk:∀c,c<n->Mv M n c):
  lU Tryz.prog 59 #[v,vf] w λr w'=>∃LO,Gl sK 3 1 r (nI (qe M n F n)) LO/\(qe M n F n=[]->r=kd)/\St w w' LO:=by
 have hS:=St.init w;have hmx:=hA.sl.maxLen;have hlen:=hA.len;rw[mQ]at hlen;obtain⟨a0,c0,hv,_⟩:=hA.sl.form;subst hv;rw[hlen]at hA⊢;refine enter Tryz.func59 rfl Tryz.ntmps59 rfl ?_;refine jr ?_;refine jh (kZ rfl rfl hS ?_);intro b2 wz1 hS hBz1;refine V1 ?_;replace hS:St w _ ([(b2,35,[.slice a0 n c0])]++[]):=hS;refine J2 ?_;refine jp (ki rfl (hf.j4 hS.j4) ⟨_,Tryz.underlying36⟩ ?_);refine J1 ?_;refine jb ?_;rw[hfl];refine kx (λρ w'=>∃vb LB,ρ 5=vb/\Gl sK 3 1 vb (nI (qe M n F n)) LB/\(qe M n F n=[]->vb=kd)/\St w w' ([(b2,35,[.slice a0 n c0])]++LB)) ?_ ?_
 ·refine ja ?_;refine ku (σ:=Nat) (λi ρ w'=>i<=n/\ρ 1=vf/\ρ 2=pB b2/\ρ 10=vf/\ρ 11=iB n/\ρ 12=iB i/\∃vb LB,ρ 5=vb/\Gl sK 3 1 vb (nI (qe M n F i)) LB/\(qe M n F i=[]->vb=kd)/\St w w' ([(b2,35,[.slice a0 n c0])]++LB)) (λi=>n-i) 0
   ⟨aB _,rfl,rfl,rfl,rfl,rfl,kd,[],rfl,Gl.nil _ _ _,λ_=>rfl,hS⟩ ?_
  clear hS;rintro i ρ w2 ⟨hi,h1,h2,h10,h11,h12,vb,LB,h5,hG,hnil,hS⟩;refine V1 ?_;by_cases hlt:i<n
  ·refine J2 ?_;refine jp (kj (i:=i) h10 h12 (hf.j4 hS.j4) oO dO pT (jq (kt (i:=i) false rfl p9 (hf.j4 hS.j4) dO rfl rfl (.inr rfl) ?_)));refine V4 ?_;cases hF:F.getD i false with
   |false=>
    refine k9 rfl (rfl) ?_;refine jt ?_;have e:qe M n F (i+1)=qe M n F i:=by
     show(if _ then _ else _)=_;rw[ah (by rw[hF];rintro⟨h,_⟩;cases h)]
    refine V2 ?_;refine⟨i+1,_,rfl,⟨hlt,jY,jY,jY,jY,vi rfl oO,vb,LB,jY,?_⟩,oO⟩;rw[e];exact⟨hG,hnil,hS⟩
   |true=>
    refine lx rfl (rfl) ?_;refine J1 ?_;refine jp (ki rfl (hf.j4 hS.j4) ⟨_,Tryz.underlying36⟩ (jh (lR (enc:=nF) (n:=n) false rfl rfl pT rfl oO oO oO oO hS ?_)));intro b21 wz2 hS hBz2;refine V1 ?_;replace hS:St w _ ((b21,4,(List.replicate n false).flatMap nF)::([(b2,35,[.slice a0 n c0])]++LB)):=hS;refine J2 ?_;refine jp (kD (i:=i) rfl rfl oO dO pT ?_);refine jh (zp (k:=0) (i:=i) (enc:=nF) true (λ_=>rfl) rfl rfl p9 hS rfl (by first|omega|simp) dO rfl rfl ?_);intro wz3 hS;refine ja ?_;replace hS:St w _ ((b21,4,(xb n i).flatMap nF)::([(b2,35,[.slice a0 n c0])]++LB)):=hS;have hul:(xb n i).length=n:=by unfold xb;rw[ce,eP]
    have hU:=hS.sle (k:=0) (n:=n) (cap:=n) rfl mz oO oO oO;rw[aV oO]at hU;have hAW:=hA.j4 hS.j4;refine J2 ?_;refine jh (j6 Tryz.call57 rfl (OX (.slice a0 n c0) _ vs n M (xb n i) _ hAW hU hul hn hL) ?_);rintro r w3 ⟨B,LR,hGR,hBl,hB,hS3⟩;obtain rfl:=Uo hBl hB;replace hS:=hS.join hS3;refine jh (j6 Tryz.call62 rfl (Lu r _ _ (hGR.sl (H:=[]) hS3 mz) oO) ?_);rintro r2 w4 ⟨LC,hGC,hS4⟩;rw[hBl]at hGC;replace hGC:Gl sK 3 1 r2 (nI (to M n i)) LC:=hGC;replace hS:=hS.join hS4;replace hS:=(hS.drop (bn (bK LC) ((ab _ _).trans (ai LR _)))).perm aF;refine V1 ?_;have hC:=hGC.sl (H:=[]) hS4 (λ_=>rfl);have hcl:=z7 (SK M n (xb n i)) n;have hbl:=zY M n F i;have hAW2:=hA.j4 hS.j4;have hcn:∀c∈to M n i,c<n:=λc hc=>(tc.1 hc).1;have hcne:=NR (M:=M) hlt;replace hcl:(to M n i).length<=n:=hcl;obtain⟨C,hCd⟩:=jz (to M n i);obtain⟨D,hDd⟩:=jz (qe M n F i);have hbs:qe M n F (i+1)=if F.getD i false=true/\C.any (Gp M n)=false/\(D=[]\/C.length<D.length)then C else D:=by rw[hCd,hDd];rfl
    rw[<-hDd]at hG hbl hnil;rw[<-hCd]at hcl hcn hcne hGC hC;have hnC:=rT C;have hnD:=rT D;obtain⟨a9,c9,hr2⟩:=hGC.len;rw[hnC]at hr2;subst hr2;replace hS:St w _ (([(b2,35,[.slice a0 n c0])]++LB)++LC):=hS;refine ja ?_;refine nc (λρ'=>ρ' 1=vf/\ρ' 2= .pointer (some ⟨b2,0,none⟩)/\ρ' 5=vb/\ρ' 9= .slice a9 C.length c9/\ρ' 10=vf/\ρ' 11= .int .i64 n/\ρ' 12= .int .i64 i/\True) ⟨h1,h2,h5,rfl,h10,h11,h12,trivial⟩ ?_;rintro ρk4 ⟨hk4_1,hk4_2,hk4_5,hk4_9,hk4_10,hk4_11,hk4_12,-⟩;refine J1 ?_;refine jp (Qj hk4_2 (jh (j6 Tryz.call99 rfl (DC b2 (.slice a0 n c0) _ vs n M C _ (hS.at (k:=0) rfl 0 1) hAW2 hC hcn hk) ?_)));rintro r3 w5 ⟨rfl,hB5⟩;replace hS:=hS.km hB5;refine ja ?_;cases hlk:C.any (Gp M n)with
    |true=>
     refine k9 rfl (rfl) ?_;refine jt ?_;rw[ah (by rw[hlk];rintro⟨_,h,_⟩;cases h)]at hbs;refine V2 ?_;refine⟨i+1,_,rfl,⟨hlt,jY,jY,jY,jY,vi rfl oO,vb,LB,jY,?_⟩,oO⟩;rw[hbs];exact⟨hG,hnil,hS.drop (ak _ _)⟩
    |false=>
     refine lx rfl (rfl) ?_;refine ja ?_;have hSC:St w _ ([(b2,35,[.slice a0 n c0])]++LC):=hS.drop (bn (ak _ _) (bK _));by_cases hD:D=[]
     ·obtain rfl:=hnil hD;refine J1 ?_;refine jp (BG rfl rfl (ht:=⟨_,Tryz.underlying46⟩) ?_);refine J1 ?_;refine kL (ka 34 kR rfl rfl) (kL (ka 34 kR rfl rfl) (kL (ka 34 kR rfl rfl) (kL (ka 34 kR rfl rfl) (kL (ka 34 kR rfl rfl) (jp (kA (vb rfl rfl) rfl ?_))))));refine ja ?_;refine k9 rfl (rfl) ?_;refine V4 ?_;rw[aj ⟨hF,hlk,.inl hD⟩]at hbs;refine⟨i+1,_,rfl,⟨hlt,jY,jY,jY,jY,vi rfl oO,_,LC,rfl,?_⟩,oO⟩;rw[hbs];exact⟨hGC,λe=>absurd e hcne,hSC⟩
     ·have hvb:∃b cap,vb= .slice (some ⟨b,0,none⟩) D.length cap:=by
       obtain⟨_,⟨_,h2,_⟩|⟨b,cap,_,h1,_⟩⟩:=hG
       ·exact absurd (gl.1 (by rw[<-hnD,h2])) hD
       ·exact⟨b,cap,by rw[h1,hnD]⟩
      obtain⟨bb,cb,rfl⟩:=hvb;refine J1 ?_;refine jp (BG rfl rfl (ht:=⟨_,Tryz.underlying46⟩) ?_);refine J1 ?_;refine ke (j7 34 kR rfl rfl) (ko hk4_9 (ke (j7 34 kR rfl rfl) (oc rfl ⟨_,Tryz.underlying46⟩ (ke (j7 34 kR rfl rfl) (ko hk4_5 (ke (j7 34 kR rfl rfl) (oc rfl ⟨_,Tryz.underlying46⟩ (ke (j7 34 kR rfl rfl) (wm rfl rfl (jp (kA (vb rfl rfl) rfl ?_)))))))))));refine ja ?_;by_cases hlt2:C.length<D.length
      ·refine V5 ?_;rw[aj ⟨hF,hlk,.inr hlt2⟩]at hbs;refine⟨i+1,_,rfl,⟨hlt,jY,jY,jY,jY,vi rfl oO,_,LC,rfl,?_⟩,oO⟩;rw[hbs];exact⟨hGC,λe=>absurd e hcne,hSC⟩
      ·refine V3 ?_;rw[ah (by rintro⟨_,_,h|h⟩<;>contradiction)]at hbs;refine⟨i+1,_,rfl,⟨hlt,jY,jY,jY,jY,vi rfl oO,_,LB,jY,?_⟩,oO⟩;rw[hbs];exact⟨hG,hnil,hS.drop (ak _ _)⟩
  ·refine J1 ?_;refine jt ?_;obtain rfl:i=n:=oO;exact⟨_,rfl,vb,LB,h5,hG,hnil,hS⟩
 clear hS;rintro ρ w2 ⟨vb,LB,h5,hG,hnil,hS⟩;refine J2 ?_;refine jt ?_;refine kB rfl rfl ?_;exact⟨LB,hG,hnil,hS.drop (ai _ _)⟩
def pQ (q:Rat):Rat:=Dy q 0
theorem G6 (q:Rat):L (pQ q)<=L q+1:=by
 unfold pQ Dy;split
 ·omega
 ·rw[nW];omega
theorem od (q:Rat) (w:World) (hq:L q+2<=MX):
  lU Tryz.prog 91 #[kW (j8 q)] w λr w'=>r=kW (j8 (pQ q))/\Below w.heap.size w w':=by
 have hS:=St.init w;have h0:=nW;refine enter Tryz.func91 rfl Tryz.ntmps91 rfl ?_;refine jr ?_;refine jh (kZ (new:=j5 (j8 q)) rfl rfl hS ?_);intro b1 wz1 hS hBz1;refine J1 ?_;intro b2 wz2 hS hBz2;refine J1 ?_;refine jp (kT rfl px (jh (j6 Tryz.call52 rfl (Ft (j8 q) kP _ (by rw[Lr_ofQ,o6,Lr_ofQ];omega)) ?_)));rintro r w2 ⟨rfl,hB2⟩;rw[o6,toQ_ofQ,toQ_ofQ];replace hS:=hS.km hB2;refine J1 ?_;intro wz3 hS;refine jt ?_;refine mb (k:=0) rfl rfl kf hS rfl rfl ?_;exact⟨rfl,hS.j4⟩
def nY (q:Nat->Rat) (k:Nat):Rat:=kg (λj=>pQ (q j)) k
def wu (W:Rat) (q:Nat->Rat):Nat->Rat
 |0=>0
 |k+1=>pQ (nY q (k+1)-pQ W)
def tJ (W:Rat) (q:Nat->Rat) (k:Nat):Rat:=wu W q (k+1)-wu W q k
def we (f:Nat->Rat) (i k:Nat):Rat:=if k<i then f k else 0
theorem vO (f:Nat->Rat) (n i:Nat):(ky n λk=>j8 (we f i k)).set i (j8 (f i))=ky n λk=>j8 (we f (i+1) k):=Bu n (we f i) (we f (i+1)) i (f i) (λk _=>by
 unfold we;by_cases e:k=i
 ·rw[aj e,aj oO,e]
 ·rw[ah e];by_cases e2:k<i
  ·rw[aj e2,aj oO]
  ·rw[ah e2,ah oO])
theorem vB (f:Nat->Rat) (n:Nat):(ky n λk=>j8 (we f n k))=ky n λk=>j8 (f k):=kF λk hk=>by unfold we;rw[aj hk]
theorem JE (va:Value) (n:Nat) (W:Rat) (q:Nat->Rat) (K:Nat) (w:World) (ha:Sl j5 3 w va (ky n λk=>j8 (q k))) (hn:n<=1000) (hW:L W<=K) (hq:∀k,k<n->L (q k)<=K) (hs:∀k,k<=n->L (nY q k)<=K) (hK:8*K+20<=MX):
  lU Tryz.prog 53 #[kW (j8 W),va] w λr w'=>∃LO,Gl j5 32 3 r (ky n λk=>j8 (tJ W q k)) LO/\St w w' LO:=by
 have hS:=St.init w;have hla:=j9 n λk=>j8 (q k);have hz:j5 kP=j5 (j8 (wu W q 0)):=by rw[lz];rfl
 have hpW:=G6 W;refine enter Tryz.func53 rfl Tryz.ntmps53 rfl ?_;refine jr ?_;refine jh (kZ (new:=j5 (j8 W)) rfl rfl hS ?_);intro b2 wz1 hS hBz1;refine J2 ?_;refine jp (ki rfl (ha.j4 hS.j4) ⟨_,Tryz.underlying34⟩ (jh (lR (enc:=j5) (n:=n) kP rfl rfl kK rfl oO oO oO oO hS ?_)));intro b13 wz2 hS hBz2;refine Y1 ?_;refine jp (kT rfl px (jp (kT rfl px ?_)));refine J1 ?_;intro b6 wz3 hS hBz3;refine J1 ?_;intro b7 wz4 hS hBz4;refine J1 ?_;intro wz5 hS;refine J1 ?_;intro wz6 hS;refine ja ?_;replace hS:St w _ ((b7,32,j5 kP)::(b6,32,j5 kP)::(b13,32,(List.replicate n kP).flatMap j5)::[(b2,32,j5 (j8 W))]):=hS;rw[hz,lB]at hS;replace hS:St w _ ([(b7,32,j5 (j8 (wu W q 0))),(b6,32,j5 (j8 (nY q 0))),(b2,32,j5 (j8 W))]++[(b13,32,(ky n λk=>j8 (yR.c k)).flatMap j5)]):=hS.perm (List.Perm.cons _ (List.Perm.cons _ (List.Perm.swap _ _ _)));have hG:Gl j5 32 3 (.slice (some ⟨b13,0,none⟩) n n) (ky n λk=>j8 (we (tJ W q) 0 k)) [(b13,32,(ky n λk=>j8 (we (tJ W q) 0 k)).flatMap j5)]:=pK (j9 _ _) oO;refine J1 ?_;refine jp (ki rfl (ha.j4 hS.j4) ⟨_,Tryz.underlying34⟩ ?_);refine J1 ?_;refine jb ?_;rw[hla];refine kx (λρ w'=>∃LO,ρ 5= .slice (some ⟨b13,0,none⟩) n n/\Gl j5 32 3 (.slice (some ⟨b13,0,none⟩) n n) (ky n λk=>j8 (tJ W q k)) LO/\St w w' LO) ?_ ?_
 ·refine ja ?_;refine ku (σ:=Nat) (λi ρ w'=>i<=n/\ρ 2=pB b2/\ρ 5= .slice (some ⟨b13,0,none⟩) n n/\ρ 6=pB b6/\ρ 7=pB b7/\ρ 16=va/\ρ 17=iB n/\ρ 18=iB i/\∃LO,Gl j5 32 3 (.slice (some ⟨b13,0,none⟩) n n) (ky n λk=>j8 (we (tJ W q) i k)) LO/\
    St w w' ([(b7,32,j5 (j8 (wu W q i))),(b6,32,j5 (j8 (nY q i))),(b2,32,j5 (j8 W))]++LO)) (λi=>n-i) 0
   ⟨aB _,rfl,rfl,rfl,rfl,rfl,rfl,rfl,_,hG,hS⟩ ?_
  clear hS hG;rintro i ρ w2 ⟨hi,h2,h5,h6,h7,h16,h17,h18,LO,hG,hS⟩;have htl:=j9 n λk=>j8 (we (tJ W q) i k);refine V1 ?_;by_cases hlt:i<n
  ·refine V1 ?_;have hg:(ky n λk=>j8 (q k)).getD i kP=j8 (q i):=kz _ _ hlt;have hqi:=hq i hlt;have hs1:=hs i hi;have hs2:=hs (i+1) hlt;have hpq:=G6 (q i);have hsb:=s8 (nY q (i+1)) (pQ W);have hov:L (wu W q i)<=2*K+4:=by
    cases i with
    |zero=>show L 0<=_;rw[nW];omega
    |succ i=>
     have h1:=G6 (nY q (i+1)-pQ W);have h2:=s8 (nY q (i+1)) (pQ W);show L (pQ _)<=_;omega
   have hov2:L (wu W q (i+1))<=2*K+4:=by
    have h1:=G6 (nY q (i+1)-pQ W);show L (pQ _)<=_;omega
   have hadd:=λw=>ob (j8 (nY q i)) (j8 (pQ (q i))) w (by rw[Lr_ofQ,Lr_ofQ];omega);rw[toQ_ofQ,toQ_ofQ]at hadd;have hsub:=λw=>mA (j8 (nY q (i+1))) (j8 (pQ W)) w (by rw[Lr_ofQ,Lr_ofQ];omega);rw[toQ_ofQ,toQ_ofQ]at hsub;have hsub2:=λw=>mA (j8 (wu W q (i+1))) (j8 (wu W q i)) w (by rw[Lr_ofQ,Lr_ofQ];omega);rw[toQ_ofQ,toQ_ofQ]at hsub2;refine J1 ?_;refine jp (kj (i:=i) h16 h18 (ha.j4 hS.j4) oO dO kK (jq (kt (i:=i) kP rfl kf (ha.j4 hS.j4) dO rfl rfl (.inl rfl) ?_)));refine J1 ?_;intro b9 wz7 hS hBz7;refine J2 ?_;intro wz8 hS;refine ja ?_;rw[hg]at hS;replace hS:St w _ ([(b9,32,j5 (j8 (q i))),(b7,32,j5 (j8 (wu W q i))),(b6,32,j5 (j8 (nY q i))),(b2,32,j5 (j8 W))]++LO):=hS;refine ja ?_;refine kC [ju 0,ju 1,jv 2,jv 3,jw 4] kR kR hS ?_;intro wz9 hS hBz9;refine J2 ?_;refine jn rfl (j6 Tryz.call91 rfl (od (q i) _ oO) ?_);rintro _ wc10 ⟨rfl,hBc10⟩;replace hS:=hS.km hBc10;refine⟨hBc10,?_⟩;refine jn rfl (j6 Tryz.call18 rfl (hadd _) ?_);rintro _ wc11 ⟨rfl,hBc11⟩;replace hS:=hS.km hBc11;refine⟨hBc11,?_⟩;refine J1 ?_;intro wz12 hS;refine ja ?_;replace hS:St w _ ([(b9,32,j5 (j8 (q i))),(b7,32,j5 (j8 (wu W q i))),(b6,32,j5 (j8 (nY q (i+1)))),(b2,32,j5 (j8 W))]++LO):=hS;refine kx (λρ w'=>ρ 2=pB b2/\ρ 5= .slice (some ⟨b13,0,none⟩) n n/\ρ 6=pB b6/\ρ 7=pB b7/\ρ 16=va/\ρ 17=iB n/\ρ 18=iB i/\ρ 8=iB i/\∃b10,ρ 10=pB b10/\St w w' ([(b10,32,j5 (j8 (wu W q (i+1)))),(b9,32,j5 (j8 (q i))),(b7,32,j5 (j8 (wu W q i))),(b6,32,j5 (j8 (nY q (i+1)))),(b2,32,j5 (j8 W))]++LO)) ?_ ?_
   ·refine ja ?_;refine xy 5 [ju 0,ju 1,jv 2,jv 3,jv 4,jw 6] kR kR hS ?_;intro wz13 hS hBz13;refine qu kR rfl rfl (kO (k:=2) h6 kf hS rfl rfl rfl (.inl rfl) (qu kR rfl rfl (kO (k:=3) h2 kf hS rfl rfl rfl (.inl rfl) ?_)));refine th rfl rfl ?_ ?_
    ·refine J1 ?_;intro b10 wz14 hS hBz14;refine⟨hBz14,?_⟩;refine jn rfl (j6 Tryz.call91 rfl (od W _ oO) ?_);rintro ra w3 ⟨rfl,hB3⟩;refine⟨hB3,?_⟩;replace hS:=hS.km hB3;refine jn rfl (j6 Tryz.call16 rfl (hsub _) ?_);rintro rb w4 ⟨rfl,hB4⟩;refine⟨hB4,?_⟩;replace hS:=hS.km hB4;refine jn rfl (j6 Tryz.call91 rfl (od _ _ oO) ?_);rintro rc w5 ⟨rfl,hB5⟩;refine⟨hB5,?_⟩;replace hS:=hS.km hB5;refine J1 ?_;intro wz15 hS;refine ja ?_;replace hS:St w _ ([(b10,32,j5 (j8 (wu W q (i+1)))),(b9,32,j5 (j8 (q i))),(b7,32,j5 (j8 (wu W q i))),(b6,32,j5 (j8 (nY q (i+1)))),(b2,32,j5 (j8 W))]++LO):=hS;exact⟨_,rfl,jY,jY,jY,jY,jY,jY,jY,rfl,b10,rfl,hS⟩
    ·refine j6 Tryz.call91 rfl (od W _ oO) ?_;rintro ra w3 ⟨rfl,hB3⟩;refine⟨hB3,?_⟩;replace hS:=hS.km hB3;refine th rfl rfl ?_ ?_
     ·refine J1 ?_;intro b10 wz16 hS hBz16;refine⟨hBz16,?_⟩;refine jn rfl (j6 Tryz.call16 rfl (hsub _) ?_);rintro rb w4 ⟨rfl,hB4⟩;refine⟨hB4,?_⟩;replace hS:=hS.km hB4;refine jn rfl (j6 Tryz.call91 rfl (od _ _ oO) ?_);rintro rc w5 ⟨rfl,hB5⟩;refine⟨hB5,?_⟩;replace hS:=hS.km hB5;refine J1 ?_;intro wz17 hS;refine ja ?_;replace hS:St w _ ([(b10,32,j5 (j8 (wu W q (i+1)))),(b9,32,j5 (j8 (q i))),(b7,32,j5 (j8 (wu W q i))),(b6,32,j5 (j8 (nY q (i+1)))),(b2,32,j5 (j8 W))]++LO):=hS;exact⟨_,rfl,jY,jY,jY,jY,jY,jY,jY,rfl,b10,rfl,hS⟩
     ·refine j6 Tryz.call16 rfl (hsub _) ?_;rintro rb w4 ⟨rfl,hB4⟩;refine⟨hB4,?_⟩;replace hS:=hS.km hB4;refine th rfl rfl ?_ ?_
      ·refine J1 ?_;intro b10 wz18 hS hBz18;refine⟨hBz18,?_⟩;refine jn rfl (j6 Tryz.call91 rfl (od _ _ oO) ?_);rintro rc w5 ⟨rfl,hB5⟩;refine⟨hB5,?_⟩;replace hS:=hS.km hB5;refine J1 ?_;intro wz19 hS;refine ja ?_;replace hS:St w _ ([(b10,32,j5 (j8 (wu W q (i+1)))),(b9,32,j5 (j8 (q i))),(b7,32,j5 (j8 (wu W q i))),(b6,32,j5 (j8 (nY q (i+1)))),(b2,32,j5 (j8 W))]++LO):=hS;exact⟨_,rfl,jY,jY,jY,jY,jY,jY,jY,rfl,b10,rfl,hS⟩
      ·refine j6 Tryz.call91 rfl (od _ _ oO) ?_;rintro rc w5 ⟨rfl,hB5⟩;refine⟨hB5,?_⟩;replace hS:=hS.km hB5;refine Ai kR ?_;refine J1 ?_;intro b10 wz20 hS hBz20;refine⟨hBz20,?_⟩;refine J1 ?_;intro wz21 hS;refine ja ?_;replace hS:St w _ ([(b10,32,j5 (j8 (wu W q (i+1)))),(b9,32,j5 (j8 (q i))),(b7,32,j5 (j8 (wu W q i))),(b6,32,j5 (j8 (nY q (i+1)))),(b2,32,j5 (j8 W))]++LO):=hS;exact⟨_,rfl,jY,jY,jY,jY,jY,jY,jY,rfl,b10,rfl,hS⟩
   clear hS h2 h5 h6 h7 h16 h17 h18;rintro ρ w6 ⟨h2,h5,h6,h7,h16,h17,h18,h8,b10,h10,hS⟩;refine J4 ?_;refine jh (j6 Tryz.call16 rfl (hsub2 _) ?_);rintro _ wc22 ⟨rfl,hBc22⟩;replace hS:=hS.km hBc22;refine jp (kj (i:=i) rfl rfl (hG.sl hS ks) oO dO kK (jh (tD (i:=i) (j8 (tJ W q i)) ks rfl rfl kf hG hS oO rfl rfl ?_)));intro wz23 hS;refine ja ?_;obtain⟨LC2,hG,hS⟩:=hS;rw[vO]at hG;refine J2 ?_;intro wz24 hS;refine V2 ?_;exact⟨i+1,_,rfl,⟨hlt,jY,jY,jY,jY,jY,jY,vi rfl oO,_,hG,hS.drop ((ab _ _).trans (ab _ _))⟩,oO⟩
  ·refine J1 ?_;refine jt ?_;obtain rfl:n=i:=oO;rw[vB]at hG;exact⟨_,rfl,LO,h5,hG,hS.drop (ai _ _)⟩
 clear hS hG;rintro ρ w2 ⟨LO,h5,hG,hS⟩;refine J2 ?_;refine jt ?_;refine kB rfl rfl ?_;exact⟨LO,hG,hS⟩
def xM (W:Rat) (q s:Nat->Rat):Nat->Rat
 |0=>0
 |k+1=>if pQ W<=nY q (k+1)then nY s (k+1)else 0
def Dg (W:Rat) (q s:Nat->Rat) (k:Nat):Rat:=xM W q s (k+1)-xM W q s k
theorem NM (va vb:Value) (n:Nat) (W:Rat) (q s:Nat->Rat) (K:Nat) (w:World) (ha:Sl j5 3 w va (ky n λk=>j8 (q k))) (hb:Sl j5 3 w vb (ky n λk=>j8 (s k))) (hn:n<=1000) (hW:L W<=K) (hq:∀k,k<n->L (q k)<=K/\L (s k)<=K) (hs:∀k,k<=n->L (nY q k)<=K/\L (nY s k)<=K) (hK:8*K+20<=MX):
  lU Tryz.prog 95 #[kW (j8 W),va,vb] w λr w'=>∃LO,Gl j5 32 3 r (ky n λk=>j8 (Dg W q s k)) LO/\St w w' LO:=by
 have hS:=St.init w;have hla:=j9 n λk=>j8 (q k);have hlb:=j9 n λk=>j8 (s k);have hz:j5 kP=j5 (j8 (xM W q s 0)):=by rw[lz];rfl
 have hpW:=G6 W;refine enter Tryz.func95 rfl Tryz.ntmps95 rfl ?_;refine jr ?_;refine jh (kZ (new:=j5 (j8 W)) rfl rfl hS ?_);intro b3 wz1 hS hBz1;refine J2 ?_;refine jp (ki rfl (ha.j4 hS.j4) ⟨_,Tryz.underlying34⟩ (jh (lR (enc:=j5) (n:=n) kP rfl rfl kK rfl oO oO oO oO hS ?_)));intro b16 wz2 hS hBz2;refine Y1 ?_;refine jp (kT rfl px (jp (kT rfl px (jp (kT rfl px ?_)))));refine J1 ?_;intro b8 wz3 hS hBz3;refine J1 ?_;intro b9 wz4 hS hBz4;refine J1 ?_;intro b10 wz5 hS hBz5;refine J1 ?_;intro wz6 hS;refine J1 ?_;intro wz7 hS;refine J1 ?_;intro wz8 hS;refine ja ?_;replace hS:St w _ ((b10,32,j5 kP)::(b9,32,j5 kP)::(b8,32,j5 kP)::(b16,32,(List.replicate n kP).flatMap j5)::[(b3,32,j5 (j8 W))]):=hS;rw[hz,lB]at hS;replace hS:St w _ ([(b10,32,j5 (j8 (xM W q s 0))),(b9,32,j5 (j8 (nY s 0))),(b8,32,j5 (j8 (nY q 0))),(b3,32,j5 (j8 W))]++[(b16,32,(ky n λk=>j8 (yR.c k)).flatMap j5)]):=hS.perm (List.Perm.cons _ (List.Perm.cons _ (List.Perm.cons _ (List.Perm.swap _ _ _))));have hG:Gl j5 32 3 (.slice (some ⟨b16,0,none⟩) n n) (ky n λk=>j8 (we (Dg W q s) 0 k)) [(b16,32,(ky n λk=>j8 (we (Dg W q s) 0 k)).flatMap j5)]:=pK (j9 _ _) oO;refine J1 ?_;refine jp (ki rfl (ha.j4 hS.j4) ⟨_,Tryz.underlying34⟩ ?_);refine J1 ?_;refine jb ?_;rw[hla];refine kx (λρ w'=>∃LO,ρ 7= .slice (some ⟨b16,0,none⟩) n n/\Gl j5 32 3 (.slice (some ⟨b16,0,none⟩) n n) (ky n λk=>j8 (Dg W q s k)) LO/\St w w' LO) ?_ ?_
 ·refine ja ?_;refine ku (σ:=Nat) (λi ρ w'=>i<=n/\ρ 2=vb/\ρ 3=pB b3/\ρ 7= .slice (some ⟨b16,0,none⟩) n n/\ρ 8=pB b8/\ρ 9=pB b9/\ρ 10=pB b10/\ρ 20=va/\ρ 21=iB n/\ρ 22=iB i/\∃LO,Gl j5 32 3 (.slice (some ⟨b16,0,none⟩) n n) (ky n λk=>j8 (we (Dg W q s) i k)) LO/\
    St w w' ([(b10,32,j5 (j8 (xM W q s i))),(b9,32,j5 (j8 (nY s i))),(b8,32,j5 (j8 (nY q i))),(b3,32,j5 (j8 W))]++LO)) (λi=>n-i) 0
   ⟨aB _,rfl,rfl,rfl,rfl,rfl,rfl,rfl,rfl,rfl,_,hG,hS⟩ ?_
  clear hS hG;rintro i ρ w2 ⟨hi,h2,h3,h7,h8,h9,h10,h20,h21,h22,LO,hG,hS⟩;have htl:=j9 n λk=>j8 (we (Dg W q s) i k);refine V1 ?_;by_cases hlt:i<n
  ·refine V1 ?_;have hg:(ky n λk=>j8 (q k)).getD i kP=j8 (q i):=kz _ _ hlt;have hg2:(ky n λk=>j8 (s k)).getD i kP=j8 (s i):=kz _ _ hlt;obtain⟨hqi,hsi⟩:=hq i hlt;obtain⟨hs1,hs1'⟩:=hs i hi;obtain⟨hs2,hs2'⟩:=hs (i+1) hlt;have hpq:=G6 (q i);have hps:=G6 (s i);have h0:=nW;have hov:L (xM W q s i)<=K+1:=by
    cases i with
    |zero=>show L 0<=_;omega
    |succ i=>
     show L (if _ then _ else _)<=_;split<;>omega
   have hov2:L (xM W q s (i+1))<=K+1:=by
    show L (if _ then _ else _)<=_;split<;>omega
   have hadd:=λw=>ob (j8 (nY q i)) (j8 (pQ (q i))) w (by rw[Lr_ofQ,Lr_ofQ];omega);rw[toQ_ofQ,toQ_ofQ]at hadd;have hadd2:=λw=>ob (j8 (nY s i)) (j8 (pQ (s i))) w (by rw[Lr_ofQ,Lr_ofQ];omega);rw[toQ_ofQ,toQ_ofQ]at hadd2;have hsub2:=λw=>mA (j8 (xM W q s (i+1))) (j8 (xM W q s i)) w (by rw[Lr_ofQ,Lr_ofQ];omega);rw[toQ_ofQ,toQ_ofQ]at hsub2;refine J1 ?_;refine jp (kj (i:=i) h20 h22 (ha.j4 hS.j4) oO dO kK (jq (kt (i:=i) kP rfl kf (ha.j4 hS.j4) dO rfl rfl (.inl rfl) ?_)));refine J1 ?_;intro b12 wz9 hS hBz9;refine J2 ?_;intro wz10 hS;refine ja ?_;rw[hg]at hS;replace hS:St w _ ([(b12,32,j5 (j8 (q i))),(b10,32,j5 (j8 (xM W q s i))),(b9,32,j5 (j8 (nY s i))),(b8,32,j5 (j8 (nY q i))),(b3,32,j5 (j8 W))]++LO):=hS;refine ja ?_;refine kC [ju 0,ju 1,jv 2,jv 3,jw 4] kR kR hS ?_;intro wz11 hS hBz11;refine J2 ?_;refine jn rfl (j6 Tryz.call91 rfl (od (q i) _ oO) ?_);rintro _ wc12 ⟨rfl,hBc12⟩;replace hS:=hS.km hBc12;refine⟨hBc12,?_⟩;refine jn rfl (j6 Tryz.call18 rfl (hadd _) ?_);rintro _ wc13 ⟨rfl,hBc13⟩;replace hS:=hS.km hBc13;refine⟨hBc13,?_⟩;refine J1 ?_;intro wz14 hS;refine J2 ?_;refine jp (ki rfl (hb.j4 hS.j4) ⟨_,Tryz.underlying34⟩ ?_);refine V2 ?_;refine kC [ju 0,jo 1,jo 2,jo 3,ju 4,jv 5,jv 6,jw 7] kR kR hS ?_;intro wz15 hS hBz15;refine J3 ?_;refine jl rfl (kj (i:=i) rfl rfl (hb.j4 hS.j4) oO dO kK (jm rfl (kt (i:=i) kP rfl kf (hb.j4 hS.j4) dO rfl rfl (.inl rfl) ?_)));rw[hg2];refine jn rfl (j6 Tryz.call91 rfl (od (s i) _ oO) ?_);rintro _ wc16 ⟨rfl,hBc16⟩;replace hS:=hS.km hBc16;refine⟨hBc16,?_⟩;refine jn rfl (j6 Tryz.call18 rfl (hadd2 _) ?_);rintro _ wc17 ⟨rfl,hBc17⟩;replace hS:=hS.km hBc17;refine⟨hBc17,?_⟩;refine J1 ?_;intro wz18 hS;refine jr ?_;refine jp (kT rfl px ?_);refine J1 ?_;intro b13 wz19 hS hBz19;refine J1 ?_;intro wz20 hS;refine ja ?_;replace hS:St w _ ([(b13,32,j5 kP),(b12,32,j5 (j8 (q i))),(b10,32,j5 (j8 (xM W q s i))),(b9,32,j5 (j8 (nY s (i+1)))),(b8,32,j5 (j8 (nY q (i+1)))),(b3,32,j5 (j8 W))]++LO):=hS;refine ja ?_;refine kC [ju 0,ju 1,jv 2,jv 3,jo 4] kR kR hS ?_;intro wz21 hS hBz21;refine J2 ?_;refine jn rfl (j6 Tryz.call91 rfl (od W _ oO) ?_);rintro _ wc22 ⟨rfl,hBc22⟩;replace hS:=hS.km hBc22;refine⟨hBc22,?_⟩;refine jn rfl (j6 Tryz.call50 rfl (pg (j8 (nY q (i+1))) (j8 (pQ W)) _ (by rw[Lr_ofQ,Lr_ofQ];omega)) ?_);rintro _ wc23 ⟨rfl,hBc23⟩;replace hS:=hS.km hBc23;refine⟨hBc23,?_⟩;refine V1 ?_;rw[toQ_ofQ,toQ_ofQ];refine kx (λρ w'=>ρ 2=vb/\ρ 3=pB b3/\ρ 7= .slice (some ⟨b16,0,none⟩) n n/\ρ 8=pB b8/\ρ 9=pB b9/\ρ 10=pB b10/\ρ 20=va/\ρ 21=iB n/\ρ 22=iB i/\ρ 11=iB i/\ρ 13=pB b13/\St w w' ([(b13,32,j5 (j8 (xM W q s (i+1)))),(b12,32,j5 (j8 (q i))),(b10,32,j5 (j8 (xM W q s i))),(b9,32,j5 (j8 (nY s (i+1)))),(b8,32,j5 (j8 (nY q (i+1)))),(b3,32,j5 (j8 W))]++LO)) ?_ ?_
   ·refine ja ?_;by_cases hge:pQ W<=nY q (i+1)
    ·refine k9 rfl ((ES _ _).trans (ao hge)) ?_;refine J2 ?_;intro wz24 hS;refine ja ?_;have e:xM W q s (i+1)=nY s (i+1):=aj hge;rw[e];exact⟨_,rfl,jY,jY,jY,jY,jY,jY,jY,jY,jY,rfl,rfl,hS⟩
    ·refine lx rfl ((ES _ _).trans (ae hge)) ?_;refine ja ?_;have e:xM W q s (i+1)=0:=ah hge;rw[e,<-lz];exact⟨_,rfl,jY,jY,jY,jY,jY,jY,jY,jY,jY,rfl,rfl,hS⟩
   clear hS h2 h3 h7 h8 h9 h10 h20 h21 h22;rintro ρ w6 ⟨h2,h3,h7,h8,h9,h10,h20,h21,h22,h11,h13,hS⟩;refine J4 ?_;refine jh (j6 Tryz.call16 rfl (hsub2 _) ?_);rintro _ wc25 ⟨rfl,hBc25⟩;replace hS:=hS.km hBc25;refine jp (kj (i:=i) rfl rfl (hG.sl hS ks) oO dO kK (jh (tD (i:=i) (j8 (Dg W q s i)) ks rfl rfl kf hG hS oO rfl rfl ?_)));intro wz26 hS;refine ja ?_;obtain⟨LC2,hG,hS⟩:=hS;rw[vO]at hG;refine J2 ?_;intro wz27 hS;refine V2 ?_;exact⟨i+1,_,rfl,⟨hlt,jY,jY,jY,jY,jY,jY,jY,jY,vi rfl oO,_,hG,hS.drop ((ab _ _).trans (ab _ _))⟩,oO⟩
  ·refine J1 ?_;refine jt ?_;obtain rfl:n=i:=oO;rw[vB]at hG;exact⟨_,rfl,LO,h7,hG,hS.drop (ai _ _)⟩
 clear hS hG;rintro ρ w2 ⟨LO,h7,hG,hS⟩;refine J2 ?_;refine jt ?_;refine kB rfl rfl ?_;exact⟨LO,hG,hS⟩
structure qZ where
 h:Int
 rk:Int
 q:Rat
structure NH where
 cash:Rat
 cl:List qZ
structure sL where
 W:Rat
 legs:List (Nat×Nat)
def pb:qZ:=⟨0,0,0⟩
def OK:NH:=⟨0,[]⟩
def si:sL:=⟨0,[]⟩
def JP:Rat×Value:=(0,undef)
def pV:Rat×Value×Value:=(0,undef,undef)
def lZ (c:qZ):List Value:= .int .i64 c.h:: .int .i64 c.rk::j5 (j8 c.q)
def nx (p:Nat×Nat):List Value:=[.int .i64 p.1,.int .i64 p.2]
def kw (e:Rat×Value×Value):List Value:=j5 (j8 e.1)++[e.2.1,e.2.2]
def lL (d:Rat×Value):List Value:=j5 (j8 d.1)++[d.2]
theorem o4 (c:qZ):(lZ c).length=5:=rfl
theorem qf (c:Nat×Nat):(nx c).length=2:=rfl
theorem mY (c:Rat×Value×Value):(kw c).length=5:=rfl
theorem o8 (c:Rat×Value):(lL c).length=4:=rfl
structure mZ where
 es:List NH
 ds:List sL
def mZ.e (g:mZ) (i:Nat):NH:=g.es.getD i OK
def mZ.d (g:mZ) (k:Nat):sL:=g.ds.getD k si
def mZ.c (g:mZ) (i c:Nat):qZ:=(g.e i).cl.getD c pb
def mZ.n (g:mZ):Nat:=g.es.length
def mZ.cn (g:mZ) (i:Nat):Nat:=(g.e i).cl.length
def mZ.lg (g:mZ) (k j:Nat):Nat×Nat:=(g.d k).legs.getD j (0,0)
structure Gf (w:World) (vE vD:Value) (g:mZ) (ev:List (Value×Value)) (dv:List Value):Prop where
 es:Sl kw 5 w vE (ky g.n λi=>((g.e i).cash,ev.getD i sa))
 ds:Sl lL 4 w vD (ky g.ds.length λk=>((g.d k).W,dv.getD k undef))
 cl:∀i,i<g.n->Sl lZ 5 w (ev.getD i sa).1 (g.e i).cl
 lg:∀k,k<g.ds.length->Sl nx 2 w (dv.getD k undef) (g.d k).legs
 ag:∀i,i<g.n->∃a l c,(ev.getD i sa).2= .slice a l c
theorem Gf.j4 {w w':World} {vE vD:Value} {g:mZ} {ev:List (Value×Value)} {dv:List Value} (h:Gf w vE vD g ev dv) (hb:Below w.heap.size w w'):Gf w' vE vD g ev dv:=⟨h.es.j4 hb,h.ds.j4 hb,λi hi=>(h.cl i hi).j4 hb,λi hi=>(h.lg i hi).j4 hb,h.ag⟩
structure LV where
 vR:Value
 vP:Value
 vs:List Value
 pv:List (Value×Value)
 lv:List (List Value)
def Ii:LV:=⟨undef,undef,[],[],[]⟩
def Xf:Ly:=⟨0,[],[],0⟩
def Es (p:Ly×LV):List Value:=pG p.1.n p.2.vR p.2.vP p.1.tot
theorem DJ (c:Ly×LV):(Es c).length=6:=rfl
structure D4 (w:World) (bs:Nat) (vE vD vL vI:Value) (g:mZ) (Y:Nat->Ly) (B:Nat->Nat->Bool) (ev:List (Value×Value)) (dv:List Value) (V:Nat->LV) (iv:List Value):Prop where
 at0:At w ⟨bs,0,none⟩ [vE,vD,vL,vI]
 gr:Gf w vE vD g ev dv
 la:Sl Es 6 w vL (ky g.n λi=>(Y i,V i))
 lm:∀i,i<g.n->Qi w (V i).vR (V i).vP (Y i) (V i).vs (V i).pv (V i).lv
 yn:∀i,i<g.n->(Y i).n=g.cn i
 il:iv.length=g.n
 ii:Sl rK 1 w vI iv
 ir:∀i,i<g.n->Sl nF 1 w (iv.getD i undef) (ky (g.cn i) (B i))
theorem D4.j4 {w w':World} {bs:Nat} {vE vD vL vI:Value} {g:mZ} {Y:Nat->Ly} {B:Nat->Nat->Bool} {ev:List (Value×Value)} {dv:List Value} {V:Nat->LV} {iv:List Value} (h:D4 w bs vE vD vL vI g Y B ev dv V iv) (hb:Below w.heap.size w w'):D4 w' bs vE vD vL vI g Y B ev dv V iv:=
 ⟨h.at0.j4 hb,h.gr.j4 hb,h.la.j4 hb,λi hi=>(h.lm i hi).j4 hb,h.yn,h.il,h.ii.j4 hb,λi hi=>(h.ir i hi).j4 hb⟩
def tU (n:Nat) (cn:Nat->Nat) (f:Nat->Nat->Rat):List (List RR):=ky n λi=>ky (cn i) λc=>j8 (f i c)
theorem ns (n:Nat) (cn:Nat->Nat) (f:Nat->Nat->Rat):(tU n cn f).length=n:=j9 _ _
theorem u4 {n:Nat} (cn:Nat->Nat) (f:Nat->Nat->Rat) {i:Nat} (hi:i<n):(tU n cn f).getD i []=ky (cn i) λc=>j8 (f i c):=kz _ _ hi
def uh (g:mZ):Prop:=∀k,k<g.ds.length->∀j,j<(g.d k).legs.length->(g.lg k j).1<g.n/\(g.lg k j).2<g.cn (g.lg k j).1
def Ql (W:Rat) (v:Value):Value:= .agg #[.bool (j8 W).neg,.string (j8 W).num,.string (j8 W).den,v]
theorem Ff (vl v:Value) (vs:List Value) (W:Rat) (l:List (Nat×Nat)) (n:Nat) (cn:Nat->Nat) (f:Nat->Nat->Rat) (w:World) (hl:Sl nx 2 w vl l) (hA:rJ j5 3 w v (tU n cn f) vs) (hok:∀j,j<l.length->(l.getD j (0,0)).1<n/\(l.getD j (0,0)).2<cn (l.getD j (0,0)).1) (hn:l.length<=1000):
  lU Tryz.prog 54 #[Ql W vl,v] w λr w'=>∃LO,Gl j5 32 3 r (ky l.length λj=>j8 (f (l.getD j (0,0)).1 (l.getD j (0,0)).2)) LO/\St w w' LO:=by
 have hS:=St.init w;have hmx:=hl.maxLen;have hmx2:=hA.sl.maxLen;have hlen:=hA.len;rw[ns]at hlen;obtain⟨m,hm⟩:=jz l.length;obtain⟨F,hF⟩:∃F:Nat->Rat,F=λj=>f (l.getD j (0,0)).1 (l.getD j (0,0)).2:=⟨_,rfl⟩;rw[<-hm]at hok hn⊢;have hFe:(ky m λj=>j8 (f (l.getD j (0,0)).1 (l.getD j (0,0)).2))=ky m λj=>j8 (F j):=by rw[hF]
 rw[hFe];obtain⟨al,cl,hvl,_⟩:=hl.form;subst hvl;refine enter Tryz.func54 rfl Tryz.ntmps54 rfl ?_;refine jr ?_;refine jh (kZ (new:=lL (W,.slice al l.length cl)) rfl rfl hS ?_);intro b2 wz1 hS hBz1;refine J3 ?_;refine jp (ki rfl (hl.j4 hS.j4) ⟨_,Tryz.underlying62⟩ (jh (lR (enc:=j5) (n:=m) kP rfl rfl kK rfl oO oO oO oO hS ?_)));intro b11 wz2 hS hBz2;refine V1 ?_;replace hS:St w _ ((b11,32,(List.replicate m kP).flatMap j5)::[(b2,64,lL (W,.slice al l.length cl))]):=hS;rw[lB]at hS;replace hS:St w _ ([(b2,64,lL (W,.slice al l.length cl))]++[(b11,32,(ky m λk=>j8 (yR.c k)).flatMap j5)]):=hS.perm (List.Perm.swap _ _ _);have hG:Gl j5 32 3 (.slice (some ⟨b11,0,none⟩) m m) (ky m λk=>j8 (we F 0 k)) [(b11,32,(ky m λk=>j8 (we F 0 k)).flatMap j5)]:=pK (j9 _ _) oO;refine J2 ?_;refine jp (ki rfl (hl.j4 hS.j4) ⟨_,Tryz.underlying62⟩ ?_);refine J1 ?_;refine jb ?_;rw[<-hm];refine kx (λρ w'=>∃LO,ρ 5= .slice (some ⟨b11,0,none⟩) m m/\Gl j5 32 3 (.slice (some ⟨b11,0,none⟩) m m) (ky m λj=>j8 (F j)) LO/\St w w' LO) ?_ ?_
 ·refine ja ?_;refine ku (σ:=Nat) (λi ρ w'=>i<=m/\ρ 1=v/\ρ 5= .slice (some ⟨b11,0,none⟩) m m/\ρ 13= .slice al m cl/\ρ 14=iB m/\ρ 15=iB i/\∃LO,Gl j5 32 3 (.slice (some ⟨b11,0,none⟩) m m) (ky m λk=>j8 (we F i k)) LO/\St w w' ([]++LO)) (λi=>m-i) 0
   ⟨aB _,rfl,rfl,(by rw[hm];rfl),rfl,rfl,_,hG,hS.drop (ai [_] _)⟩ ?_
  clear hS hG;rintro i ρ w2 ⟨hi,h1,h5,h13,h14,h15,LO,hG,hS⟩;rw[hm]at h13;have htl:=j9 m λk=>j8 (we F i k);refine V1 ?_;by_cases hlt:i<m
  ·refine V1 ?_;obtain⟨p,hp⟩:=jz (l.getD i (0,0));obtain⟨h1n,h2n⟩:=hok i hlt;rw[<-hp]at h1n h2n;have hFi:F i=f p.1 p.2:=by rw[hF,hp]
   have hrow:=hA.row p.1 (by rw[ns];exact h1n);rw[u4 cn f h1n]at hrow;have hrl:=j9 (cn p.1) λc=>j8 (f p.1 c);have hg:(ky (cn p.1) λc=>j8 (f p.1 c)).getD p.2 kP=j8 (F i):=by rw[hFi];exact kz _ _ h2n
   refine J1 ?_;refine jp (kj (i:=i) h13 h15 (hl.j4 hS.j4) oO dO qp (jq (kt (i:=i) (0,0) rfl qq (hl.j4 hS.j4) dO rfl rfl (.inl rfl) ?_)));refine J1 ?_;intro b7 wz3 hS hBz3;refine J2 ?_;intro wz4 hS;refine ja ?_;rw[<-hp]at hS;replace hS:St w _ ([(b7,66,nx p)]++LO):=hS;refine ja ?_;refine kC [jo 0,jo 1,jo 2,jo 3,ju 4,jo 5,ju 6,jo 7,ju 8,jo 9,ju 10,jo 11,jw 12] kR kR hS ?_;intro wz5 hS hBz5;refine J5 ?_;refine jl rfl (kj (i:=p.1) rfl rfl (hA.sl.j4 hS.j4) oO dO lH (jm rfl (kt (i:=p.1) undef rfl lQ (hA.sl.j4 hS.j4) dO rfl rfl (.inr rfl) ?_)));refine J2 ?_;refine jl rfl (kj (i:=p.2) rfl rfl (hrow.j4 hS.j4) oO dO kK (jm rfl (kt (i:=p.2) kP rfl kf (hrow.j4 hS.j4) dO rfl rfl (.inl rfl) (jl rfl (kj (i:=i) rfl rfl (hG.sl hS ks) oO dO kK (jx rfl (tD (i:=i) (j8 (F i)) ks rfl rfl kf hG hS oO (by rw[hg];rfl) rfl ?_)))))));intro wz6 hS;refine ja ?_;obtain⟨LC2,hG,hS⟩:=hS;rw[vO]at hG;refine V2 ?_;exact⟨i+1,_,rfl,⟨hlt,jY,jY,(by rw[hm];assumption),jY,vi rfl oO,_,hG,hS.drop (ab _ _)⟩,oO⟩
  ·refine J1 ?_;refine jt ?_;obtain rfl:m=i:=oO;rw[vB]at hG;exact⟨_,rfl,LO,h5,hG,hS⟩
 clear hS hG;rintro ρ w2 ⟨LO,h5,hG,hS⟩;refine J2 ?_;refine jt ?_;refine kB rfl rfl ?_;exact⟨LO,hG,hS⟩
section
variable {w : World} {bs : Nat} {vE vD vL vI : Value} {g : mZ} {Y : Nat → Ly} {B : Nat → Nat → Bool} {ev : List (Value × Value)} {dv : List Value} {V : Nat → LV} {iv : List Value}
theorem D4.a0 (h:D4 w bs vE vD vL vI g Y B ev dv V iv):At w ⟨bs,0,none⟩ [vE]:=λj u hj=>by
 match j,hj with
 |0,hj=>exact h.at0 0 u hj
theorem D4.a1 (h:D4 w bs vE vD vL vI g Y B ev dv V iv):At w ⟨bs,1,none⟩ [vD]:=λj u hj=>by
 match j,hj with
 |0,hj=>exact h.at0 1 u hj
theorem D4.a2 (h:D4 w bs vE vD vL vI g Y B ev dv V iv):At w ⟨bs,2,none⟩ [vL]:=λj u hj=>by
 match j,hj with
 |0,hj=>exact h.at0 2 u hj
theorem D4.a3 (h:D4 w bs vE vD vL vI g Y B ev dv V iv):At w ⟨bs,3,none⟩ [vI]:=λj u hj=>by
 match j,hj with
 |0,hj=>exact h.at0 3 u hj
end
def Gr (g:mZ) (k:Nat):Int:=(g.c (g.lg k 0).1 (g.lg k 0).2).h
theorem MO {bs:Nat} {vE vD vL vI:Value} {g:mZ} {Y:Nat->Ly} {B:Nat->Nat->Bool} {ev:List (Value×Value)} {dv:List Value} {V:Nat->LV} {iv:List Value} (k:Nat) (w:World) (hS0:D4 w bs vE vD vL vI g Y B ev dv V iv) (hk:k<g.ds.length) (h0:0<(g.d k).legs.length) (hl:uh g):
  lU Tryz.prog 96 #[.pointer (some ⟨bs,0,none⟩),Ql (g.d k).W (dv.getD k undef)] w λr w'=>r= .int .i64 (Gr g k)/\Below w.heap.size w w':=by
 have hS:=St.init w;have hlg:=hS0.gr.lg k hk;obtain⟨h1,h2⟩:=hl k hk 0 h0;obtain⟨p,hp⟩:=jz (g.lg k 0);have hpl:(g.d k).legs.getD 0 (0,0)=p:=by rw[hp];rfl
 rw[<-hp]at h1 h2;have hcl:=hS0.gr.cl p.1 h1;have hel:(ky g.n λi=>((g.e i).cash,ev.getD i sa)).getD p.1 pV=((g.e p.1).cash,ev.getD p.1 sa):=kz _ _ h1;have htl:=j9 g.n λi=>((g.e i).cash,ev.getD i sa);have hho:Gr g k=((g.e p.1).cl.getD p.2 pb).h:=by rw[hp];rfl
 obtain⟨al,cl,hvl,_⟩:=hlg.form;rw[hvl]at hlg⊢;obtain⟨a1,c1,hv1,_⟩:=hcl.form;rw[hv1]at hcl;have hel1:((ky g.n λi=>((g.e i).cash,ev.getD i sa)).getD p.1 pV).2.1= .slice a1 (g.e p.1).cl.length c1:=by rw[hel];exact hv1
 rw[hho];have h2':p.2<(g.e p.1).cl.length:=h2;refine enter Tryz.func96 rfl Tryz.ntmps96 rfl ?_;refine jr ?_;refine jh (kZ (new:=lL ((g.d k).W,.slice al (g.d k).legs.length cl)) rfl rfl hS ?_);intro b3 wz1 hS hBz1;refine V1 ?_;refine kC [jo 0,jo 1,jo 2,jo 3,ju 4,jo 5,ju 6,jo 7,jo 8,ju 9,jo 10,jo 11,ju 12,jo 13,ju 14,jo 15,jo 16,ju 17,jo 18,jo 19,ju 20,jo 21] kR kR hS ?_;intro wz2 hS hBz2;refine J1 ?_;refine jl rfl (mO rfl ?_);refine J2 ?_;refine jm rfl (oB (v:=vE) (cs:=[vE]) rfl oY (hS0.j4 hS.j4).a0 rfl rfl (.inr rfl) ?_);refine J2 ?_;refine jl rfl (kj (i:=0) rfl rfl (hlg.j4 hS.j4) oO dO qp ?_);refine jl rfl (oR rfl (nw (hlg.j4 hS.j4) (λ_=>rfl) dD dO) vu ?_);refine jm rfl (oL (v:= .int .i64 p.1) (i:=0) (off:=0) (0,0) rfl nm (hlg.j4 hS.j4) (λ_=>rfl) dD h0 rfl (by rw[hpl];rfl) (.inr rfl) ?_);refine jl rfl (kj (i:=p.1) rfl rfl (hS0.gr.es.j4 hS.j4) oO dO pP ?_);refine jl rfl (oR rfl (nw (hS0.gr.es.j4 hS.j4) (λ_=>rfl) dD dO) qb ?_);refine jm rfl (oL (v:= .slice a1 (g.e p.1).cl.length c1) (i:=p.1) (off:=3) pV rfl qh (hS0.gr.es.j4 hS.j4) (λ_=>rfl) dD oO rfl (by rw[<-hel1];rfl) (.inr rfl) ?_);refine J2 ?_;refine jl rfl (kj (i:=0) rfl rfl (hlg.j4 hS.j4) oO dO qp ?_);refine jl rfl (oR rfl (nw (hlg.j4 hS.j4) (λ_=>rfl) dD dO) t6 ?_);refine jm rfl (oL (v:= .int .i64 p.2) (i:=0) (off:=1) (0,0) rfl nm (hlg.j4 hS.j4) (λ_=>rfl) dD h0 rfl (by rw[hpl];rfl) (.inr rfl) ?_);refine jl rfl (kj (i:=p.2) rfl rfl (hcl.j4 hS.j4) oO dO qO ?_);refine jl rfl (oR rfl (nw (hcl.j4 hS.j4) (λ_=>rfl) dD dO) t7 ?_);refine jm rfl (oL (i:=p.2) (off:=0) pb rfl nm (hcl.j4 hS.j4) (λ_=>rfl) dD dO rfl rfl (.inr rfl) ?_);refine J1 ?_;refine jt ?_;refine kB rfl rfl ?_;exact⟨rfl,hS.j4⟩
structure RowsIn {α:Type} (enc:α->List Value) (T:TypeId) (sz:Nat) (vs:List Value) (X:List (List α)) (D:List kU):Prop where
 len:vs.length=X.length
 g:∀i,i<X.length->∃L,L.Sublist D/\Gl enc T sz (vs.getD i undef) (X.getD i []) L
section
variable {α : Type} {enc : α → List Value} {T : TypeId} {sz : Nat} {vs : List Value} {X : List (List α)} {D D' L : List kU} {v : Value} {x : List α}
theorem RowsIn.nil:RowsIn enc T sz [] ([]:List (List α)) []:=⟨rfl,λ_ h=>absurd h (aW _)⟩
theorem RowsIn.mono (h:RowsIn enc T sz vs X D) (hs:D.Sublist D'):RowsIn enc T sz vs X D':=⟨h.len,λi hi=>by obtain⟨L,h1,h2⟩:=h.g i hi;exact⟨L,h1.trans hs,h2⟩⟩
theorem mq {β:Type} (l:List β) (b d:β) (i:Nat):(l++[b]).getD i d=if i<l.length then l.getD i d else if i=l.length then b else d:=by
 rw[ap];by_cases h:i<l.length
 ·rw[aj h,dq h,ap]
 ·rw[ah h,cZ oO];by_cases e:i=l.length
  ·rw[aj e,e,ec];rfl
  ·rw[ah e,dk (by simp;omega)];rfl
theorem RowsIn.snoc (h:RowsIn enc T sz vs X D) (hg:Gl enc T sz v x L):RowsIn enc T sz (vs++[v]) (X++[x]) (L++D):=by
 refine⟨by rw[aG,aG,h.len];rfl,λi hi=> ?_⟩;rw[mq,mq,h.len];rw[aG,eO]at hi;by_cases e:i<X.length
 ·rw[aj e,aj e];obtain⟨L2,h1,h2⟩:=h.g i e;exact⟨L2,h1.trans (ai _ _),h2⟩
 ·rw[ah e,ah e,aj oO,aj oO];exact⟨L,ak _ _,hg⟩
theorem RowsIn.row {w0 w:World} {P:List kU} (h:RowsIn enc T sz vs X D) (hS:St w0 w (P++D)) (hu:∀x,(enc x).length=sz) {i:Nat} (hi:i<X.length):Sl enc sz w (vs.getD i undef) (X.getD i []):=by
 obtain⟨L,h1,h2⟩:=h.g i hi;exact h2.sl (H:=[]) (hS.drop (h1.trans (ai _ _))) hu
theorem RowsIn.Lc {w0 w:World} {P Q LO:List kU} {TT:TypeId} (h:RowsIn enc T sz vs X D) (hG:Gl rK TT 1 v vs LO) (hS:St w0 w (P++D)) (hS2:St w0 w (Q++LO)) (hu:∀x,(enc x).length=sz):rJ enc sz w v X vs:=
 ⟨h.len,hG.sl hS2 (λ_=>rfl),λ_ hi=>h.row hS hu hi⟩
end
def UK:Ly×LV:=(Xf,Ii)
def lG (Y:Nat->Ly) (x:Nat->Rat) (i c:Nat):Rat:=(sF (Y i) (x i) (Y i).pl.length).c c
def ow (Y:Nat->Ly) (x:Nat->Rat) (i c:Nat):Rat:=(rR (Y i) (x i) (Y i).pl.length).c c
theorem Ck (n:Nat) (cn:Nat->Nat) (f:Nat->Nat->Rat):tU (n+1) cn f=tU n cn f++[ky (cn n) λc=>j8 (f n c)]:=om _ _
theorem CQ (v:Value) (h:v.oneCell'=true):∀u∈[v],u.oneCell'=true:=λu hu=>by rw[aZ.1 hu];exact h
theorem Wp {α:Type} (A B C:List α):((A++B)++C).Perm ((A++C)++B):=by
 rw[aI,aI];exact bP _ aF
theorem Qi.N6 {w:World} {vR vP:Value} {y:Ly} {vs:List Value} {pv:List (Value×Value)} {lv:List (List Value)} (h:Qi w vR vP y vs pv lv):∃aR nR cR aP nP cP,vR= .slice aR nR cR/\vP= .slice aP nP cP:=by
 obtain⟨aR,cR,h1,_⟩:=h.rk.sl.form;obtain⟨aP,cP,h2,_⟩:=h.pl.sl.form;exact⟨aR,_,cR,aP,_,cP,h1,h2⟩
theorem W8 {α:Type} (A D L1 L2 Ld Ls:List α):(((((A++D)++L1)++L2)++Ld)++Ls).Perm (((A++(Ls++(Ld++D)))++L2)++L1):=by
 have e1:((((A++D)++L1)++L2)++Ld)++Ls=A++((D++(L1++L2))++(Ld++Ls)):=by simp only[aI]
 have e2:((A++(Ls++(Ld++D)))++L2)++L1=A++((Ls++Ld)++(D++(L2++L1))):=by simp only[aI]
 rw[e1,e2];refine bP A (List.perm_append_comm.trans (List.Perm.append ?_ (bP _ ?_)))<;>exact aF
theorem RV {bs:Nat} {vE vD vL vI:Value} {g:mZ} {Y:Nat->Ly} {B:Nat->Nat->Bool} {ev:List (Value×Value)} {dv:List Value} {V:Nat->LV} {iv:List Value} (vx:Value) (x:Nat->Rat) (w:World) (hS0:D4 w bs vE vD vL vI g Y B ev dv V iv) (hx:Sl j5 3 w vx (ky g.n λi=>j8 (x i))) (hn:g.n<=1000) (hh:∀i,i<g.n->Ig (Y i) (x i)):
  lU Tryz.prog 55 #[.pointer (some ⟨bs,0,none⟩),vx] w λr w'=>∃v1 v2 u1 u2,r= .agg #[v1,v2]/\rJ j5 3 w' v1 (tU g.n g.cn (lG Y x)) u1/\rJ j5 3 w' v2 (tU g.n g.cn (ow Y x)) u2/\Below w.heap.size w w':=by
 have hS:=St.init w;have hlx:=j9 g.n λi=>j8 (x i);have hly:=j9 g.n λi=>(Y i,V i);obtain⟨n,hn'⟩:∃n,n=g.n:=⟨_,rfl⟩;refine enter Tryz.func55 rfl Tryz.ntmps55 rfl ?_;refine J1 ?_;intro b4 wz1 hS hBz1;refine J1 ?_;intro b5 wz2 hS hBz2;refine ja ?_;replace hS:St w _ [(b5,123,[kd,kd]),(b4,123,[kd,kd])]:=hS;refine J1 ?_;refine jp (mO rfl ?_);refine J1 ?_;refine jq (oB (v:=vL) (cs:=[vL]) rfl qv (hS0.j4 hS.j4).a2 rfl rfl (.inr rfl) (jp (ki rfl (hS0.la.j4 hS.j4) ⟨_,Tryz.underlying104⟩ ?_)));refine J1 ?_;refine jb ?_;rw[hly];refine kx (λρ w'=>ρ 4=pB b4/\ρ 5=pB b5/\∃v1 v2 u1 u2 L1 L2 D,Gl rK 34 1 v1 u1 L1/\Gl rK 34 1 v2 u2 L2/\RowsIn j5 32 3 u1 (tU g.n g.cn (lG Y x)) D/\RowsIn j5 32 3 u2 (tU g.n g.cn (ow Y x)) D/\St w w' ((([(b5,123,[v1,v2]),(b4,123,[kd,kd])]++D)++L1)++L2)) ?_ ?_
 ·refine ja ?_;refine ku (σ:=Nat) (λi ρ w'=>i<=g.n/\ρ 0=pB bs/\ρ 1=vx/\ρ 4=pB b4/\ρ 5=pB b5/\ρ 15=vL/\ρ 16=iB g.n/\ρ 17=iB i/\∃v1 v2 u1 u2 L1 L2 D,Gl rK 34 1 v1 u1 L1/\Gl rK 34 1 v2 u2 L2/\RowsIn j5 32 3 u1 (tU i g.cn (lG Y x)) D/\RowsIn j5 32 3 u2 (tU i g.cn (ow Y x)) D/\St w w' ((([(b5,123,[v1,v2]),(b4,123,[kd,kd])]++D)++L1)++L2)) (λi=>g.n-i) 0
   ⟨aB _,rfl,rfl,rfl,rfl,rfl,rfl,rfl,kd,kd,[],[],[],[],[],Gl.nil _ _ _,Gl.nil _ _ _,RowsIn.nil,RowsIn.nil,hS⟩ ?_
  clear hS;rintro i ρ w2 ⟨hi,h0,h1,h4,h5,h15,h16,h17,v1,v2,u1,u2,L1,L2,D,hG1,hG2,hR1,hR2,hS⟩;have hl1:=hR1.len;have hl2:=hR2.len;rw[ns]at hl1 hl2;refine V1 ?_;by_cases hlt:i<g.n
  ·refine V1 ?_;have hgy:(ky g.n λi=>(Y i,V i)).getD i UK=(Y i,V i):=kz _ _ hlt;have hgx:(ky g.n λi=>j8 (x i)).getD i kP=j8 (x i):=kz _ _ hlt;have hyn:=hS0.yn i hlt;have hlm:=hS0.lm i hlt;obtain⟨y,hy⟩:=jz (Y i);obtain⟨q,hq⟩:=jz (V i);have hsl:=hh i hlt;obtain⟨aR,nR,cR,aP,nP,cP,hvR,hvP⟩:=hlm.N6;rw[<-hq]at hvR hvP;rw[<-hy]at hyn hsl;rw[<-hy,<-hq]at hgy hlm;rw[hvR,hvP]at hlm;refine J1 ?_;refine jp (kj (i:=i) h15 h17 (hS0.la.j4 hS.j4) oO dO BW (jq (kt (v:=Nk y.n (.slice aR nR cR) (.slice aP nP cP) y.tot) (i:=i) UK rfl oS (hS0.la.j4 hS.j4) oO rfl (by rw[hgy,<-hvR,<-hvP];rfl) (.inl rfl) ?_)));refine J1 ?_;intro b7 wz3 hS hBz3;refine J2 ?_;intro wz4 hS;refine ja ?_;replace hS:St w _ ((b7,112,pG y.n (.slice aR nR cR) (.slice aP nP cP) y.tot)::((([(b5,123,[v1,v2]),(b4,123,[kd,kd])]++D)++L1)++L2)):=hS;refine kx (λρ w'=>ρ 0=pB bs/\ρ 1=vx/\ρ 4=pB b4/\ρ 5=pB b5/\ρ 7=pB b7/\ρ 6=iB i/\ρ 15=vL/\ρ 16=iB g.n/\ρ 17=iB i/\∃vd Ld,ρ 8=vd/\Gl j5 32 3 vd (ky y.n λk=>j8 ((sF y (x i) y.pl.length).c k)) Ld/\St w w' (((b7,112,pG y.n (.slice aR nR cR) (.slice aP nP cP) y.tot)::((([(b5,123,[v1,v2]),(b4,123,[kd,kd])]++D)++L1)++L2))++Ld)) ?_ ?_
   ·refine ja ?_;refine xy 9 [ju 0,jo 1,jo 2,jo 3,ju 4,jv 5,jo 6,jo 7,jo 8,jo 10,jw 11] kR kR hS ?_;intro wz5 hS hBz5;refine qu kR rfl rfl (kO (k:=0) rfl oS hS rfl rfl rfl (.inl rfl) (mC kR rfl rfl (ko h1 (mC kR rfl rfl (ko rfl (mC kR rfl rfl (kj (i:=i) rfl rfl (hx.j4 hS.j4) oO dO kK (qu kR rfl rfl (kt (i:=i) kP rfl kf (hx.j4 hS.j4) dO rfl rfl (.inl rfl) ?_)))))))));rw[hgx];refine th rfl rfl ?_ ?_
    ·refine J1 ?_;intro b9 wz6 hS hBz6;refine⟨hBz6,?_⟩;refine jn rfl (j6 Tryz.call48 rfl (yv _ _ y _ _ _ (x i) _ (hlm.j4 hS.j4) hsl.d) ?_);rintro rd w3 ⟨vd,Ld,rfl,hGd,hS3⟩;refine⟨hS3.j4,?_⟩;replace hS:=(hS.join hS3).perm aF;refine J5 ?_;intro wz7 hS;refine ja ?_;exact⟨_,rfl,jY,jY,jY,jY,rfl,rfl,jY,jY,jY,vd,Ld,rfl,hGd,hS.drop (ab _ _)⟩
    ·refine j6 Tryz.call48 rfl (yv _ _ y _ _ _ (x i) _ (hlm.j4 hS.j4) hsl.d) ?_;rintro rd w3 ⟨vd,Ld,rfl,hGd,hS3⟩;refine⟨hS3.j4,?_⟩;replace hS:=(hS.join hS3).perm aF;refine mC kR rfl rfl (ko rfl (mC kR rfl rfl (wn rfl rfl (mC kR rfl rfl (wn rfl rfl (Ai kR ?_))))));refine J1 ?_;intro b9 wz8 hS hBz8;refine⟨hBz8,?_⟩;refine J2 ?_;intro wz9 hS;refine ja ?_;exact⟨_,rfl,jY,jY,jY,jY,rfl,rfl,jY,jY,jY,vd,Ld,rfl,hGd,hS.drop (ab _ _)⟩
   clear hS h0 h1 h4 h5 h15 h16 h17;rintro ρ w4 ⟨h0,h1,h4,h5,h7,h6,h15,h16,h17,vd,Ld,h8,hGd,hS⟩;refine ja ?_;refine kx (λρ w'=>ρ 0=pB bs/\ρ 1=vx/\ρ 4=pB b4/\ρ 5=pB b5/\ρ 7=pB b7/\ρ 6=iB i/\ρ 15=vL/\ρ 16=iB g.n/\ρ 17=iB i/\ρ 8=vd/\∃vs_ Ls,ρ 10=vs_/\Gl j5 32 3 vs_ (ky y.n λk=>j8 ((rR y (x i) y.pl.length).c k)) Ls/\St w w' ((((b7,112,pG y.n (.slice aR nR cR) (.slice aP nP cP) y.tot)::((([(b5,123,[v1,v2]),(b4,123,[kd,kd])]++D)++L1)++L2))++Ld)++Ls)) ?_ ?_
   ·refine ja ?_;refine xy 9 [ju 0,jo 1,jo 2,jo 3,ju 4,jv 5,jo 6,jo 7,jo 8,jo 10,jw 11] kR kR hS ?_;intro wz10 hS hBz10;refine qu kR rfl rfl (kO (k:=0) h7 oS hS rfl rfl rfl (.inl rfl) (mC kR rfl rfl (ko h1 (mC kR rfl rfl (ko h6 (mC kR rfl rfl (kj (i:=i) rfl rfl (hx.j4 hS.j4) oO dO kK (qu kR rfl rfl (kt (i:=i) kP rfl kf (hx.j4 hS.j4) dO rfl rfl (.inl rfl) ?_)))))))));rw[hgx];refine th rfl rfl ?_ ?_
    ·refine J1 ?_;intro b11 wz11 hS hBz11;refine⟨hBz11,?_⟩;refine jn rfl (j6 Tryz.call92 rfl (Ao _ _ y _ _ _ (x i) _ (hlm.j4 hS.j4) hsl) ?_);rintro rd w3 ⟨vs_,Ls,rfl,hGs,hS3⟩;refine⟨hS3.j4,?_⟩;replace hS:=(hS.join hS3).perm aF;refine J5 ?_;intro wz12 hS;refine ja ?_;exact⟨_,rfl,jY,jY,jY,jY,jY,jY,jY,jY,jY,jY,vs_,Ls,rfl,hGs,hS.drop (ab _ _)⟩
    ·refine j6 Tryz.call92 rfl (Ao _ _ y _ _ _ (x i) _ (hlm.j4 hS.j4) hsl) ?_;rintro rd w3 ⟨vs_,Ls,rfl,hGs,hS3⟩;refine⟨hS3.j4,?_⟩;replace hS:=(hS.join hS3).perm aF;refine mC kR rfl rfl (ko rfl (mC kR rfl rfl (wn rfl rfl (mC kR rfl rfl (wn rfl rfl (Ai kR ?_))))));refine J1 ?_;intro b11 wz13 hS hBz13;refine⟨hBz13,?_⟩;refine J2 ?_;intro wz14 hS;refine ja ?_;exact⟨_,rfl,jY,jY,jY,jY,jY,jY,jY,jY,jY,jY,vs_,Ls,rfl,hGs,hS.drop (ab _ _)⟩
   clear hS h0 h1 h4 h5 h6 h7 h8 h15 h16 h17;rintro ρ w5 ⟨h0,h1,h4,h5,h7,h6,h15,h16,h17,h8,vs_,Ls,h10,hGs,hS⟩;rw[hyn]at hGd hGs;have e1:(ky (g.cn i) λk=>j8 ((sF y (x i) y.pl.length).c k))=ky (g.cn i) λc=>j8 (lG Y x i c):=by unfold lG;rw[<-hy]
   have e2:(ky (g.cn i) λk=>j8 ((rR y (x i) y.pl.length).c k))=ky (g.cn i) λc=>j8 (ow Y x i c):=by unfold ow;rw[<-hy]
   rw[e1]at hGd;rw[e2]at hGs;obtain⟨ad,cd,hvd⟩:=hGd.len;obtain⟨az,cz,hvz⟩:=hGs.len;rw[j9]at hvd hvz;subst hvd hvz;replace hS:St w w5 ((([(b5,123,[v1,v2]),(b4,123,[kd,kd])]++(Ls++(Ld++D)))++L2)++L1):=(hS.drop (bn (bn (ab _ _) (bK _)) (bK _))).perm (W8 _ _ _ _ _ _);refine J3 ?_;refine jh (mD (vs:=[_]) rfl lH rfl dD dD dD (by simp[Value.cells]) rfl hS ?_);intro b43 wz15 hS hBz15;refine jh (mf [_] rfl rfl lH dD hG1 hS rfl rfl (λ_=>rfl) (CQ _ rfl) dL dL ?_);intro va16 La16 wa16 hG1 hS hga16;refine J1 ?_;refine jh (nM (k:=0) rfl rfl oT hS rfl (by simp) (by obtain⟨a,c,h⟩:=hG1.len;rw[h];rfl) ?_);intro wz17 hS;refine ja ?_;obtain⟨v1',hv1'⟩:∃v,v=va16:=⟨_,rfl⟩;rw[<-hv1']at hG1;replace hS:St w _ (((([(b5,123,[va16,v2]),(b4,123,[kd,kd])]++(Ls++(Ld++D)))++L2))++La16):=hS;rw[<-hv1']at hS;have hS':=hS.perm (Wp _ _ _);clear hS;have hS:=hS';clear hS';refine J3 ?_;refine jh (mD (vs:=[_]) rfl lH rfl dD dD dD (by simp[Value.cells]) rfl hS ?_);intro b49 wz18 hS hBz18;refine jh (mf [_] rfl rfl lH dD hG2 hS rfl rfl (λ_=>rfl) (CQ _ rfl) dL dL ?_);intro va19 La19 wa19 hG2 hS hga19;refine J1 ?_;refine jh (nM (k:=0) rfl rfl oT hS rfl (by simp) (by obtain⟨a,c,h⟩:=hG2.len;rw[h];rfl) ?_);intro wz20 hS;refine V2 ?_;obtain⟨v2',hv2'⟩:∃v,v=va19:=⟨_,rfl⟩;rw[<-hv2']at hG2;replace hS:St w _ (((([(b5,123,[v1',va19]),(b4,123,[kd,kd])]++(Ls++(Ld++D)))++La16))++La19):=hS;rw[<-hv2']at hS;have hR1':=(hR1.snoc hGd).mono (ai Ls _);have hR2':=(hR2.mono (ai Ld D)).snoc hGs;rw[<-Ck]at hR1' hR2';exact⟨i+1,_,rfl,⟨hlt,jY,jY,jY,jY,jY,jY,vi rfl oO,v1',v2',_,_,La16,La19,_,hG1,hG2,hR1',hR2',hS⟩,oO⟩
  ·refine J1 ?_;refine jt ?_;obtain rfl:g.n=i:=oO;exact⟨_,rfl,h4,h5,v1,v2,u1,u2,L1,L2,D,hG1,hG2,hR1,hR2,hS⟩
 clear hS;rintro ρ w2 ⟨h4,h5,v1,v2,u1,u2,L1,L2,D,hG1,hG2,hR1,hR2,hS⟩;obtain⟨a1,c1,hf1⟩:=hG1.len;obtain⟨a2,c2,hf2⟩:=hG2.len;subst hf1 hf2;refine J2 ?_;intro wz21 hS;refine ja ?_;replace hS:St w _ ((([(b5,123,[.slice a1 u1.length c1,.slice a2 u2.length c2]),(b4,123,[.slice a1 u1.length c1,.slice a2 u2.length c2])]++D)++L1)++L2):=hS;have hSa:=hS.drop (ak _ L2);have hSb:=hSa.drop (ak _ L1);refine jt ?_;refine mb (k:=1) rfl h4 tz hS rfl rfl ?_;exact⟨_,_,u1,u2,rfl,hR1.Lc hG1 hSb hSa ks,hR2.Lc hG2 hSb hS ks,hS.j4⟩
abbrev IZ:Type:=Nat×Nat×Rat
def y0 (T:List IZ):Mx:=T.foldl (λM o=>ry M o.1 o.2.1 o.2.2) (λ_ _=>0)
theorem BY (T:List IZ) (o:IZ):y0 (T++[o])=ry (y0 T) o.1 o.2.1 o.2.2:=by unfold y0;rw[eE];rfl
def Ph (n:Nat) (T:List IZ) (o:IZ):Prop:=o.1<n/\o.2.1<n/\L (y0 T o.1 o.2.1)+L o.2.2<=MX
def Xd (n:Nat) (T:List IZ):Prop:=∀P o,(P++[o])<+:T->Ph n P o
def mL {α:Type} (f:Nat->List α) (k:Nat):List α:=(List.range k).flatMap f
theorem oC {α:Type} (f:Nat->List α) (k:Nat):mL f (k+1)=mL f k++f k:=by unfold mL;rw[iT,dy];simp
theorem RP {α:Type} (f:Nat->List α) {k m:Nat} (h:k<=m):mL f k<+:mL f m:=by
 induction m with
 |zero=>obtain rfl:k=0:=oO;exact gI _
 |succ m ih=>
  by_cases e:k=m+1
  ·rw[e];exact gI _
  ·rw[oC];exact(ih oO).trans (jA _ _)
theorem zE {α:Type} (f:Nat->List α) {k m:Nat} (h:k<m) {p:List α} (hp:p<+:f k):mL f k++p<+:mL f m:=by
 have h1:mL f k++p<+:mL f (k+1):=by rw[oC];exact(j2 _).2 hp
 exact h1.trans (RP f h)
section
variable (g : mZ) (B : Nat → Nat → Bool) (dl sl : Nat → Nat → Rat)
def sS (i c:Nat):List IZ:=if(g.c i c).h≠-1/\B i c=false then [((g.c i c).h.toNat,i,sl i c)]else []
def AZ (i:Nat):List IZ:=mL (sS g B sl i) (g.cn i)
def qD (d j:Nat):Rat:=dl (g.lg d j).1 (g.lg d j).2
def qS (d i j:Nat):Rat:=if(g.lg d j).1=i then sl (g.lg d j).1 (g.lg d j).2 else 0
def wY (d i j:Nat):Rat:=Dg (g.d d).W (qD g dl d) (qS g sl d i) j
def mw (d:Nat):Nat:=(g.d d).legs.length
def xI (d i j:Nat):List IZ:=[((g.lg d j).1,i,wY g dl sl d i j)]
def z6 (d i:Nat):List IZ:=if 0<mw g d/\Gr g d≠-1 then [((Gr g d).toNat,i,kg (qS g sl d i) (mw g d)-kg (wY g dl sl d i) (mw g d))]else []
def wB (d i:Nat):List IZ:=mL (xI g dl sl d i) (mw g d)++z6 g dl sl d i
def Dl (d:Nat):List IZ:=mL (wB g dl sl d) g.n
def IP:List IZ:=mL (AZ g B sl) g.n++mL (Dl g dl sl) g.ds.length
def P6:Prop:=∀i,i<g.n->∀c,c<g.cn i->(g.c i c).h≠-1->∃a:Nat,a<g.n/\(g.c i c).h=a
structure Wl (K:Nat):Prop where
 gr:Xd g.n (IP g B dl sl)
 W:∀d,d<g.ds.length->L (g.d d).W<=K
 q:∀d,d<g.ds.length->∀j,j<mw g d->L (qD g dl d j)<=K/\∀i,i<g.n->L (qS g sl d i j)<=K
 s:∀d,d<g.ds.length->∀j,j<=mw g d->L (nY (qD g dl d) j)<=K/\∀i,i<g.n->L (nY (qS g sl d i) j)<=K
 k:8*K+20<=MX
 so:∀d,d<g.ds.length->∀i,i<g.n->xN (ky (mw g d) λj=>j8 (qS g sl d i j))+1<=MX/\xN (ky (mw g d) λj=>j8 (wY g dl sl d i j))+1<=MX/\L (kg (qS g sl d i) (mw g d))+L (kg (wY g dl sl d i) (mw g d))<=MX
 ln:∀d,d<g.ds.length->mw g d<=1000
end
theorem Cg (f:Nat->Rat):∀n,xL ((ky n λk=>j8 (f k)).map toQ)=kg f n
 |0=>rfl
 |n+1=>by
  rw[om,bH,db,jO,Ez,Cg f n,toQ_ofQ];rfl
theorem FA {α:Type} {enc:α->List Value} {e:TypeId} {size:Nat} {v:Value} {X:List α} {L P M:List kU} {w0 w:World} (hG:Gl enc e size v X L) (hs:L.Sublist P) (hS:St w0 w (P++M)) (hu:∀x,(enc x).length=size):Sl enc size w v X:=
 hG.sl (H:=[]) (hS.drop (hs.trans (ak _ _))) hu
theorem Xc {α:Type} (Lr P M Lo:List α):(Lr++((P++M)++Lo)).Perm ((P++(Lr++Lo))++M):=by
 have e1:Lr++((P++M)++Lo)=Lr++(P++(M++Lo)):=by simp only[aI]
 have e2:(P++(Lr++Lo))++M=P++(Lr++(Lo++M)):=by simp only[aI]
 rw[e1,e2];have h1:(Lr++(P++(M++Lo))).Perm (P++(Lr++(M++Lo))):=by
  rw[<-aI,<-aI P];exact bU _ aF
 exact h1.trans (bP _ (bP _ aF))
def Mz (q:Rat) (v1 v2:Value):Value:= .agg #[.bool (j8 q).neg,.string (j8 q).num,.string (j8 q).den,v1,v2]
theorem Gf.form {w:World} {vE vD:Value} {g:mZ} {ev:List (Value×Value)} {dv:List Value} (h:Gf w vE vD g ev dv) {i:Nat} (hi:i<g.n):∃a1 c1 a2 l2 c2,ev.getD i sa=(.slice a1 (g.e i).cl.length c1,.slice a2 l2 c2):=by
 obtain⟨a1,c1,h1,_⟩:=(h.cl i hi).form;obtain⟨a2,l2,c2,h2⟩:=h.ag i hi;exact⟨a1,c1,a2,l2,c2,Prod.ext h1 h2⟩
theorem IX {bs:Nat} {vE vD vL vI v1 v2:Value} {g:mZ} {Y:Nat->Ly} {B:Nat->Nat->Bool} {ev:List (Value×Value)} {dv u1 u2:List Value} {V:Nat->LV} {iv:List Value} (dl sl:Nat->Nat->Rat) (K:Nat) (w:World) (hS0:D4 w bs vE vD vL vI g Y B ev dv V iv) (hM1:rJ j5 3 w v1 (tU g.n g.cn dl) u1) (hM2:rJ j5 3 w v2 (tU g.n g.cn sl) u2) (hn:g.n<=1000) (hl:uh g) (hho:P6 g) (hK:Wl g B dl sl K):
  lU Tryz.prog 56 #[.pointer (some ⟨bs,0,none⟩),.agg #[v1,v2]] w λr w'=>∃bo R,r= .slice (some ⟨bo,0,none⟩) g.n g.n/\mx R g.n g.n (qM (y0 (IP g B dl sl)))/\St w w' (mB j5 32 34 bo R []):=by
 have hS:=St.init w;have hly:=j9 g.n λi=>(Y i,V i);have hle:=j9 g.n λi=>((g.e i).cash,ev.getD i sa);have hld:=j9 g.ds.length λk=>((g.d k).W,dv.getD k undef);have hu1:=hM1.len;have hu2:=hM2.len;rw[ns]at hu1 hu2;have hil:=hS0.il;refine enter Tryz.func56 rfl Tryz.ntmps56 rfl ?_;refine jr ?_;refine jh (kZ (new:=[v1,v2]) rfl rfl hS ?_);intro b3 wz1 hS hBz1;refine V1 ?_;replace hS:St w _ [(b3,123,[v1,v2])]:=hS;refine J1 ?_;refine jp (mO rfl ?_);refine J1 ?_;refine jq (oB (v:=vL) (cs:=[vL]) rfl qv (hS0.j4 hS.j4).a2 rfl rfl (.inr rfl) (jp (ki rfl (hS0.la.j4 hS.j4) ⟨_,Tryz.underlying104⟩ ?_)));rw[hly];refine jh (j6 Tryz.call93 rfl (D6 g.n _ hn) ?_);rintro rm w3 ⟨bo,R0,rfl,hR0,hS3⟩;replace hS:=(hS.join hS3).perm aF;refine J2 ?_;refine jp (mO rfl ?_);refine J2 ?_;refine jq (oB (v:=vE) (cs:=[vE]) rfl oY (hS0.j4 hS.j4).a0 rfl rfl (.inr rfl) (jp (ki rfl (hS0.gr.es.j4 hS.j4) ⟨_,Tryz.underlying26⟩ ?_)));refine J1 ?_;refine jb ?_;rw[hle];refine kx (λρ w'=>ρ 0=pB bs/\ρ 3=pB b3/\ρ 5= .slice (some ⟨bo,0,none⟩) g.n g.n/\∃R,mx R g.n g.n (qM (y0 (mL (AZ g B sl) g.n)))/\St w w' ([(b3,123,[v1,v2])]++mB j5 32 34 bo R [])) ?_ ?_
 ·refine ja ?_;refine ku (σ:=Nat) (λi ρ w'=>i<=g.n/\ρ 0=pB bs/\ρ 3=pB b3/\ρ 5= .slice (some ⟨bo,0,none⟩) g.n g.n/\ρ 31=vE/\ρ 32=iB g.n/\ρ 33=iB i/\∃R,mx R g.n g.n (qM (y0 (mL (AZ g B sl) i)))/\St w w' ([(b3,123,[v1,v2])]++mB j5 32 34 bo R [])) (λi=>g.n-i) 0
   ⟨aB _,rfl,rfl,rfl,rfl,rfl,rfl,R0,hR0,hS⟩ ?_
  clear hS hS3;rintro i ρ w2 ⟨hi,h0,h3,h5,h31,h32,h33,R,hR,hS⟩;refine V1 ?_;by_cases hlt:i<g.n
  ·refine V1 ?_;obtain⟨a1,c1,a2,l2,c2,hev⟩:=hS0.gr.form hlt;have hge:(ky g.n λi=>((g.e i).cash,ev.getD i sa)).getD i pV=((g.e i).cash,.slice a1 (g.e i).cl.length c1,.slice a2 l2 c2):=by rw[kz _ _ hlt,hev]
   have hcl:=hS0.gr.cl i hlt;rw[hev]at hcl;dsimp only at hcl;have hcm:=hcl.maxLen;refine J1 ?_;refine jp (kj (i:=i) h31 h33 (hS0.gr.es.j4 hS.j4) oO dO pP (jq (kt (v:=Mz (g.e i).cash (.slice a1 (g.e i).cl.length c1) (.slice a2 l2 c2)) (i:=i) pV rfl sZ (hS0.gr.es.j4 hS.j4) oO rfl (by rw[hge];rfl) (.inl rfl) ?_)));refine J1 ?_;intro b7 wz2 hS hBz2;refine J2 ?_;intro wz3 hS;refine ja ?_;obtain⟨bE,hbE⟩:∃bE:kU,bE=(b7,51,kw ((g.e i).cash,.slice a1 (g.e i).cl.length c1,.slice a2 l2 c2)):=⟨_,rfl⟩;replace hS:St w _ ([(b7,51,kw ((g.e i).cash,.slice a1 (g.e i).cl.length c1,.slice a2 l2 c2)),(b3,123,[v1,v2])]++mB j5 32 34 bo R []):=hS;refine J2 ?_;refine jp (ki rfl (hcl.j4 hS.j4) ⟨_,Tryz.underlying48⟩ ?_);refine J1 ?_;refine jb ?_;obtain⟨T0,hT0⟩:=jz (mL (AZ g B sl) i);have hT1:mL (AZ g B sl) (i+1)=T0++mL (sS g B sl i) (g.cn i):=by rw[oC,hT0];rfl
   rw[<-hT0]at hR;have hpre:∀c,c<g.cn i->∀o,sS g B sl i c=[o]->Ph g.n (T0++mL (sS g B sl i) c) o:=by
    intro c hc o ho;refine hK.gr _ _ ?_;have h1:mL (sS g B sl i) c++[o]<+:AZ g B sl i:=zE _ hc (by rw[ho];exact gI _);have h2:=zE (AZ g B sl) hlt h1;rw[aI,hT0];exact h2.trans (jA _ _)
   refine kx (λρ w'=>ρ 0=pB bs/\ρ 3=pB b3/\ρ 5= .slice (some ⟨bo,0,none⟩) g.n g.n/\ρ 31=vE/\ρ 32=iB g.n/\ρ 33=iB i/\∃R,mx R g.n g.n (qM (y0 (T0++mL (sS g B sl i) (g.cn i))))/\St w w' ([(b3,123,[v1,v2])]++mB j5 32 34 bo R [])) ?_ ?_
   ·refine ja ?_;refine ku (σ:=Nat) (λc ρ w'=>c<=g.cn i/\ρ 0=pB bs/\ρ 3=pB b3/\ρ 5= .slice (some ⟨bo,0,none⟩) g.n g.n/\ρ 6=iB i/\ρ 31=vE/\ρ 32=iB g.n/\ρ 33=iB i/\ρ 39= .slice a1 (g.e i).cl.length c1/\ρ 40=iB (g.cn i)/\ρ 41=iB c/\∃R,mx R g.n g.n (qM (y0 (T0++mL (sS g B sl i) c)))/\St w w' ([(b3,123,[v1,v2])]++mB j5 32 34 bo R [])) (λc=>g.cn i-c) 0
     ⟨aB _,jY,jY,jY,rfl,jY,jY,jY,rfl,rfl,rfl,R,by rw[show T0++mL (sS g B sl i) 0=T0 from aU _];exact hR,hS.drop (ab _ _)⟩ ?_
    clear hS hR h0 h3 h5 h31 h32 h33;rintro c ρ w4 ⟨hc,h0,h3,h5,h6,h31,h32,h33,h39,h40,h41,R,hR,hS⟩;refine V1 ?_;by_cases hcl':c<g.cn i
    ·refine V1 ?_;have hir:=hS0.ir i hlt;have hbl:=j9 (g.cn i) (B i);have hgb:(ky (g.cn i) (B i)).getD c false=B i c:=kz _ _ hcl';have hsucc:T0++mL (sS g B sl i) (c+1)=T0++(mL (sS g B sl i) c++sS g B sl i c):=by rw[oC]
     have hcc:c<(g.e i).cl.length:=hcl';obtain⟨k,hk⟩:=jz ((g.e i).cl.getD c pb);have hkc:g.c i c=k:=by rw[hk];rfl
     refine J1 ?_;refine jp (kj (i:=c) h39 h41 (hcl.j4 hS.j4) oO dO qO (jq (kt (i:=c) pb rfl tM (hcl.j4 hS.j4) dO rfl rfl (.inl rfl) ?_)));refine J1 ?_;intro b9 wz4 hS hBz4;refine J2 ?_;intro wz5 hS;refine ja ?_;rw[<-hk]at hS;replace hS:St w _ ([(b9,53,lZ k),(b3,123,[v1,v2])]++mB j5 32 34 bo R []):=hS;by_cases hh1:k.h= -1
     ·have e0:sS g B sl i c=[]:=by unfold sS;rw[hkc,ah (λq=>q.1 hh1)]
      refine J4 ?_;refine kL (ka 49 kR rfl (ae (by exact λq=>q hh1))) ?_;refine kL (ka 49 kR rfl (ae (by exact λq=>q hh1))) ?_;refine kL (ka 49 kR rfl (ae (by exact λq=>q hh1))) ?_;refine kL (ka 49 kR rfl (ae (by exact λq=>q hh1))) ?_;refine kL (ka 49 kR rfl (ae (by exact λq=>q hh1))) ?_;refine kL (ka 49 kR rfl (ae (by exact λq=>q hh1))) ?_;refine kL (ka 49 kR rfl (ae (by exact λq=>q hh1))) ?_;refine kL (ka 49 kR rfl (ae (by exact λq=>q hh1))) ?_;refine kL (ka 49 kR rfl (ae (by exact λq=>q hh1))) ?_;refine kL (ka 49 kR rfl (ae (by exact λq=>q hh1))) ?_;refine kL (ka 49 kR rfl (ae (by exact λq=>q hh1))) ?_;refine jp (kA (vb rfl (ae (by exact λq=>q hh1))) rfl ?_);refine ja ?_;refine lx rfl (rfl) ?_;refine V2 ?_;rw[e0,aU]at hsucc;rw[<-hsucc]at hR;exact⟨c+1,_,rfl,⟨hcl',jY,jY,jY,jY,jY,jY,jY,jY,jY,vi rfl oO,R,hR,hS.drop (ab _ _)⟩,oO⟩
     ·refine J4 ?_;refine ke (j7 49 kR rfl (ao hh1)) (ko h0 (ke (j7 49 kR rfl (ao hh1)) (mO rfl (ke (j7 49 kR rfl (ao hh1)) (lC rfl CG (lj (j7 49 kR rfl (ao hh1)) (oB (v:=vI) (cs:=[vI]) rfl ui (hS0.j4 hS.j4).a3 rfl rfl (.inr rfl) (ke (j7 49 kR rfl (ao hh1)) (ko h6 (ke (j7 49 kR rfl (ao hh1)) (kj (i:=i) rfl rfl (hS0.ii.j4 hS.j4) oO dO Gc (lj (j7 49 kR rfl (ao hh1)) (kt (i:=i) undef rfl wJ (hS0.ii.j4 hS.j4) dO rfl rfl (.inr rfl) (ke (j7 49 kR rfl (ao hh1)) (ko rfl (ke (j7 49 kR rfl (ao hh1)) (kj (i:=c) rfl rfl (hir.j4 hS.j4) oO dO pT (lj (j7 49 kR rfl (ao hh1)) (kt (i:=c) false rfl p9 (hir.j4 hS.j4) dO rfl rfl (.inr rfl) (ke (j7 49 kR rfl (ao hh1)) (xU rfl (jp (kA (vb rfl (ao hh1)) rfl ?_)))))))))))))))))))))));refine ja ?_;cases hb:B i c with
      |true=>
       have e0:sS g B sl i c=[]:=by unfold sS;rw[hkc,hb,ah (λq=>by cases q.2)]
       refine lx rfl ((bQ not (hgb.trans hb))) ?_;refine V2 ?_;rw[e0,aU]at hsucc;rw[<-hsucc]at hR;exact⟨c+1,_,rfl,⟨hcl',jY,jY,jY,jY,jY,jY,jY,jY,jY,vi rfl oO,R,hR,hS.drop (ab _ _)⟩,oO⟩
      |false=>
       obtain⟨a,han,hha⟩:=hho i hlt c hcl' (by rw[hkc];exact hh1);rw[hkc]at hha;have e0:sS g B sl i c=[(a,i,sl i c)]:=by unfold sS;rw[hkc,hb,aj ⟨hh1,rfl⟩,hha];rfl
       obtain⟨kh,kr,kq⟩:=k;dsimp only at hha;subst hha;have hLo:L (y0 (T0++mL (sS g B sl i) c) a i)+L (sl i c)<=MX:=(hpre c hcl' _ e0).2.2;have hgr:=λwz h=>EG (w0:=w) (bo:=bo) (pre:=[(b9,53,lZ ⟨a,kr,kq⟩),(b3,123,[v1,v2])]) (H:=[]) g.n a i (sl i c) wz hR han hlt hLo h;have hrow:=hM2.row i (by rw[ns];exact hlt);rw[u4 _ _ hlt]at hrow;have hrl:=j9 (g.cn i) λc=>j8 (sl i c);have hg2:(ky (g.cn i) λc=>j8 (sl i c)).getD c kP=j8 (sl i c):=kz _ _ hcl';refine k9 rfl ((bQ not (hgb.trans hb))) ?_;refine ja ?_;refine kC [jo 0,jo 1,ju 2,jo 3,jo 4,ju 5,jo 6,jo 7,ju 8,jo 9,jo 10,ju 11,jw 12] kR kR hS ?_;intro wz6 hS hBz6;refine J7 ?_;refine jl rfl (kj (i:=i) rfl rfl (hM2.sl.j4 hS.j4) oO dO lH (jm rfl (kt (i:=i) undef rfl lQ (hM2.sl.j4 hS.j4) dO rfl rfl (.inr rfl) ?_)));refine J1 ?_;refine jl rfl (kj (i:=c) rfl rfl (hrow.j4 hS.j4) oO dO kK (jm rfl (kt (i:=c) kP rfl kf (hrow.j4 hS.j4) dO rfl rfl (.inl rfl) ?_)));rw[hg2];refine jx rfl (j6 Tryz.call94 rfl (hgr _ hS) ?_);rintro rg w6 ⟨rfl,R',hR',hS⟩;refine V2 ?_;have em:ry (y0 (T0++mL (sS g B sl i) c)) a i (sl i c)=y0 (T0++mL (sS g B sl i) (c+1)):=by
        rw[oC,e0,<-aI,BY]
       rw[em]at hR';exact⟨c+1,_,rfl,⟨hcl',jY,jY,jY,jY,jY,jY,jY,jY,jY,vi rfl oO,R',hR',hS.drop (ab _ _)⟩,oO⟩
    ·refine J1 ?_;refine jt ?_;obtain rfl:c=g.cn i:=oO;exact⟨_,rfl,h0,h3,h5,h31,h32,h33,R,hR,hS⟩
   clear hS hR h0 h3 h5 h31 h32 h33;rintro ρ w4 ⟨h0,h3,h5,h31,h32,h33,R,hR,hS⟩;rw[<-hT1]at hR;refine V2 ?_;exact⟨i+1,_,rfl,⟨hlt,jY,jY,jY,jY,jY,vi rfl oO,R,hR,hS⟩,oO⟩
  ·refine J1 ?_;refine jt ?_;obtain rfl:i=g.n:=oO;exact⟨_,rfl,h0,h3,h5,R,hR,hS⟩
 clear hS hS3 hR0;rintro ρ w2 ⟨h0,h3,h5,R,hR,hS⟩;obtain⟨T0,hT0⟩:=jz (mL (AZ g B sl) g.n);have hTT:IP g B dl sl=T0++mL (Dl g dl sl) g.ds.length:=by rw[hT0];rfl
 rw[<-hT0]at hR;refine J1 ?_;refine jp (mO rfl ?_);refine J2 ?_;refine jq (oB (v:=vD) (cs:=[vD]) rfl sA (hS0.j4 hS.j4).a1 rfl rfl (.inr rfl) (jp (ki rfl (hS0.gr.ds.j4 hS.j4) ⟨_,Tryz.underlying27⟩ ?_)));refine J1 ?_;refine jb ?_;rw[hld];refine kx (λρ w'=>ρ 5= .slice (some ⟨bo,0,none⟩) g.n g.n/\∃R,mx R g.n g.n (qM (y0 (IP g B dl sl)))/\St w w' ([(b3,123,[v1,v2])]++mB j5 32 34 bo R [])) ?_ ?_
 ·refine ja ?_;refine ku (σ:=Nat) (λd ρ w'=>d<=g.ds.length/\ρ 0=pB bs/\ρ 3=pB b3/\ρ 5= .slice (some ⟨bo,0,none⟩) g.n g.n/\ρ 81=vD/\ρ 82=iB g.ds.length/\ρ 83=iB d/\∃R,mx R g.n g.n (qM (y0 (T0++mL (Dl g dl sl) d)))/\St w w' ([(b3,123,[v1,v2])]++mB j5 32 34 bo R [])) (λd=>g.ds.length-d) 0
   ⟨aB _,jY,jY,jY,rfl,rfl,rfl,R,by rw[show T0++mL (Dl g dl sl) 0=T0 from aU _];exact hR,hS⟩ ?_
  clear hS hR h0 h3 h5;rintro d ρ w2 ⟨hd,h0,h3,h5,h81,h82,h83,R,hR,hS⟩;have hdm:=hS0.gr.ds.maxLen;rw[hld]at hdm;refine V1 ?_;by_cases hlt:d<g.ds.length
  ·refine V1 ?_;have hlg:=hS0.gr.lg d hlt;obtain⟨al,cl,hvl,_⟩:=hlg.form;rw[hvl]at hlg;obtain⟨m,hm⟩:=jz (mw g d);have hm':(g.d d).legs.length=m:=hm.symm;rw[hm']at hvl hlg;have hmk:=hK.ln d hlt;rw[<-hm]at hmk;have hgd:(ky g.ds.length λk=>((g.d k).W,dv.getD k undef)).getD d JP=((g.d d).W,.slice al m cl):=by rw[kz _ _ hlt,hvl]
   have hok:∀j,j<(g.d d).legs.length->((g.d d).legs.getD j (0,0)).1<g.n/\((g.d d).legs.getD j (0,0)).2<g.cn ((g.d d).legs.getD j (0,0)).1:=hl d hlt;have hhold:=λwz h=>λh0:0<(g.d d).legs.length=>MO d wz (hS0.j4 h) hlt h0 hl;rw[hvl]at hhold;refine jr ?_;refine jp (kj (i:=d) h81 h83 (hS0.gr.ds.j4 hS.j4) oO dO tK (jq (kt (v:=Ql (g.d d).W (.slice al m cl)) (i:=d) JP rfl ss (hS0.gr.ds.j4 hS.j4) oO rfl (by rw[hgd];rfl) (.inl rfl) ?_)));refine J1 ?_;intro b11 wz7 hS hBz7;refine J1 ?_;intro wz8 hS;refine ja ?_;obtain⟨bD,hbD⟩:=jz (lL ((g.d d).W,.slice al m cl));replace hS:St w _ ([(b11,64,lL ((g.d d).W,.slice al m cl)),(b3,123,[v1,v2])]++mB j5 32 34 bo R []):=hS;refine ja ?_;refine kC [ju 0,jo 1,ju 2,ju 4,jo 5,ju 6,jv 3,jv 7,jo 8,jo 9] kR kR hS ?_;intro wz9 hS hBz9;refine J6 ?_;refine jn rfl (j6 Tryz.call54 rfl (Ff (.slice al m cl) v1 u1 (g.d d).W (g.d d).legs g.n g.cn dl _ (hlg.j4 hS.j4) (hM1.j4 hS.j4) hok oO) ?_);rintro rq w5 ⟨Lq,hGq,hS5⟩;refine⟨hS5.j4,?_⟩;replace hS:=(hS.join hS5).perm aF;refine jn rfl (j6 Tryz.call54 rfl (Ff (.slice al m cl) v2 u2 (g.d d).W (g.d d).legs g.n g.cn sl _ (hlg.j4 hS.j4) (hM2.j4 hS.j4) hok oO) ?_);rintro rs w6 ⟨Ls,hGs,hS6⟩;refine⟨hS6.j4,?_⟩;replace hS:=(hS.join hS6).perm aF;refine V2 ?_;rw[hm']at hGq hGs;have eq:(ky m λj=>j8 (dl ((g.d d).legs.getD j (0,0)).1 ((g.d d).legs.getD j (0,0)).2))=ky m λj=>j8 (qD g dl d j):=rfl;rw[eq]at hGq;clear eq;obtain⟨sd,hsd⟩:∃sd:Nat->Rat,sd=λj=>sl (g.lg d j).1 (g.lg d j).2:=⟨_,rfl⟩;have es:(ky m λj=>j8 (sl ((g.d d).legs.getD j (0,0)).1 ((g.d d).legs.getD j (0,0)).2))=ky m λj=>j8 (sd j):=by rw[hsd];rfl
   rw[es]at hGs;clear es;obtain⟨aq,cq,hvq⟩:=hGq.len;obtain⟨az,cz,hvz⟩:=hGs.len;rw[j9]at hvq hvz;subst hvq hvz;obtain⟨T1,hT1⟩:=jz (T0++mL (Dl g dl sl) d);have hT1':T0++mL (Dl g dl sl) (d+1)=T1++mL (wB g dl sl d) g.n:=by rw[oC,hT1,aI];rfl
   rw[<-hT1]at hR;have hpre:∀i,i<g.n->∀P o,(P++[o])<+:wB g dl sl d i->Ph g.n ((T1++mL (wB g dl sl d) i)++P) o:=by
    intro i hi P o ho;refine hK.gr _ _ ?_;have h2:=zE (wB g dl sl d) hi ho;have h3:=zE (Dl g dl sl) hlt h2;rw[hTT,hT1];simp only[aI]at h3⊢;exact(j2 _).2 h3
   rw[aI]at hS;replace hS:St w _ (([(b11,64,lL ((g.d d).W,.slice al m cl)),(b3,123,[v1,v2])]++(Lq++Ls))++mB j5 32 34 bo R []):=hS.perm (Wp _ _ _);have hqs:∀wx Z,St w wx (([(b11,64,lL ((g.d d).W,.slice al m cl)),(b3,123,[v1,v2])]++(Lq++Ls))++Z)->Sl j5 3 wx (.slice aq m cq) (ky m λj=>j8 (qD g dl d j))/\Sl j5 3 wx (.slice az m cz) (ky m λj=>j8 (sd j)):=λwx Z h=>⟨FA hGq ((ak Lq Ls).trans (ai _ _)) h ks,FA hGs ((ai Lq Ls).trans (ai _ _)) h ks⟩;obtain⟨LL,hLL⟩:=jz (Lq++Ls);rw[<-hLL]at hS hqs;have htz:=j9 m λj=>j8 (sd j);clear hGq hGs hS5 hS6;refine J1 ?_;refine jp (mO rfl ?_);refine J1 ?_;refine jq (oB (v:=vL) (cs:=[vL]) rfl qv (hS0.j4 hS.j4).a2 rfl rfl (.inr rfl) (jp (ki rfl (hS0.la.j4 hS.j4) ⟨_,Tryz.underlying104⟩ ?_)));refine J1 ?_;refine jb ?_;rw[hly];refine kx (λρ w'=>ρ 0=pB bs/\ρ 3=pB b3/\ρ 5= .slice (some ⟨bo,0,none⟩) g.n g.n/\ρ 81=vD/\ρ 82=iB g.ds.length/\ρ 83=iB d/\∃R,mx R g.n g.n (qM (y0 (T1++mL (wB g dl sl d) g.n)))/\St w w' ([(b3,123,[v1,v2])]++mB j5 32 34 bo R [])) ?_ ?_
   ·refine ja ?_;refine ku (σ:=Nat) (λi ρ w'=>i<=g.n/\ρ 0=pB bs/\ρ 3=pB b3/\ρ 5= .slice (some ⟨bo,0,none⟩) g.n g.n/\ρ 11=pB b11/\ρ 12= .slice aq m cq/\ρ 13= .slice az m cz/\ρ 81=vD/\ρ 82=iB g.ds.length/\ρ 83=iB d/\ρ 99=iB g.n/\ρ 100=iB i/\
      ∃R,mx R g.n g.n (qM (y0 (T1++mL (wB g dl sl d) i)))/\St w w' (([(b11,64,lL ((g.d d).W,.slice al m cl)),(b3,123,[v1,v2])]++LL)++mB j5 32 34 bo R [])) (λi=>g.n-i) 0
     ⟨aB _,jY,jY,jY,rfl,rfl,rfl,jY,jY,jY,rfl,rfl,R,by rw[show T1++mL (wB g dl sl d) 0=T1 from aU _];exact hR,hS⟩ ?_
    clear hS hR h0 h3 h5 h81 h82 h83;rintro i ρ w4 ⟨hi,h0,h3,h5,h11,h12,h13,h81,h82,h83,h99,h100,R,hR,hS⟩;refine V1 ?_;by_cases hil:i<g.n
    ·refine J5 ?_;refine jh (lR (enc:=j5) (n:=m) kP rfl rfl kK rfl oO oO oO oO hS ?_);intro b105 wz10 hS hBz10;refine V1 ?_;have hS':=hS.perm (eD _ _).symm;rw[lB]at hS';clear hS;have hS:=hS';clear hS';have hG:Gl j5 32 3 (.slice (some ⟨b105,0,none⟩) m m) (ky m λk=>j8 (we (qS g sl d i) 0 k)) [(b105,32,(ky m λk=>j8 (we (qS g sl d i) 0 k)).flatMap j5)]:=pK (j9 _ _) oO;refine J2 ?_;refine jp (ki rfl (hlg.j4 hS.j4) ⟨_,Tryz.underlying62⟩ ?_);refine J1 ?_;refine jb ?_;rw[hm'];refine kx (λρ w'=>ρ 0=pB bs/\ρ 3=pB b3/\ρ 5= .slice (some ⟨bo,0,none⟩) g.n g.n/\ρ 11=pB b11/\ρ 12= .slice aq m cq/\ρ 13= .slice az m cz/\ρ 14=iB i/\ρ 15= .slice (some ⟨b105,0,none⟩) m m/\ρ 81=vD/\ρ 82=iB g.ds.length/\ρ 83=iB d/\ρ 99=iB g.n/\ρ 100=iB i/\
       ∃Lo,Gl j5 32 3 (.slice (some ⟨b105,0,none⟩) m m) (ky m λk=>j8 (qS g sl d i k)) Lo/\St w w' ((([(b11,64,lL ((g.d d).W,.slice al m cl)),(b3,123,[v1,v2])]++LL)++mB j5 32 34 bo R [])++Lo)) ?_ ?_
     ·refine ja ?_;refine ku (σ:=Nat) (λk ρ w'=>k<=m/\ρ 0=pB bs/\ρ 3=pB b3/\ρ 5= .slice (some ⟨bo,0,none⟩) g.n g.n/\ρ 11=pB b11/\ρ 12= .slice aq m cq/\ρ 13= .slice az m cz/\ρ 14=iB i/\ρ 15= .slice (some ⟨b105,0,none⟩) m m/\ρ 81=vD/\ρ 82=iB g.ds.length/\ρ 83=iB d/\ρ 99=iB g.n/\ρ 100=iB i/\ρ 107= .slice al m cl/\ρ 108=iB m/\ρ 109=iB k/\
        ∃Lo,Gl j5 32 3 (.slice (some ⟨b105,0,none⟩) m m) (ky m λj=>j8 (we (qS g sl d i) k j)) Lo/\St w w' ((([(b11,64,lL ((g.d d).W,.slice al m cl)),(b3,123,[v1,v2])]++LL)++mB j5 32 34 bo R [])++Lo)) (λk=>m-k) 0
       ⟨aB _,jY,jY,jY,jY,jY,jY,rfl,rfl,jY,jY,jY,jY,jY,rfl,rfl,rfl,_,hG,hS⟩ ?_
      clear hS hG h0 h3 h5 h11 h12 h13 h81 h82 h83 h99 h100;rintro k ρ w5 ⟨hk,h0,h3,h5,h11,h12,h13,h14,h15,h81,h82,h83,h99,h100,h107,h108,h109,Lo,hG,hS⟩;have htl:=j9 m λj=>j8 (we (qS g sl d i) k j);refine V1 ?_;by_cases hkl:k<m
      ·refine V1 ?_;obtain⟨p,hp⟩:=jz ((g.d d).legs.getD k (0,0));have hpl:g.lg d k=p:=by rw[hp];rfl
       have hgs:(ky m λj=>j8 (sd j)).getD k kP=j8 (sd k):=kz _ _ hkl;refine J1 ?_;refine jp (kj (i:=k) h107 h109 (hlg.j4 hS.j4) oO dO qp (jq (kt (i:=k) (0,0) rfl qq (hlg.j4 hS.j4) dO rfl rfl (.inl rfl) ?_)));refine J1 ?_;intro b17 wz11 hS hBz11;refine J2 ?_;intro wz12 hS;refine ja ?_;rw[<-hp]at hS;replace hS:St w _ (((b17,66,nx p)::(([(b11,64,lL ((g.d d).W,.slice al m cl)),(b3,123,[v1,v2])]++LL)++mB j5 32 34 bo R []))++Lo):=hS;have hzs:∀wx,St w wx (((b17,66,nx p)::(([(b11,64,lL ((g.d d).W,.slice al m cl)),(b3,123,[v1,v2])]++LL)++mB j5 32 34 bo R []))++Lo)->Sl j5 3 wx (.slice az m cz) (ky m λj=>j8 (sd j)):=λwx h=>(hqs wx _ ((h.drop (ak _ Lo)).drop (ab _ _))).2;refine V4 ?_;by_cases hpi:p.1=i
       ·refine V1 ?_;have how:qS g sl d i k=sd k:=by unfold qS;rw[hpl,aj hpi,hsd];dsimp only;rw[hpl]
        refine J4 ?_;refine jp (kj (i:=k) rfl rfl (hzs _ hS) oO dO kK (jq (kt (i:=k) kP rfl kf (hzs _ hS) dO rfl rfl (.inl rfl) (jp (kj (i:=k) rfl rfl (hG.sl hS ks) oO dO kK (jh (tD (i:=k) (j8 (qS g sl d i k)) ks rfl rfl kf hG hS oO (by rw[hgs,how];rfl) rfl ?_)))))));intro wz13 hS;refine ja ?_;obtain⟨LC2,hG,hS⟩:=hS;rw[vO]at hG;refine V2 ?_;exact⟨k+1,_,rfl,⟨hkl,jY,jY,jY,jY,jY,jY,jY,jY,jY,jY,jY,jY,jY,jY,jY,vi rfl oO,_,hG,hS.drop (ab _ _)⟩,oO⟩
       ·refine V1 ?_;have how:qS g sl d i k=0:=by unfold qS;rw[hpl,ah hpi]
        have e2:(ky m λj=>j8 (we (qS g sl d i) k j))=ky m λj=>j8 (we (qS g sl d i) (k+1) j):=kF λj _=>by
         unfold we;by_cases q1:j=k
         ·rw[q1,ah oO,aj oO,how]
         ·by_cases q2:j<k
          ·rw[aj q2,aj oO]
          ·rw[ah q2,ah oO]
        rw[e2]at hG;refine V2 ?_;exact⟨k+1,_,rfl,⟨hkl,jY,jY,jY,jY,jY,jY,jY,jY,jY,jY,jY,jY,jY,jY,jY,vi rfl oO,_,hG,hS.drop (ab _ _)⟩,oO⟩
      ·refine J1 ?_;refine jt ?_;obtain rfl:m=k:=oO;rw[vB]at hG;exact⟨_,rfl,h0,h3,h5,h11,h12,h13,h14,h15,h81,h82,h83,h99,h100,Lo,hG,hS⟩
     clear hS hG h0 h3 h5 h11 h12 h13 h81 h82 h83 h99 h100;rintro ρ w5 ⟨h0,h3,h5,h11,h12,h13,h14,h15,h81,h82,h83,h99,h100,Lo,hG,hS⟩;have hW:=hK.W d hlt;have hsub:=λwx (h:St w wx ((([(b11,64,lL ((g.d d).W,.slice al m cl)),(b3,123,[v1,v2])]++LL)++mB j5 32 34 bo R [])++Lo))=>(hqs wx _ (h.drop (ak _ Lo))).1;refine J4 ?_;refine jh (j6 Tryz.call95 rfl (NM (.slice aq m cq) (.slice (some ⟨b105,0,none⟩) m m) m (g.d d).W (qD g dl d) (qS g sl d i) K _ (hsub _ hS) (hG.sl hS ks) hmk hW (λj hj=>⟨(hK.q d hlt j oO).1,(hK.q d hlt j oO).2 i hil⟩) (λj hj=>⟨(hK.s d hlt j oO).1,(hK.s d hlt j oO).2 i hil⟩) hK.k) ?_);rintro rr w8 ⟨Lr,hGr,hS8⟩;replace hS:=(hS.join hS8).perm (Xc Lr _ _ Lo);have er:(ky m λj=>j8 (Dg (g.d d).W (qD g dl d) (qS g sl d i) j))=ky m λj=>j8 (wY g dl sl d i j):=rfl;rw[er]at hGr;clear er;obtain⟨ar,cr,hvr⟩:=hGr.len;rw[j9]at hvr;subst hvr;have hrt:∀wx Z,St w wx (([(b11,64,lL ((g.d d).W,.slice al m cl)),(b3,123,[v1,v2])]++LL)++(Lr++Lo)++Z)->Sl j5 3 wx (.slice ar m cr) (ky m λj=>j8 (wY g dl sl d i j))/\Sl j5 3 wx (.slice (some ⟨b105,0,none⟩) m m) (ky m λj=>j8 (qS g sl d i j)):=λwx Z h=>⟨FA hGr ((ak Lr Lo).trans (ai _ _)) h ks,FA hG ((ai Lr Lo).trans (ai _ _)) h ks⟩;obtain⟨LR,hLR⟩:=jz (Lr++Lo);rw[<-hLR]at hS hrt;clear hGr hG hS8 hsub;have hrtl:=j9 m λj=>j8 (wY g dl sl d i j);have howl:=j9 m λj=>j8 (qS g sl d i j);refine J4 ?_;refine jb ?_;obtain⟨T2,hT2⟩:=jz (T1++mL (wB g dl sl d) i);have hdi:wB g dl sl d i=mL (xI g dl sl d i) m++z6 g dl sl d i:=by rw[hm];rfl
     have hT2':T1++mL (wB g dl sl d) (i+1)=T2++(mL (xI g dl sl d i) m++z6 g dl sl d i):=by rw[oC,hT2,aI,hdi]
     have hpre2:=hpre i hil;rw[<-hT2]at hR hpre2;refine kx (λρ w'=>ρ 0=pB bs/\ρ 3=pB b3/\ρ 5= .slice (some ⟨bo,0,none⟩) g.n g.n/\ρ 11=pB b11/\ρ 12= .slice aq m cq/\ρ 13= .slice az m cz/\ρ 14=iB i/\ρ 15= .slice (some ⟨b105,0,none⟩) m m/\ρ 18= .slice ar m cr/\ρ 81=vD/\ρ 82=iB g.ds.length/\ρ 83=iB d/\ρ 99=iB g.n/\ρ 100=iB i/\∃R,mx R g.n g.n (qM (y0 (T2++mL (xI g dl sl d i) m)))/\St w w' ((([(b11,64,lL ((g.d d).W,.slice al m cl)),(b3,123,[v1,v2])]++LL)++LR)++mB j5 32 34 bo R [])) ?_ ?_
     ·refine ja ?_;refine ku (σ:=Nat) (λk ρ w'=>k<=m/\ρ 0=pB bs/\ρ 3=pB b3/\ρ 5= .slice (some ⟨bo,0,none⟩) g.n g.n/\ρ 11=pB b11/\ρ 12= .slice aq m cq/\ρ 13= .slice az m cz/\ρ 14=iB i/\ρ 15= .slice (some ⟨b105,0,none⟩) m m/\ρ 18= .slice ar m cr/\ρ 81=vD/\ρ 82=iB g.ds.length/\ρ 83=iB d/\ρ 99=iB g.n/\ρ 100=iB i/\ρ 131= .slice ar m cr/\ρ 132=iB m/\ρ 133=iB k/\∃R,mx R g.n g.n (qM (y0 (T2++mL (xI g dl sl d i) k)))/\St w w' ((([(b11,64,lL ((g.d d).W,.slice al m cl)),(b3,123,[v1,v2])]++LL)++LR)++mB j5 32 34 bo R [])) (λk=>m-k) 0
       ⟨aB _,jY,jY,jY,jY,jY,jY,jY,jY,rfl,jY,jY,jY,jY,jY,rfl,rfl,rfl,R,by rw[show T2++mL (xI g dl sl d i) 0=T2 from aU _];exact hR,hS⟩ ?_
      clear hS hR h0 h3 h5 h11 h12 h13 h14 h15 h81 h82 h83 h99 h100;rintro k ρ w9 ⟨hk,h0,h3,h5,h11,h12,h13,h14,h15,h18,h81,h82,h83,h99,h100,h131,h132,h133,R,hR,hS⟩;refine V1 ?_;by_cases hkl:k<m
      ·refine V1 ?_;have hgr:(ky m λj=>j8 (wY g dl sl d i j)).getD k kP=j8 (wY g dl sl d i k):=kz _ _ hkl;have e0:xI g dl sl d i k=[((g.lg d k).1,i,wY g dl sl d i k)]:=rfl;have hin:=hpre2 (mL (xI g dl sl d i) k) ((g.lg d k).1,i,wY g dl sl d i k) (by rw[hdi];exact(zE (xI g dl sl d i) hkl (by rw[e0];exact gI _)).trans (jA _ _));have hLo:L (y0 (T2++mL (xI g dl sl d i) k) (g.lg d k).1 i)+L (wY g dl sl d i k)<=MX:=hin.2.2;have hle1:(g.lg d k).1<g.n:=(hl d hlt k oO).1;refine J1 ?_;refine jp (kj (i:=k) h131 h133 (hrt _ _ hS).1 oO dO kK (jq (kt (i:=k) kP rfl kf (hrt _ _ hS).1 dO rfl rfl (.inl rfl) ?_)));refine J1 ?_;intro b20 wz14 hS hBz14;refine J2 ?_;intro wz15 hS;refine ja ?_;rw[hgr]at hS;replace hS:St w _ (((b20,32,j5 (j8 (wY g dl sl d i k)))::(([(b11,64,lL ((g.d d).W,.slice al m cl)),(b3,123,[v1,v2])]++LL)++LR))++mB j5 32 34 bo R []):=hS;have hgg:=λwz h=>EG (w0:=w) (bo:=bo) (pre:=((b20,32,j5 (j8 (wY g dl sl d i k)))::(([(b11,64,lL ((g.d d).W,.slice al m cl)),(b3,123,[v1,v2])]++LL)++LR))) (H:=[]) g.n (g.lg d k).1 i (wY g dl sl d i k) wz hR hle1 hil hLo h;refine ja ?_;refine kC [jo 0,jo 1,ju 2,jo 3,jo 4,jo 5,ju 6,jo 7,ju 8,jw 9] kR kR hS ?_;intro wz16 hS hBz16;refine J4 ?_;refine jl rfl (kj (i:=k) rfl rfl (hlg.j4 hS.j4) oO dO qp ?_);refine jl rfl (oR rfl (nw (hlg.j4 hS.j4) (λ_=>rfl) dD dO) vu ?_);refine jm rfl (oL (i:=k) (off:=0) (0,0) rfl nm (hlg.j4 hS.j4) (λ_=>rfl) dD dO rfl rfl (.inr rfl) ?_);refine J2 ?_;refine jx rfl (j6 Tryz.call94 rfl (hgg _ hS) ?_);rintro rg w10 ⟨rfl,R',hR',hS⟩;refine V2 ?_;have em:ry (y0 (T2++mL (xI g dl sl d i) k)) (g.lg d k).1 i (wY g dl sl d i k)=y0 (T2++mL (xI g dl sl d i) (k+1)):=by
        rw[oC,e0,<-aI,BY]
       rw[em]at hR';exact⟨k+1,_,rfl,⟨hkl,jY,jY,jY,jY,jY,jY,jY,jY,jY,jY,jY,jY,jY,jY,jY,jY,vi rfl oO,R',hR',hS.drop (ab _ _)⟩,oO⟩
      ·refine J1 ?_;refine jt ?_;obtain rfl:m=k:=oO;exact⟨_,rfl,h0,h3,h5,h11,h12,h13,h14,h15,h18,h81,h82,h83,h99,h100,R,hR,hS⟩
     clear hS hR h0 h3 h5 h11 h12 h13 h14 h15 h81 h82 h83 h99 h100;rintro ρ w9 ⟨h0,h3,h5,h11,h12,h13,h14,h15,h18,h81,h82,h83,h99,h100,R,hR,hS⟩;refine ja ?_;have hRno:z6 g dl sl d i=[]->mx R g.n g.n (qM (y0 (T1++mL (wB g dl sl d) (i+1)))):=λe=>by rw[hT2',e,aU];exact hR
     by_cases hm0:0<m
     ·refine J2 ?_;refine jp (ki rfl (hlg.j4 hS.j4) ⟨_,Tryz.underlying62⟩ ?_);refine J2 ?_;refine ke (j7 153 kR rfl dT) (ko h0 (lj (j7 153 kR rfl dT) (kO (k:=0) h11 ss hS rfl rfl rfl (.inl rfl) (pj (j7 153 kR rfl dT) (j6 Tryz.call96 rfl (hhold _ hS.j4 oO) ?_)))));rintro rh w10 ⟨rfl,hB10⟩;replace hS:=hS.km hB10;obtain⟨e1,e2⟩:=hl d hlt 0 oO;by_cases hz:Gr g d= -1
      ·refine ke (j7 153 kR rfl dT) (yI rfl rfl (jp (kA (vb rfl dT) rfl ?_)));refine ja ?_;refine lx rfl (ae (λq=>q hz)) ?_;refine V2 ?_;have hR':=hRno (by unfold z6;rw[ah (λq=>q.2 hz)]);exact⟨i+1,_,rfl,⟨hil,jY,jY,jY,jY,jY,jY,jY,jY,jY,jY,vi rfl oO,R,hR',hS.drop (bn (ak _ LR) (bK _))⟩,oO⟩
      ·obtain⟨a,han,hha⟩:=hho (g.lg d 0).1 e1 (g.lg d 0).2 e2 hz;replace hha:Gr g d=a:=hha;refine ke (j7 153 kR rfl dT) (yI rfl rfl (jp (kA (vb rfl dT) rfl ?_)));refine ja ?_;refine k9 rfl (ao hz) ?_;refine ja ?_;obtain⟨s1,s2,s3⟩:=hK.so d hlt i hil;rw[<-hm]at s1 s2 s3;obtain⟨z,hzd⟩:=jz (kg (qS g sl d i) m-kg (wY g dl sl d i) m);have e0:z6 g dl sl d i=[(a,i,z)]:=by unfold z6;rw[<-hm,aj ⟨hm0,hz⟩,hha,hzd];rfl
       have hin:=hpre2 (mL (xI g dl sl d i) m) (a,i,z) (by rw[hdi,e0];exact gI _);have hLo:L (y0 (T2++mL (xI g dl sl d i) m) a i)+L z<=MX:=hin.2.2;have hsb:=λw=>mA (j8 (kg (qS g sl d i) m)) (j8 (kg (wY g dl sl d i) m)) w (by rw[Lr_ofQ,Lr_ofQ];exact s3);rw[toQ_ofQ,toQ_ofQ,<-hzd]at hsb;have hgg:=λwz h=>EG (w0:=w) (bo:=bo) (pre:=(([(b11,64,lL ((g.d d).W,.slice al m cl)),(b3,123,[v1,v2])]++LL)++LR)) (H:=[]) g.n a i z wz hR han hil hLo h;refine J3 ?_;refine jh (j6 Tryz.call96 rfl (hhold _ hS.j4 oO) ?_);rintro rh2 w11 ⟨rfl,hB11⟩;rw[hha];replace hS:=hS.km hB11;refine J2 ?_;refine jh (j6 Tryz.call97 rfl (Ku _ _ _ (hrt _ _ hS).2 s1) ?_);rintro ro w12 ⟨rfl,hB12⟩;rw[Cg];replace hS:=hS.km hB12;refine J1 ?_;refine jh (j6 Tryz.call97 rfl (Ku _ _ _ (hrt _ _ hS).1 s2) ?_);rintro rp w13 ⟨rfl,hB13⟩;rw[Cg];replace hS:=hS.km hB13;refine jh (j6 Tryz.call16 rfl (hsb _) ?_);rintro rp2 w14 ⟨rfl,hB14⟩;replace hS:=hS.km hB14;refine jh (j6 Tryz.call94 rfl (hgg _ hS) ?_);rintro rg w15 ⟨rfl,R',hR',hS⟩;refine V2 ?_;have em:ry (y0 (T2++mL (xI g dl sl d i) m)) a i z=y0 (T1++mL (wB g dl sl d) (i+1)):=by
        rw[hT2',e0,<-aI,BY]
       rw[em]at hR';exact⟨i+1,_,rfl,⟨hil,jY,jY,jY,jY,jY,jY,jY,jY,jY,jY,vi rfl oO,R',hR',hS.drop (bn (ak _ LR) (bK _))⟩,oO⟩
     ·refine J2 ?_;refine jp (ki rfl (hlg.j4 hS.j4) ⟨_,Tryz.underlying62⟩ ?_);refine J2 ?_;refine kL (ka 153 kR rfl dF) (kL (ka 153 kR rfl dF) (kL (ka 153 kR rfl dF) (kL (ka 153 kR rfl dF) (jp (kA (vb rfl dF) rfl ?_)))));refine ja ?_;refine lx rfl (rfl) ?_;refine V2 ?_;have hR':=hRno (by unfold z6;rw[<-hm,ah (λq=>hm0 q.1)]);exact⟨i+1,_,rfl,⟨hil,jY,jY,jY,jY,jY,jY,jY,jY,jY,jY,vi rfl oO,R,hR',hS.drop (bn (ak _ LR) (bK _))⟩,oO⟩
    ·refine J1 ?_;refine jt ?_;obtain rfl:i=g.n:=oO;exact⟨_,rfl,h0,h3,h5,h81,h82,h83,R,hR,hS.drop (bn ((ab _ _).trans (ak _ LL)) (bK _))⟩
   clear hS hR h0 h3 h5 h81 h82 h83;rintro ρ w4 ⟨h0,h3,h5,h81,h82,h83,R,hR,hS⟩;rw[<-hT1']at hR;refine V2 ?_;exact⟨d+1,_,rfl,⟨hlt,jY,jY,jY,jY,jY,vi rfl oO,R,hR,hS⟩,oO⟩
  ·refine J1 ?_;refine jt ?_;obtain rfl:d=g.ds.length:=oO;rw[<-hTT]at hR;exact⟨_,rfl,h5,R,hR,hS⟩
 clear hS hR h0 h3 h5;rintro ρ w2 ⟨h5,R,hR,hS⟩;refine J2 ?_;refine jt ?_;refine kB rfl rfl ?_;exact⟨bo,R,rfl,hR,hS.drop (ai _ _)⟩
def E8 (o:Option Rat) (s:Rat):Option Rat:=match o with
 |none=>some s
 |some h=>if s<h then some s else some h
def vK (b11 b10:Nat) (o:Option Rat):List kU:=[(b11,4,[.bool o.isSome]),(b10,32,j5 (j8 (o.getD 0)))]
theorem JZ (b11 b10:Nat) (o:Option Rat) (gap rate:Rat) (H:List kU) (w0 w:World) (hr:rate≠0) (hL:L gap+L rate<=MX) (hL2:L (gap/rate)+L (o.getD 0)<=MX) (hS:St w0 w (vK b11 b10 o++H)):
  lU Tryz.prog 107 #[kW (j8 gap),kW (j8 rate),.pointer (some ⟨b11,0,none⟩),.pointer (some ⟨b10,0,none⟩)] w λr w'=>r= .tuple #[]/\St w0 w' (vK b11 b10 (E8 o (gap/rate))++H):=by
 obtain⟨s,hs⟩:=jz (gap/rate);have hdiv:=λw=>vw (j8 gap) (j8 rate) w (by rw[Lr_ofQ,Lr_ofQ];exact hL) (by rw[toQ_ofQ];exact hr);rw[toQ_ofQ,toQ_ofQ,<-hs]at hdiv;rw[<-hs]at hL2⊢;refine enter Tryz.func107 rfl Tryz.ntmps107 rfl ?_;refine jr ?_;refine jh (kZ (new:=j5 (j8 gap)) rfl rfl hS ?_);intro b4 wz1 hS hBz1;refine jh (kZ (new:=j5 (j8 rate)) rfl rfl hS ?_);intro b5 wz2 hS hBz2;refine ja ?_;replace hS:St w0 _ ((b5,32,j5 (j8 rate))::(b4,32,j5 (j8 gap))::(b11,4,[.bool o.isSome])::(b10,32,j5 (j8 (o.getD 0)))::H):=hS;refine J2 ?_;refine jh (j6 Tryz.call108 rfl (hdiv _) ?_);rintro r w3 ⟨rfl,hB3⟩;replace hS:=hS.km hB3;refine J4 ?_;intro b6 wz3 hS hBz3;refine J1 ?_;intro wz4 hS;refine V1 ?_;replace hS:St w0 _ ((b6,32,j5 (j8 s))::(b5,32,j5 (j8 rate))::(b4,32,j5 (j8 gap))::(b11,4,[.bool o.isSome])::(b10,32,j5 (j8 (o.getD 0)))::H):=hS;cases o with
 |none=>
  refine J3 ?_;refine kL (ka 16 kR rfl rfl) (kL (ka 16 kR rfl rfl) (kL (ka 16 kR rfl rfl) (kL (ka 16 kR rfl rfl) (jp (kA (vb rfl rfl) rfl ?_)))));refine ja ?_;refine k9 rfl (rfl) ?_;refine J2 ?_;intro wz5 hS;refine jh (nM (k:=3) rfl rfl p9 hS rfl dM rfl ?_);intro wz6 hS;refine ja ?_;exact pU rfl ⟨rfl,hS.drop ((ab _ _).trans ((ab _ _).trans (ab _ _)))⟩
 |some h=>
  refine J3 ?_;refine lj (j7 16 kR rfl rfl) (kO (k:=0) rfl kf hS rfl rfl rfl (.inl rfl) (lj (j7 16 kR rfl rfl) (kO (k:=4) rfl kf hS rfl rfl rfl (.inl rfl) (pj (j7 16 kR rfl rfl) (j6 Tryz.call50 rfl (pg (j8 s) (j8 h) _ (by rw[Lr_ofQ,Lr_ofQ];exact hL2)) ?_)))));rintro _ wc7 ⟨rfl,hBc7⟩;replace hS:=hS.km hBc7;refine ke (j7 16 kR rfl rfl) (wm rfl rfl (jp (kA (vb rfl rfl) rfl ?_)));refine ja ?_;rw[toQ_ofQ,toQ_ofQ];by_cases hlt:s<h
  ·refine k9 rfl ((Fz _ _).trans (ao hlt)) ?_;refine ja ?_;have e:E8 (some h) s=some s:=aj hlt;rw[e];refine J2 ?_;intro wz8 hS;refine jh (nM (k:=3) rfl rfl p9 hS rfl dM rfl ?_);intro wz9 hS;refine ja ?_;exact pU rfl ⟨rfl,hS.drop ((ab _ _).trans ((ab _ _).trans (ab _ _)))⟩
  ·refine lx rfl ((Fz _ _).trans (ae hlt)) ?_;refine ja ?_;have e:E8 (some h) s=some h:=ah hlt;rw[e];exact pU rfl ⟨rfl,hS.drop ((ab _ _).trans ((ab _ _).trans (ab _ _)))⟩
end Go.Proofs.YtoeiejliehgopaaGreatDoor
