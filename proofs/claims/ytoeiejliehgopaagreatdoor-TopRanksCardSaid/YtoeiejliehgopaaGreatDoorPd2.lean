import Derived.Test.YtoeiejliehgopaaGreatDoorPd1
set_option maxRecDepth 20000
set_option maxHeartbeats 8000000
namespace Go.Proofs.YtoeiejliehgopaaGreatDoor
open Go Go.RowKit Go.Sx
theorem bt {a b c:World} (h:Below a.heap.size a b) (k:Below b.heap.size b c):Below a.heap.size a c:=h.trans (k.mono h.size)
theorem qa {b r i d n:Nat} (hb:2<=b) (hr:r<b^i) (hd:d<b):(pad b r n).set i d=pad b (r+b^i*d) n/\r+b^i*d<b^(i+1):=by
 have h1:b^(i+1)=b^i*b:=Nat.pow_succ ..;have h2:b^i*(d+1)<=b^i*b:=Nat.mul_le_mul_left _ hd;rw[Nat.mul_add]at h2;have h3:r+b^i*d<b^(i+1):=oO;have h4:b^i<=b^(i+1):=Nat.pow_le_pow_right oO oO;have h:=si (b:=b) (v:=r) (n:=n) (k:=i) (x:=d) hb oO h3;rw[nc hr,Nat.zero_add]at h;exact⟨h,h3⟩
theorem xP (u:Nat):cF ap [u%4294967296,u/4294967296]=u:=by
 simp only[cF,ap];omega
theorem cW (v:Nat):v<ap^(bH v).length:=eo dD v
theorem pm {v k:Nat} (h:v<ap^k):(bH v).length<=k:=iO dD k v h
theorem en (s:ByteArray):(bH (val s)).length<=s.size:=by
 refine pm (Nat.lt_of_lt_of_le (zE s) ?_);exact Nat.pow_le_pow_left dD _
theorem lh (u:Nat) (w:World) (hu:u<18446744073709551616):
  dj Tryz.prog 113 #[.int .u64 u] w λr w'=>r= .string (bB u)/\Below w.heap.size w w':=by
 have hS:=St.init w;refine enter Tryz.func113 rfl Tryz.ntmps113 rfl ?_;refine J2 ?_;refine jp (bF rfl Tryz.underlying141 ⟨_,Tryz.underlying99⟩ (kN _) ?_);refine J1 ?_;refine jp (iU rfl rfl oO (r:=((u/4294967296:Nat):Int)) (by exact i5 _ 32 dD) (jp (bF rfl Tryz.underlying141 ⟨_,Tryz.underlying99⟩ (r:=((u/4294967296:Nat):Int)) (by exact ic _ oO) (jh (dI (vs:=[_,_]) rfl ce rfl dD dD dD (by simp[Value.cells]) rfl hS ?_)))));intro b1 wz2 hS hBz2;have hsl:=St.C9 (L:=[u%4294967296,u/4294967296]) hS (k:=0) rfl (n:=2) (cap:=2) (by simp) oO oO;have hd:∀d∈[u%4294967296,u/4294967296],d<ap:=by
  intro d hd;simp only[List.mem_cons,List.not_mem_nil,or_false]at hd;unfold ap;omega
 refine jh (ah Tryz.call70 rfl (oA _ _ _ hsl hd (by simp)) ?_);rintro r w3 ⟨rfl,hB3⟩;refine J1 ?_;refine jt ?_;refine bj rfl rfl ?_;exact⟨vs rfl (congrArg bB (xP u)),bt hS.ab hB3⟩
theorem OH (a b:ByteArray) (w:World) (ha:a.size<=4398046511104) (hb:b.size<=4398046511104):
  dj Tryz.prog 74 #[.string a,.string b] w λr w'=>r= .string (bB (val a+val b))/\Below w.heap.size w w':=by
 have hla:=en a;have hlb:=en b;have hS:=St.init w;refine enter Tryz.func74 rfl Tryz.ntmps74 rfl ?_;refine J2 ?_;refine jh (ah Tryz.call69 rfl (ji _ _ oO) ?_);rintro vx w1 ⟨hx,hB1⟩;refine J1 ?_;refine jh (ah Tryz.call69 rfl (ji _ _ oO) ?_);rintro vy w2 ⟨hy,hB2⟩;refine V2 ?_;have hx:=hx.ab hB2;have hB2:=bt hB1 hB2;clear hS hB1;have hS:=St.init w2;refine J1 ?_;refine jp (aF rfl (hx.ab hS.ab) ⟨_,Tryz.underlying139⟩ ?_);refine J1 ?_;refine jp (aF rfl (hy.ab hS.ab) ⟨_,Tryz.underlying139⟩ ?_);refine V1 ?_;refine aW (λρ w'=>∃v u m n,m+n=val a+val b/\ρ 5=v/\ρ 6=u/\Sl (uk .u32) 1 w2 v (bH m)/\Sl (uk .u32) 1 w2 u (bH n)/\(bH n).length<=(bH m).length/\(bH m).length<=4398046511104/\w2=w') ?_ ?_
 ·by_cases hlt:(bH (val a)).length<(bH (val b)).length
  ·refine V5 ?_;exact⟨_,rfl,vy,vx,val b,val a,Nat.add_comm ..,rfl,rfl,hy,hx,oO,oO,rfl⟩
  ·refine V1 ?_;exact⟨_,rfl,vx,vy,val a,val b,rfl,rfl,rfl,hx,hy,oO,oO,rfl⟩
 clear hx hy hla hlb;rintro ρ w' ⟨vx,vy,X,Y,hsum,h5,h6,hx,hy,hle,hmx,rfl⟩;rw[<-hsum];clear hsum;obtain⟨n,hn⟩:=jz ((bH X).length);refine J1 ?_;refine jp (aF rfl (hx.ab hS.ab) ⟨_,Tryz.underlying139⟩ ?_);refine J1 ?_;refine jh (iI (n:=(bH X).length+1) rfl rfl ce oO oO oO oO hS ?_);intro b1 wz2 hS hBz2;refine J3 ?_;refine jp (aF rfl (hx.ab hS.ab) ⟨_,Tryz.underlying139⟩ ?_);refine V1 ?_;have hXn:X<ap^n:=hn▸cW X;have hYn:Y<ap^n:=Nat.lt_of_lt_of_le (cW Y) (Nat.pow_le_pow_right dD oO);rw[<-hn,<-gD ap (n+1)]at hS;refine aQ (σ:=Nat×Nat×Nat) (λs ρ w'=>s.1<=n/\s.2.1<ap^s.1/\s.2.2<=1/\s.2.1+ap^s.1*s.2.2=X%ap^s.1+Y%ap^s.1/\ρ 5=vx/\ρ 6=vy/\ρ 7= .slice (some ⟨b1,0,none⟩) (n+1) (n+1)/\ρ 8= .int .u32 s.2.2/\ρ 27=iB n/\ρ 28=iB s.1/\St w2 w' [(b1,141,Kr .u32 (pad ap s.2.1 (n+1)))]) (λs=>n-s.1) (0,0,0)
  ⟨Nat.zero_le _,dD,dD,by simp[Nat.mod_one],h5,h6,by rw[hn];rfl,rfl,vi rfl (by rw[hn]),rfl,hS⟩ ?_
 clear hS h5 h6;rintro⟨i,r,c⟩ ρ w3 ⟨hi,hr,hc,hinv,h5,h6,h7,h8,h27,h28,hS⟩;simp only at hi hr hc hinv h5 h6 h7 h8 h27 h28 hS;refine V1 ?_;by_cases hlt:i<n
 ·refine J6 ?_;refine jp (aF rfl (hy.ab hS.ab) ⟨_,Tryz.underlying139⟩ ?_);refine V1 ?_;refine aW (λρ w'=>ρ 5=vx/\ρ 6=vy/\ρ 7= .slice (some ⟨b1,0,none⟩) (n+1) (n+1)/\ρ 8= .int .u32 c/\ρ 9=iB i/\ρ 10= .int .u32 (bO ap Y i:Nat)/\ρ 27=iB n/\ρ 28=iB i/\w3=w') ?_ ?_
  ·by_cases hlt2:i<(bH Y).length
   ·refine J3 ?_;refine jp (aH (i:=i) rfl rfl (hy.ab hS.ab) oO dO ce (jq (aO (i:=i) 0 rfl bG (hy.ab hS.ab) dO rfl rfl (.inr rfl) ?_)));refine V1 ?_;exact⟨_,rfl,h5,h6,h7,h8,rfl,vi rfl (by rw[dt]),h27,h28,rfl⟩
   ·refine V1 ?_;exact⟨_,rfl,h5,h6,h7,h8,rfl,vi rfl (by rw[nc (Nat.lt_of_lt_of_le (cW Y) (Nat.pow_le_pow_right dD oO))];rfl),h27,h28,rfl⟩
  clear h5 h6 h7 h8 h27 h28;rintro ρ w' ⟨h5,h6,h7,h8,h9,h10,h27,h28,rfl⟩;have hx1:bO ap X i<ap:=jO dD X i;have hy1:bO ap Y i<ap:=jO dD Y i;have hgx:(bH X).getD i 0=bO ap X i:=dt X i;have hil:i<(bH X).length:=oO;refine J4 ?_;refine jp (aH (i:=i) rfl rfl (hx.ab hS.ab) oO dO ce (jq (aO (i:=i) 0 rfl bG (hx.ab hS.ab) dO rfl rfl (.inr rfl) ?_)));refine J2 ?_;refine jh (ah Tryz.call117 rfl (CC _ _ _ _ (by rw[hgx];exact hx1) hy1 (by unfold ap;omega)) ?_);rintro v w' ⟨rfl,rfl⟩;refine J3 ?_;refine jp (bn (i:=i) rfl rfl oO dO ce (jh (hJ (k:=0) (i:=i) (a:=_) rfl rfl rfl bG hS rfl oO dO ?_)));intro wz3 hS;refine V1 ?_;obtain⟨e1,e2⟩:=qa (b:=ap) (r:=r) (i:=i) (d:=(bO ap X i+bO ap Y i+c)%ap) (n:=n+1) dD hr (Nat.mod_lt _ dD);rw[hgx,e1]at hS;refine V2 ?_;refine⟨(i+1,r+ap^i*((bO ap X i+bO ap Y i+c)%ap),(bO ap X i+bO ap Y i+c)/ap),_,rfl,⟨hlt,e2,?_,?_,h5,h6,h7,vi rfl (by rw[hgx]),h27,vi rfl (by simp),hS⟩,by simp only;omega⟩
  ·simp only;unfold ap at*;omega
  ·simp only;rw[mod_pow_succ,mod_pow_succ,Nat.pow_succ,Nat.add_assoc,Nat.mul_assoc,<-Nat.mul_add,Nat.mod_add_div,Nat.mul_add,Nat.mul_add];omega
 ·refine J1 ?_;refine jt ?_;obtain rfl:i=n:=oO;rw[Nat.mod_eq_of_lt hXn,Nat.mod_eq_of_lt hYn]at hinv;refine J2 ?_;refine jp (aF rfl (hx.ab hS.ab) ⟨_,Tryz.underlying139⟩ ?_);refine J1 ?_;refine jp (bn (i:=i) rfl rfl oO dO ce (jh (hJ (k:=0) (i:=i) (a:=_) rfl rfl rfl bG hS rfl oO dO ?_)));intro wz4 hS;refine ja ?_;obtain⟨e1,e2⟩:=qa (b:=ap) (r:=r) (i:=i) (d:=c) (n:=i+1) dD hr (by unfold ap;omega);rw[hn,<-hn,e1,hinv]at hS;rw[hinv]at e2;have hsl:=hS.C9 (k:=0) rfl (n:=i+1) (cap:=i+1) (by simp) (Nat.le_refl _) oO;rw[List.take_of_length_le (by simp)]at hsl;refine J1 ?_;refine jh (ah Tryz.call70 rfl (oA _ _ _ hsl (lE dD _ _) (by simp;omega)) ?_);rintro r w4 ⟨rfl,hB4⟩;refine J1 ?_;refine jt ?_;refine bj rfl rfl ?_;rw[ef e2];exact⟨rfl,bt hB2 (bt hS.ab hB4)⟩
theorem Bv (vx vy:Value) (X Y:Nat) (w:World) (hx:Sl (uk .u32) 1 w vx (bH X)) (hy:Sl (uk .u32) 1 w vy (bH Y)) (hYX:Y<=X) (hmx:(bH X).length<=17592186044416):
  dj Tryz.prog 119 #[vx,vy] w λr w'=>Sl (uk .u32) 1 w' r (bH (X-Y))/\Below w.heap.size w w':=by
 have hS:=St.init w;obtain⟨n,hn⟩:=jz ((bH X).length);have hle:(bH Y).length<=n:=hn▸ft dD hYX;refine enter Tryz.func119 rfl Tryz.ntmps119 rfl ?_;refine J2 ?_;refine jp (aF rfl (hx.ab hS.ab) ⟨_,Tryz.underlying139⟩ (jh (iI (n:=(bH X).length) rfl rfl ce oO oO oO oO hS ?_)));intro b1 wz2 hS hBz2;refine J3 ?_;refine jp (aF rfl (hx.ab hS.ab) ⟨_,Tryz.underlying139⟩ ?_);refine V1 ?_;have hXn:X<ap^n:=hn▸cW X;have hYn:Y<ap^n:=Nat.lt_of_lt_of_le (cW Y) (Nat.pow_le_pow_right dD oO);rw[<-hn,<-gD ap n]at hS;refine aQ (σ:=Nat×Nat×Nat) (λs ρ w'=>s.1<=n/\s.2.1<ap^s.1/\s.2.2<=1/\s.2.1+Y%ap^s.1=X%ap^s.1+ap^s.1*s.2.2/\ρ 0=vx/\ρ 1=vy/\ρ 5= .slice (some ⟨b1,0,none⟩) n n/\ρ 6= .int .u32 s.2.2/\ρ 13=iB n/\ρ 14=iB s.1/\St w w' [(b1,141,Kr .u32 (pad ap s.2.1 n))]) (λs=>n-s.1) (0,0,0)
  ⟨Nat.zero_le _,dD,dD,by simp[Nat.mod_one],rfl,rfl,by rw[hn];rfl,rfl,vi rfl (by rw[hn]),rfl,hS⟩ ?_
 clear hS;rintro⟨i,r,c⟩ ρ w3 ⟨hi,hr,hc,hinv,h0,h1,h5,h6,h13,h14,hS⟩;simp only at hi hr hc hinv h0 h1 h5 h6 h13 h14 hS;refine V1 ?_;by_cases hlt:i<n
 ·refine J6 ?_;refine jp (aF rfl (hy.ab hS.ab) ⟨_,Tryz.underlying139⟩ ?_);refine V1 ?_;refine aW (λρ w'=>ρ 0=vx/\ρ 1=vy/\ρ 5= .slice (some ⟨b1,0,none⟩) n n/\ρ 6= .int .u32 c/\ρ 7=iB i/\ρ 8= .int .u32 (bO ap Y i:Nat)/\ρ 13=iB n/\ρ 14=iB i/\w3=w') ?_ ?_
  ·by_cases hlt2:i<(bH Y).length
   ·refine J3 ?_;refine jp (aH (i:=i) rfl rfl (hy.ab hS.ab) oO dO ce (jq (aO (i:=i) 0 rfl bG (hy.ab hS.ab) dO rfl rfl (.inr rfl) ?_)));refine V1 ?_;exact⟨_,rfl,h0,h1,h5,h6,rfl,vi rfl (by rw[dt]),h13,h14,rfl⟩
   ·refine V1 ?_;exact⟨_,rfl,h0,h1,h5,h6,rfl,vi rfl (by rw[nc (Nat.lt_of_lt_of_le (cW Y) (Nat.pow_le_pow_right dD oO))];rfl),h13,h14,rfl⟩
  clear h0 h1 h5 h6 h13 h14;rintro ρ w' ⟨h0,h1,h5,h6,h7,h8,h13,h14,rfl⟩;have hx1:bO ap X i<ap:=jO dD X i;have hy1:bO ap Y i<ap:=jO dD Y i;have hgx:(bH X).getD i 0=bO ap X i:=dt X i;have hil:i<(bH X).length:=oO;refine J4 ?_;refine jp (aH (i:=i) rfl rfl (hx.ab hS.ab) oO dO ce (jq (aO (i:=i) 0 rfl bG (hx.ab hS.ab) dO rfl rfl (.inr rfl) ?_)));refine J2 ?_;refine jh (ah Tryz.call161 rfl (xH _ _ _ _ (by rw[hgx];exact hx1) hy1 hc) ?_);rintro v w' ⟨rfl,rfl⟩;refine J3 ?_;refine jp (bn (i:=i) rfl rfl oO dO ce (jh (hJ (k:=0) (i:=i) (a:=_) rfl rfl rfl bG hS rfl oO dO ?_)));intro wz3 hS;refine V1 ?_;obtain⟨d,hd⟩:=jz ((bO ap X i+2*ap-bO ap Y i-c)%ap);obtain⟨c',hc'⟩:∃c',c'=if bO ap X i<bO ap Y i+c then 1 else 0:=⟨_,rfl⟩
  have hdc:d+bO ap Y i+c=bO ap X i+ap*c':=by
   rw[hd,hc'];unfold ap at*;split<;>omega
  have hc1:c'<=1:=by rw[hc'];split<;>omega
  obtain⟨e1,e2⟩:=qa (b:=ap) (r:=r) (i:=i) (d:=d) (n:=n) dD hr (hd▸Nat.mod_lt _ dD);rw[hgx,<-hd,e1]at hS;refine V2 ?_;refine⟨(i+1,r+ap^i*d,c'),_,rfl,⟨hlt,e2,hc1,?_,h0,h1,h5,vi rfl (by rw[hgx,hc']),h13,vi rfl (by simp),hS⟩,by simp only;omega⟩;simp only;have h9:ap^i*d+ap^i*bO ap Y i+ap^i*c=ap^i*bO ap X i+ap^i*(ap*c'):=by rw[<-Nat.mul_add,<-Nat.mul_add,hdc,Nat.mul_add]
  rw[mod_pow_succ,mod_pow_succ,Nat.pow_succ,Nat.mul_assoc];omega
 ·refine J1 ?_;refine jt ?_;obtain rfl:i=n:=oO;rw[Nat.mod_eq_of_lt hXn,Nat.mod_eq_of_lt hYn]at hinv;have hc0:c=0:=by
   rcases Nat.lt_or_ge c 1 with h|h
   ·omega
   ·obtain rfl:c=1:=oO;omega
  subst hc0;have hr2:r=X-Y:=oO;have hsl:=hS.C9 (k:=0) rfl (n:=i) (cap:=i) (by simp) (Nat.le_refl _) oO;rw[List.take_of_length_le (by simp)]at hsl;refine J1 ?_;refine jh (ah Tryz.call112 rfl (qb _ _ _ hsl (lE dD _ _)) ?_);rintro v w3 ⟨hv,rfl⟩;refine J1 ?_;refine jt ?_;refine bj rfl rfl ?_;rw[ef hr,hr2]at hv;exact⟨hv,hS.ab⟩
theorem tX (a b:ByteArray) (w:World) (ha:a.size<=4398046511104) (hb:b.size<=4398046511104):
  dj Tryz.prog 75 #[.string a,.string b] w λr w'=>
   (if val b<=val a then r= .tuple #[.string (bB (val a-val b)),.bool true]else r= .tuple #[.string ⟨#[]⟩,.bool false])/\Below w.heap.size w w':=by
 have hla:=en a;have hlb:=en b;refine enter Tryz.func75 rfl Tryz.ntmps75 rfl ?_;refine J3 ?_;refine jh (ah Tryz.call69 rfl (ji _ _ oO) ?_);rintro vx w1 ⟨hx,hB1⟩;refine J1 ?_;refine jh (ah Tryz.call69 rfl (ji _ _ oO) ?_);rintro vy w2 ⟨hy,hB2⟩;refine V2 ?_;have hx:=hx.ab hB2;have hB2:=bt hB1 hB2;refine J2 ?_;refine jh (ah Tryz.call118 rfl (xW _ _ _ _ _ hx hy) ?_);rintro v w3 ⟨rfl,hB3⟩;refine V1 ?_;have hx:=hx.ab hB3;have hy:=hy.ab hB3;have hB3:=bt hB2 hB3;by_cases h:val b<=val a
 ·refine ct rfl (decide_eq_false (by unfold lx;split<;>(try split)<;>omega)) ?_;refine J2 ?_;refine jh (ah Tryz.call119 rfl (Bv _ _ _ _ _ hx hy h oO) ?_);rintro v w4 ⟨hv,hB4⟩;have hlv:(bH (val a-val b)).length<=(bH (val a)).length:=ft dD oO;refine jh (ah Tryz.call70 rfl (oA _ _ _ hv (pI _) oO) ?_);rintro r w5 ⟨rfl,hB5⟩;refine J2 ?_;refine jt ?_;refine j6 rfl rfl rfl ?_;rw[if_pos h,jR];exact⟨rfl,bt hB3 (bt hB4 hB5)⟩
 ·refine bZ rfl (decide_eq_true (by unfold lx;rw[if_pos oO];decide)) ?_;refine J2 ?_;refine jt ?_;refine j6 rfl rfl rfl ?_;rw[if_neg h];exact⟨rfl,hB3⟩
theorem ze (b v k:Nat):v=v%b^k+b^k*(bO b v k+b*(v/b^(k+1))):=by
 have h1:=gX b v k;have h2:=Nat.mod_add_div v (b^k);rw[h1]at h2;rw[Nat.add_comm (bO b v k)];exact h2.symm
theorem AN {b v k d n:Nat} (hb:2<=b) (hd:d<b) (hk:k<n):∃v',(pad b v n).set k d=pad b v' n/\v'+b^k*bO b v k=v+b^k*d/\(∀m,k<m->v<b^m->v'<b^m):=by
 have hb':0<b:=oO;have hs:=ze b v k;have hlo:v%b^k<b^k:=kx hb' v k;have hdv:=jO hb' v k;refine⟨v%b^k+b^k*(d+b*(v/b^(k+1))),?_,?_,?_⟩
 ·rw[IV (b:=b) (v:=v%b^k+b^k*(d+b*(v/b^(k+1)))) (L:=(pad b v n).set k d) ?_]
  ·simp
  ·intro j hj;have hj':j<n:=by simpa using hj
   rw[List.getD_eq_getElem?_getD,List.getElem?_set];split
   ·rename_i h;subst h;rw[if_pos (by simpa using hk),Option.getD_some,Du hb',Nat.div_eq_of_lt hlo,Nat.zero_add,Nat.add_mul_mod_self_left,Nat.mod_eq_of_lt hd]
   ·rename_i h;rw[<-List.getD_eq_getElem?_getD,fE b v hj'];rcases Nat.lt_or_ge j k with h1|h1
    ·rw[qF hb' _ _ h1];conv=>lhs;rw[hs]
     rw[qF hb' _ _ h1]
    ·have hdiv:∀e,e<b->(v%b^k+b^k*(e+b*(v/b^(k+1))))/b^j=v/b^(k+1)/b^(j-(k+1)):=by
      intro e he;have:b^j=b^k*b*b^(j-(k+1)):=by rw[<-Nat.pow_succ,<-Nat.pow_add];congr 1;omega
      rw[this,<-Nat.div_div_eq_div_mul,<-Nat.div_div_eq_div_mul,Nat.add_mul_div_left _ _ (Nat.pow_pos hb'),Nat.div_eq_of_lt hlo,Nat.zero_add,Nat.add_mul_div_left _ _ hb',Nat.div_eq_of_lt he,Nat.zero_add]
     unfold bO at*;rw[hdiv d hd];conv=>lhs;rw[hs,hdiv _ hdv]
 ·have hL:v%b^k+b^k*bO b v k+b^k*(b*(v/b^(k+1)))=v:=by rw[Nat.add_assoc,<-Nat.mul_add];exact hs.symm
  rw[Nat.mul_add];omega
 ·intro m hm hv;have hm2:b^m=b^(k+1)*b^(m-(k+1)):=by rw[<-Nat.pow_add];congr 1;omega
  have h1:v/b^(k+1)<b^(m-(k+1)):=by rw[hm2]at hv;exact Nat.div_lt_of_lt_mul hv
  have h2:v%b^k+b^k*(d+b*(v/b^(k+1)))<b^k*b*(v/b^(k+1)+1):=by
   have:b^k*(d+1)<=b^k*b:=Nat.mul_le_mul_left _ hd;rw[Nat.mul_add]at this;rw[Nat.mul_add,Nat.mul_add,<-Nat.mul_assoc];omega
  have h3:b^k*b*(v/b^(k+1)+1)<=b^m:=by rw[hm2,Nat.pow_succ];exact Nat.mul_le_mul_left _ h1
  omega
theorem dk (v j:Nat):bO ap v j<=4294967295:=by
 have h1:=jO (b:=ap) dD v j;have h2:ap=4294967296:=rfl;omega
theorem qV (x y q c:Nat) (hx:x<=4294967295) (hy:y<=4294967295) (hq:q<=4294967295) (hc:c<=4294967295):x*y<=18446744065119617025/\x*y+q+c<=18446744073709551615:=by
 have:x*y<=4294967295*4294967295:=Nat.mul_le_mul hx hy;omega
theorem Cn (a b:ByteArray) (w:World) (ha:a.size<=4398046511104) (hb:b.size<=4398046511104):
  dj Tryz.prog 30 #[.string a,.string b] w λr w'=>r= .string (bB (val a*val b))/\Below w.heap.size w w':=by
 have hla:=en a;have hlb:=en b;refine enter Tryz.func30 rfl Tryz.ntmps30 rfl ?_;refine J2 ?_;refine jh (ah Tryz.call69 rfl (ji _ _ oO) ?_);rintro vx w1 ⟨hx,hB1⟩;refine J1 ?_;refine jh (ah Tryz.call69 rfl (ji _ _ oO) ?_);rintro vy w2 ⟨hy,hB2⟩;refine V2 ?_;have hx:=hx.ab hB2;have hB2:=bt hB1 hB2;clear hB1;have hS:=St.init w2;generalize val a=X at*;generalize val b=Y at*;obtain⟨m,hm⟩:=jz ((bH X).length);obtain⟨n,hn⟩:=jz ((bH Y).length);have hXm:X<ap^m:=hm▸cW X;have hYn:Y<ap^n:=hn▸cW Y;refine J1 ?_;refine jp (aF rfl (hx.ab hS.ab) ⟨_,Tryz.underlying139⟩ ?_);refine J1 ?_;refine jp (aF rfl (hy.ab hS.ab) ⟨_,Tryz.underlying139⟩ ?_);refine J1 ?_;refine jh (iI (n:=m+n) rfl rfl ce oO oO oO oO hS ?_);intro b1 wz2 hS hBz2;refine J2 ?_;refine jp (aF rfl (hx.ab hS.ab) ⟨_,Tryz.underlying139⟩ ?_);refine V1 ?_;rw[<-gD ap (m+n)]at hS;refine aQ (σ:=Nat) (λi ρ w'=>i<=m/\ρ 6=vy/\ρ 7= .slice (some ⟨b1,0,none⟩) (m+n) (m+n)/\ρ 24=vx/\ρ 25=iB m/\ρ 26=iB i/\St w2 w' [(b1,141,Kr .u32 (pad ap (X%ap^i*Y) (m+n)))]) (λi=>m-i) 0
  ⟨Nat.zero_le _,rfl,rfl,rfl,vi rfl (by rw[hm]),rfl,by rw[Nat.pow_zero,Nat.mod_one,Nat.zero_mul];exact hS⟩ ?_
 clear hS;rintro i ρ w3 ⟨hi,h6,h7,h24,h25,h26,hS⟩;refine V1 ?_;by_cases hlt:i<m
 ·refine V1 ?_;have him:i<(bH X).length:=oO;refine J1 ?_;refine jp (aH (i:=i) h24 h26 (hx.ab hS.ab) oO dO ce (jq (aO (i:=i) 0 rfl bG (hx.ab hS.ab) dO rfl rfl (.inr rfl) ?_)));refine J4 ?_;refine jp (aF rfl (hy.ab hS.ab) ⟨_,Tryz.underlying139⟩ ?_);refine V1 ?_;have hP0:X%ap^i*Y<ap^(i+n):=by
   rw[Nat.pow_add];exact Nat.mul_lt_mul_of_lt_of_le (kx dD X i) (Nat.le_of_lt hYn) (Nat.pow_pos dD)
  refine aQ (σ:=Nat×Nat×Nat) (λs ρ w'=>s.1<=n/\s.2.1<ap^(i+n)/\s.2.2<=4294967295/\s.2.1+ap^(i+s.1)*s.2.2=X%ap^i*Y+ap^i*(bO ap X i*(Y%ap^s.1))/\ρ 6=vy/\ρ 7= .slice (some ⟨b1,0,none⟩) (m+n) (m+n)/\ρ 8=iB i/\ρ 9= .int .u32 (bO ap X i:Nat)/\ρ 10= .int .u64 s.2.2/\ρ 24=vx/\ρ 25=iB m/\ρ 26=iB i/\ρ 31=vy/\ρ 32=iB n/\ρ 33=iB s.1/\St w2 w' [(b1,141,Kr .u32 (pad ap s.2.1 (m+n)))]) (λs=>n-s.1) (0,X%ap^i*Y,0)
   ⟨Nat.zero_le _,hP0,Nat.zero_le _,by simp[Nat.mod_one],h6,h7,rfl,vi rfl (by rw[dt]),rfl,h24,h25,h26,rfl,vi rfl (by rw[hn]),rfl,hS⟩ ?_
  clear hS h6 h7 h24 h25 h26;rintro⟨k,q,c⟩ ρ w4 ⟨hk,hq,hc,hinv,h6,h7,h8,h9,h10,h24,h25,h26,h31,h32,h33,hS⟩;simp only at hk hq hc hinv h6 h7 h8 h9 h10 h24 h25 h26 h31 h32 h33 hS;refine V1 ?_;by_cases hlt2:k<n
  ·refine V1 ?_;have hkn:k<(bH Y).length:=oO;have hikm:i+k<m+n:=oO;refine J1 ?_;refine jp (aH (i:=k) h31 h33 (hy.ab hS.ab) oO dO ce (jq (aO (i:=k) 0 rfl bG (hy.ab hS.ab) dO rfl rfl (.inr rfl) ?_)));refine V2 ?_;rw[dt];have hgq:(pad ap q (m+n)).getD (i+k) 0=bO ap q (i+k):=fE _ _ hikm;have x1:=dk X i;have y1:=dk Y k;have q1:=dk q (i+k);obtain⟨u1,u2⟩:=qV _ _ _ _ x1 y1 q1 hc;refine J4 ?_;refine jp (oH rfl rfl (r:=((bO ap X i*bO ap Y k:Nat):Int)) (by exact bV _ ⟨by push_cast;rfl,oO,oO⟩) ?_);refine J4 ?_;refine jp (bn (i:=i+k) rfl rfl oO dO ce (jq (fz (k:=0) (i:=i+k) rfl bG hS rfl oO dO (jp (bF rfl Tryz.underlying99 ⟨_,Tryz.underlying141⟩ (r:=((bO ap q (i+k):Nat):Int)) (by rw[hgq];exact bV _ ⟨rfl,oO,oO⟩) (jp (ia rfl rfl (r:=((bO ap X i*bO ap Y k+bO ap q (i+k):Nat):Int)) (by exact bV _ ⟨by push_cast;rfl,oO,oO⟩) ?_)))))));refine J1 ?_;refine jp (ia rfl rfl (r:=((bO ap X i*bO ap Y k+bO ap q (i+k)+c:Nat):Int)) (by exact bV _ ⟨by push_cast;rfl,oO,oO⟩) ?_);refine V1 ?_;obtain⟨t,ht⟩:=jz (bO ap X i*bO ap Y k+bO ap q (i+k)+c);have ht2:t<=18446744073709551615:=by rw[ht];exact u2
   rw[<-ht];refine J5 ?_;refine jp (bF rfl Tryz.underlying141 ⟨_,Tryz.underlying99⟩ (kN _) (jp (bn (i:=i+k) rfl rfl oO dO ce (jh (hJ (k:=0) (i:=i+k) (a:=_) rfl rfl rfl bG hS rfl oO dO ?_)))));intro wz3 hS;refine J1 ?_;refine jp (iU rfl rfl oO (r:=((t/4294967296:Nat):Int)) (by exact i5 _ 32 dD) ?_);refine V1 ?_;obtain⟨q',e1,e2,e3⟩:=AN (b:=ap) (v:=q) (k:=i+k) (d:=t%4294967296) (n:=m+n) dD (Nat.mod_lt _ dD) hikm;rw[e1]at hS;refine V2 ?_;refine⟨(k+1,q',t/4294967296),_,rfl,⟨hlt2,e3 _ oO hq,by simp only;omega,?_,h6,h7,h8,h9,rfl,h24,h25,h26,h31,h32,vi rfl (by simp),hS⟩,by simp only;omega⟩;simp only;have f1:ap^(i+(k+1))*(t/4294967296)=ap^(i+k)*(ap*(t/4294967296)):=by rw[<-Nat.add_assoc,Nat.pow_succ,Nat.mul_assoc]
   have f2:ap^(i+k)*(t%4294967296)+ap^(i+k)*(ap*(t/4294967296))=ap^(i+k)*t:=by rw[<-Nat.mul_add];congr 1;unfold ap;omega
   have f3:ap^(i+k)*t=ap^(i+k)*(bO ap X i*bO ap Y k)+ap^(i+k)*bO ap q (i+k)+ap^(i+k)*c:=by rw[ht,Nat.mul_add,Nat.mul_add]
   have f4:ap^i*(bO ap X i*(Y%ap^(k+1)))=ap^i*(bO ap X i*(Y%ap^k))+ap^(i+k)*(bO ap X i*bO ap Y k):=by
    rw[mod_pow_succ,Nat.mul_add,Nat.mul_add,Nat.pow_add];congr 1;ac_rfl
   omega
  ·refine J1 ?_;refine jt ?_;obtain rfl:k=n:=oO;rw[Nat.mod_eq_of_lt hYn]at hinv;have hikm:i+k<m+k:=oO;refine J3 ?_;refine jp (aF rfl (hy.ab hS.ab) ⟨_,Tryz.underlying139⟩ ?_);refine J2 ?_;refine jp (bF rfl Tryz.underlying141 ⟨_,Tryz.underlying99⟩ (r:=((c:Nat):Int)) (by exact ic _ oO) (jp (bn (i:=i+k) rfl rfl oO dO ce (jh (hJ (k:=0) (i:=i+k) (a:=_) rfl rfl rfl bG hS rfl oO dO ?_)))));intro wz4 hS;refine ja ?_;obtain⟨e1,e2⟩:=qa (b:=ap) (r:=q) (i:=i+k) (d:=c) (n:=m+k) dD hq (by unfold ap;omega);have e3:q+ap^(i+k)*c=X%ap^(i+1)*Y:=by rw[hinv,mod_pow_succ,Nat.add_mul,Nat.mul_assoc]
   rw[show [(b1,141,Kr IntKind.u32 (pad ap q (m+k)))].set 0 (b1,141,Kr IntKind.u32 ((pad ap q (m+k)).set (i+k) c))=[(b1,141,Kr IntKind.u32 ((pad ap q (m+k)).set (i+k) c))]from rfl,e1,e3]at hS;refine V2 ?_;exact⟨i+1,_,rfl,⟨hlt,h6,h7,h24,h25,vi rfl oO,hS⟩,oO⟩
 ·refine J1 ?_;refine jt ?_;obtain rfl:i=m:=oO;rw[Nat.mod_eq_of_lt hXm]at hS;have hXY:X*Y<ap^(i+n):=by
   rw[Nat.pow_add];exact Nat.mul_lt_mul_of_lt_of_le hXm (Nat.le_of_lt hYn) (Nat.pow_pos dD)
  have hsl:=hS.C9 (k:=0) rfl (n:=i+n) (cap:=i+n) (by simp) (Nat.le_refl _) oO;rw[List.take_of_length_le (by simp)]at hsl;refine J1 ?_;refine jh (ah Tryz.call70 rfl (oA _ _ _ hsl (lE dD _ _) (by simp;omega)) ?_);rintro r w4 ⟨rfl,hB4⟩;refine J1 ?_;refine jt ?_;refine bj rfl rfl ?_;rw[ef hXY];exact⟨rfl,bt hB2 (bt hS.ab hB4)⟩
theorem ng {b q i e n:Nat} (hb:2<=b) (he:e<b) (hi:0<i) (hin:i<=n) (hq:b^i*q<b^n):
  (pad b (b^i*q) n).set (i-1) e=pad b (b^(i-1)*(b*q+e)) n/\b^(i-1)*(b*q+e)<b^n:=by
 obtain⟨v',e1,e2,e3⟩:=AN (b:=b) (v:=b^i*q) (k:=i-1) (d:=e) (n:=n) hb he oO;have h1:b^i=b^(i-1)*b:=by rw[<-Nat.pow_succ];congr 1;omega
 have h0:bO b (b^i*q) (i-1)=0:=by
  unfold bO;rw[h1,Nat.mul_assoc,Nat.mul_div_cancel_left _ (Nat.pow_pos oO),Nat.mul_mod_right]
 rw[h0,Nat.mul_zero,Nat.add_zero]at e2;have h2:v'=b^(i-1)*(b*q+e):=by rw[e2,Nat.mul_add,h1,Nat.mul_assoc]
 rw[e1,h2];exact⟨rfl,h2▸e3 n oO hq⟩
theorem xg (vx:Value) (X d:Nat) (w:World) (hx:Sl (uk .u32) 1 w vx (bH X)) (hd:0<d) (hd2:d<=4294967295) (hmx:(bH X).length<=17592186044416):
  dj Tryz.prog 153 #[vx,.int .u32 d] w λr w'=>(∃v,r= .tuple #[v,.int .u32 (X%d:Nat)]/\Sl (uk .u32) 1 w' v (bH (X/d)))/\Below w.heap.size w w':=by
 have hS:=St.init w;obtain⟨n,hn⟩:=jz ((bH X).length);have hXn:X<ap^n:=hn▸cW X;refine enter Tryz.func153 rfl Tryz.ntmps153 rfl ?_;refine J3 ?_;refine jp (aF rfl (hx.ab hS.ab) ⟨_,Tryz.underlying139⟩ (jh (iI (n:=(bH X).length) rfl rfl ce oO oO oO oO hS ?_)));intro b1 wz2 hS hBz2;refine J3 ?_;refine jp (aF rfl (hx.ab hS.ab) ⟨_,Tryz.underlying139⟩ ?_);refine V2 ?_;rw[<-hn,<-gD ap n]at hS;refine aQ (σ:=Nat×Nat×Nat) (λs ρ w'=>s.1<=n/\s.2.2<d/\X/ap^s.1=s.2.1*d+s.2.2/\ap^s.1*s.2.1<ap^n/\ρ 0=vx/\ρ 1= .int .u32 d/\ρ 6= .slice (some ⟨b1,0,none⟩) n n/\ρ 7= .int .u64 s.2.2/\ρ 8=iB ((s.1:Int)-1)/\St w w' [(b1,141,Kr .u32 (pad ap (ap^s.1*s.2.1) n))]) (λs=>s.1) (n,0,0)
  ⟨Nat.le_refl _,hd,by simp only[Nat.zero_mul];exact Nat.div_eq_of_lt hXn,by simp only[Nat.mul_zero];omega,rfl,rfl,by rw[hn];rfl,rfl,vi rfl (by rw[hn]),hS⟩ ?_
 clear hS;rintro⟨i,q,r⟩ ρ w3 ⟨hi,hr,hinv,hq,h0,h1,h6,h7,h8,hS⟩;simp only at hi hr hinv hq h0 h1 h6 h7 h8 hS;refine V2 ?_;by_cases hlt:0<i
 ·refine V1 ?_;have hil:i-1<(bH X).length:=oO;have x1:=dk X (i-1);have hg:(bH X).getD (i-1) 0=bO ap X (i-1):=dt X (i-1);have hor:r*2^32|||bO ap X (i-1)=bO ap X (i-1)+r*2^32:=by rw[Nat.or_comm];exact nv _ _ _ oO
  refine J1 ?_;refine jp (nL rfl rfl oO (r:=((r*2^32:Nat):Int)) (by exact nM r 32 _ dD (bV _ ⟨rfl,oO,oO⟩)) ?_);refine J2 ?_;refine jp (aH (i:=i-1) rfl rfl (hx.ab hS.ab) oO dO ce (jq (aO (i:=i-1) 0 rfl bG (hx.ab hS.ab) dO rfl rfl (.inr rfl) (jp (bF rfl Tryz.underlying99 ⟨_,Tryz.underlying141⟩ (r:=((bO ap X (i-1):Nat):Int)) (by rw[hg];exact bV _ ⟨rfl,oO,oO⟩) (jp (rV rfl rfl (r:=((bO ap X (i-1)+r*2^32:Nat):Int)) (by rw[<-hor];exact km rfl _ _ (by show _<18446744073709551616;omega) (by show _<18446744073709551616;omega)) ?_)))))));refine V1 ?_;obtain⟨t,ht⟩:=jz (bO ap X (i-1)+r*2^32);rw[<-ht];have ht1:t/d<=4294967295:=by
   have:t<d*4294967296:=by
    have:(r+1)*4294967296<=d*4294967296:=Nat.mul_le_mul_right _ hr;omega
   have:=Nat.div_lt_of_lt_mul this;omega
  refine J4 ?_;refine jp (bF rfl Tryz.underlying99 ⟨_,Tryz.underlying141⟩ (r:=((d:Nat):Int)) (by exact bV _ ⟨rfl,oO,oO⟩) (jp (kV rfl rfl oO (IntWalk.u64_quo _ _ oO) (jp (bF rfl Tryz.underlying141 ⟨_,Tryz.underlying99⟩ (r:=((t/d:Nat):Int)) (by exact ic _ ⟨by push_cast;rfl,Int.natCast_nonneg _,by generalize t/d=z at ht1⊢;omega⟩) (jp (bn (i:=i-1) rfl rfl oO dO ce (jh (hJ (k:=0) (i:=i-1) (a:=_) rfl rfl rfl bG hS rfl oO dO ?_)))))))));intro wz3 hS;refine J2 ?_;refine jp (bF rfl Tryz.underlying99 ⟨_,Tryz.underlying141⟩ (r:=((d:Nat):Int)) (by exact bV _ ⟨rfl,oO,oO⟩) (jp (iJ rfl rfl oO (r:=((t%d:Nat):Int)) (by rw[Int.tmod_eq_emod_of_nonneg oO];push_cast;rfl) ?_)));refine V1 ?_;obtain⟨e1,e2⟩:=ng (b:=ap) (q:=q) (i:=i) (e:=t/d) (n:=n) dD (by unfold ap;omega) hlt hi hq;rw[e1]at hS;refine V3 ?_;have hs:=gX ap X (i-1);rw[show i-1+1=i by omega,hinv]at hs;refine⟨(i-1,ap*q+t/d,t%d),_,rfl,⟨by simp only;omega,Nat.mod_lt _ hd,?_,e2,h0,h1,h6,rfl,vi rfl (by simp only;omega),hS⟩,by simp only;omega⟩;simp only;have h9:=Nat.div_add_mod t d;have h10:ap=2^32:=rfl;rw[hs,Nat.add_mul,Nat.mul_add,Nat.mul_assoc,Nat.add_assoc,Nat.add_assoc,Nat.mul_comm (t/d) d,h9,ht,h10];omega
 ·refine J1 ?_;refine jt ?_;obtain rfl:i=0:=oO;rw[Nat.pow_zero,Nat.div_one]at hinv;rw[Nat.pow_zero,Nat.one_mul]at hS hq;have hqd:X/d=q:=by rw[hinv,Nat.add_comm,Nat.add_mul_div_right _ _ hd,Nat.div_eq_of_lt hr,Nat.zero_add]
  have hrd:X%d=r:=by rw[hinv,Nat.mul_add_mod_self_right,Nat.mod_eq_of_lt hr]
  have hsl:=hS.C9 (k:=0) rfl (n:=n) (cap:=n) (by simp) (Nat.le_refl _) oO;rw[List.take_of_length_le (by simp)]at hsl;refine J1 ?_;refine jh (ah Tryz.call112 rfl (qb _ _ _ hsl (lE dD _ _)) ?_);rintro v w3 ⟨hv,rfl⟩;refine J1 ?_;refine jp (bF rfl Tryz.underlying141 ⟨_,Tryz.underlying99⟩ (r:=((r:Nat):Int)) (by exact ic _ ⟨rfl,oO,oO⟩) ?_);refine J2 ?_;refine jt ?_;refine j6 rfl rfl rfl ?_;rw[ef hq]at hv;rw[hqd,hrd];exact⟨⟨v,rfl,hv⟩,hS.ab⟩
theorem CX (a x by_:Nat) (hb:by_<=32) (ha:a<2^by_):a|||(x*2^by_)%4294967296=a+(x*2^by_)%4294967296:=by
 have h:(4294967296:Nat)=2^(32-by_)*2^by_:=by rw[<-Nat.pow_add,Nat.sub_add_cancel hb]
 rw[h,Nat.mul_mod_mul_right];exact nv _ _ _ ha
theorem yX (a x by_:Nat) (hb:by_<=32) (ha:a<2^by_):a+(x*2^by_)%4294967296<4294967296:=by
 have h:(4294967296:Nat)=2^(32-by_)*2^by_:=by rw[<-Nat.pow_add,Nat.sub_add_cancel hb]
 have h1:(x*2^by_)%4294967296=x%2^(32-by_)*2^by_:=by rw[h,Nat.mul_mod_mul_right]
 have h2:x%2^(32-by_)+1<=2^(32-by_):=Nat.mod_lt _ (Nat.pow_pos dD);have h3:=Nat.mul_le_mul_right (2^by_) h2;rw[<-h,Nat.add_mul]at h3;omega
theorem BW (vx:Value) (X c n:Nat) (w:World) (hx:Sl (uk .u32) 1 w vx (bH X)) (hc:c<32) (hn:(bH X).length<=n) (hXn:X*2^c<ap^n) (hmx:n<=17592186044416):
  dj Tryz.prog 155 #[vx,.int .u64 c,.int .i64 n] w λr w'=>
   (∃b,r= .slice (some ⟨b,0,none⟩) n n/\w.heap.size<=b/\w'.heap[b]?=some (.cells (Kr .u32 (pad ap (X*2^c) n)).toArray 141 (0,0)))/\Below w.heap.size w w':=by
 have hS:=St.init w;obtain⟨m,hm⟩:=jz ((bH X).length);have hXm:X<ap^m:=hm▸cW X;have hp2:2^c<=2^31:=Nat.pow_le_pow_right dD oO;have hpos:0<2^c:=Nat.pow_pos dD;refine enter Tryz.func155 rfl Tryz.ntmps155 rfl ?_;refine J2 ?_;refine jh (iI (n:=n) rfl rfl ce oO oO oO oO hS ?_);intro b1 wz2 hS hBz2;refine J2 ?_;refine jp (aF rfl (hx.ab hS.ab) ⟨_,Tryz.underlying139⟩ ?_);refine V1 ?_;rw[<-gD ap n]at hS;refine aQ (σ:=Nat) (λi ρ w'=>i<=m/\ρ 1= .int .u64 c/\ρ 2=iB n/\ρ 7= .slice (some ⟨b1,0,none⟩) n n/\ρ 13=vx/\ρ 14=iB m/\ρ 15=iB i/\St w w' [(b1,141,Kr .u32 (pad ap (X%ap^i*2^c) n))]) (λi=>m-i) 0
  ⟨Nat.zero_le _,rfl,rfl,rfl,rfl,vi rfl (by rw[hm]),rfl,by rw[Nat.pow_zero,Nat.mod_one,Nat.zero_mul];exact hS⟩ ?_
 clear hS;rintro i ρ w3 ⟨hi,h1,h2,h7,h13,h14,h15,hS⟩;refine V1 ?_;by_cases hlt:i<m
 ·refine V1 ?_;have hil:i<(bH X).length:=oO;have x1:=dk X i;refine J1 ?_;refine jp (aH (i:=i) h13 h15 (hx.ab hS.ab) oO dO ce (jq (aO (i:=i) 0 rfl bG (hx.ab hS.ab) dO rfl rfl (.inr rfl) ?_)));refine V2 ?_;rw[dt];obtain⟨x,hxd⟩:=jz (bO ap X i);rw[<-hxd]at x1⊢;have hx2:x*2^c<=4294967295*2^31:=Nat.mul_le_mul x1 hp2;obtain⟨V,hV⟩:=jz (X%ap^i*2^c);have hVs:X%ap^(i+1)*2^c=V+ap^i*(x*2^c):=by rw[mod_pow_succ,Nat.add_mul,<-hV,Nat.mul_assoc,hxd]
  have hVlt:V<ap^i*2^c:=by rw[hV];exact Nat.mul_lt_mul_of_pos_right (kx dD X i) hpos
  have hBi:0<ap^i:=Nat.pow_pos dD;have hVd:V/ap^i<2^c:=Nat.div_lt_of_lt_mul hVlt;have hVb:V<ap^(i+1):=by
   have:ap^i*2^c<=ap^i*ap:=Nat.mul_le_mul_left _ (by unfold ap;omega);rw[Nat.pow_succ];omega
  have hdg:bO ap V i=V/ap^i:=j4 dD hVb;have hfit:=yX (V/ap^i) x c oO hVd;have hget:(pad ap V n).getD i 0=V/ap^i:=by rw[fE _ _ oO,hdg]
  rw[<-hV]at hS;have hsplit:=Nat.div_add_mod (x*2^c) 4294967296;have hlow:V+ap^i*((x*2^c)%4294967296)<ap^(i+1):=by
   have h8:=Nat.div_add_mod V (ap^i);have h9:=Nat.mod_lt V hBi;have h10:ap^i*(V/ap^i+(x*2^c)%4294967296+1)<=ap^i*ap:=Nat.mul_le_mul_left _ hfit;rw[Nat.mul_add,Nat.mul_add]at h10;rw[Nat.pow_succ];omega
  refine J1 ?_;refine jp (bF rfl Tryz.underlying99 ⟨_,Tryz.underlying141⟩ (r:=((x:Nat):Int)) (by exact bV _ ⟨rfl,oO,oO⟩) ?_);refine J1 ?_;refine jp (nL rfl rfl oO (nM x c ((x*2^c:Nat):Int) (by show c<=64;omega) (bV _ ⟨rfl,oO,oO⟩)) ?_);refine J3 ?_;refine jp (bn (i:=i) rfl rfl oO dO ce (jq (fz (k:=0) (i:=i) rfl bG hS rfl oO dO ?_)));refine J1 ?_;refine jp (bF rfl Tryz.underlying141 ⟨_,Tryz.underlying99⟩ (kN _) (jp (rV rfl rfl (r:=((V/ap^i+(x*2^c)%4294967296:Nat):Int)) (by rw[hget,<-CX _ _ _ oO hVd];exact km rfl _ _ (by show _<4294967296;omega) (by show _<4294967296;omega)) (jp (bn (i:=i) rfl rfl oO dO ce (jh (hJ (k:=0) (i:=i) (a:=_) rfl rfl rfl bG hS rfl oO dO ?_)))))));intro wz3 hS;refine ja ?_;have hset:=si (b:=ap) (v:=V) (n:=n) (k:=i) (x:=(x*2^c)%4294967296) dD hVb hlow;rw[hdg]at hset;rw[show [(b1,141,Kr IntKind.u32 (pad ap V n))].set 0 (b1,141,Kr IntKind.u32 ((pad ap V n).set i (V/ap^i+(x*2^c)%4294967296)))=[(b1,141,Kr IntKind.u32 ((pad ap V n).set i (V/ap^i+(x*2^c)%4294967296)))]from rfl,hset]at hS;refine V4 ?_;have hnext:V+ap^i*((x*2^c)%4294967296)+ap^(i+1)*(x*2^c/4294967296)=X%ap^(i+1)*2^c:=by
   have:ap^(i+1)*(x*2^c/4294967296)=ap^i*(4294967296*(x*2^c/4294967296)):=by rw[Nat.pow_succ,Nat.mul_assoc]
   rw[hVs,this,Nat.add_assoc,<-Nat.mul_add];congr 2;omega
  have hhi:x*2^c/4294967296<2147483648:=oO;by_cases hlt2:i+1<n
  ·refine V1 ?_;have hget2:(pad ap (V+ap^i*((x*2^c)%4294967296)) n).getD (i+1) 0=0:=by rw[fE _ _ hlt2,nc hlow]
   refine J3 ?_;refine jp (bn (i:=i+1) rfl rfl oO dO ce (jq (fz (k:=0) (i:=i+1) rfl bG hS rfl oO dO ?_)));refine J1 ?_;refine jp (iU rfl rfl oO (r:=((x*2^c/4294967296:Nat):Int)) (by exact i5 _ 32 dD) (jp (bF rfl Tryz.underlying141 ⟨_,Tryz.underlying99⟩ (r:=((x*2^c/4294967296:Nat):Int)) (by exact ic _ ⟨rfl,oO,oO⟩) (jp (rV rfl rfl (r:=((x*2^c/4294967296:Nat):Int)) (by rw[hget2,km rfl _ _ dD (by show _<4294967296;omega),Nat.zero_or]) (jp (bn (i:=i+1) rfl rfl oO dO ce (jh (hJ (k:=0) (i:=i+1) (a:=_) rfl rfl rfl bG hS rfl oO dO ?_)))))))));intro wz4 hS;refine ja ?_;obtain⟨e1,e2⟩:=qa (b:=ap) (r:=V+ap^i*((x*2^c)%4294967296)) (i:=i+1) (d:=x*2^c/4294967296) (n:=n) dD hlow (by unfold ap;omega);rw[e1,hnext]at hS;refine V2 ?_;exact⟨i+1,_,rfl,⟨hlt,h1,h2,h7,h13,h14,vi rfl oO,hS⟩,oO⟩
  ·refine V1 ?_;have hz:x*2^c/4294967296=0:=by
    rcases Nat.eq_zero_or_pos (x*2^c/4294967296)with h|h
    ·exact h
    ·exfalso;have g1:ap^(i+1)*1<=ap^(i+1)*(x*2^c/4294967296):=Nat.mul_le_mul_left _ h;have g2:X%ap^(i+1)*2^c<=X*2^c:=Nat.mul_le_mul_right _ (Nat.mod_le _ _);have g3:ap^n<=ap^(i+1):=Nat.pow_le_pow_right dD oO;omega
   rw[hz,Nat.mul_zero,Nat.add_zero]at hnext;rw[hnext]at hS;refine V2 ?_;exact⟨i+1,_,rfl,⟨hlt,h1,h2,h7,h13,h14,vi rfl oO,hS⟩,oO⟩
 ·refine J1 ?_;refine jt ?_;obtain rfl:i=m:=oO;rw[Nat.mod_eq_of_lt hXm]at hS;refine J2 ?_;refine jt ?_;refine bj rfl rfl ?_;exact⟨⟨b1,rfl,hS.ge (k:=0) rfl,hS.get (k:=0) rfl⟩,hS.ab⟩
theorem ug (R c i:Nat) (hc:c<=32):(bO ap R i+bO ap R (i+1)*4294967296)/2^c%4294967296=bO ap (R/2^c) i:=by
 have h1:R/ap^i=4294967296*(R/ap^(i+1))+bO ap R i:=gX ap R i;have h2:R/ap^(i+1)=4294967296*(R/ap^(i+2))+bO ap R (i+1):=gX ap R (i+1);have h3:(4294967296:Nat)=2^(32-c)*2^c:=by rw[<-Nat.pow_add,Nat.sub_add_cancel hc]
 have hpos:0<2^c:=Nat.pow_pos dD;have h4:bO ap (R/2^c) i=R/ap^i/2^c%4294967296:=by
  unfold bO;rw[Nat.div_div_eq_div_mul,Nat.div_div_eq_div_mul,Nat.mul_comm]
 have h5:R/ap^i=bO ap R i+bO ap R (i+1)*4294967296+2^c*(2^(32-c)*(4294967296*(R/ap^(i+2)))):=by
  rw[<-Nat.mul_assoc (2^c),Nat.mul_comm (2^c),<-h3,h1,h2];omega
 rw[h4,h5,Nat.add_mul_div_left _ _ hpos];rw[show 2^(32-c)*(4294967296*(R/ap^(i+2)))=4294967296*(2^(32-c)*(R/ap^(i+2))) by ac_rfl,Nat.add_mul_mod_self_left]
theorem Dg (vx:Value) (R c n:Nat) (w:World) (hx:Sl (uk .u32) 1 w vx (pad ap R n)) (hc:c<32) (hRn:R<ap^n) (hmx:n<=17592186044416):
  dj Tryz.prog 157 #[vx,.int .u64 c] w λr w'=>Sl (uk .u32) 1 w' r (bH (R/2^c))/\Below w.heap.size w w':=by
 have hS:=St.init w;have hlen:(pad ap R n).length=n:=pad_length _ _ _;refine enter Tryz.func157 rfl Tryz.ntmps157 rfl ?_;refine J2 ?_;refine jp (aF rfl (hx.ab hS.ab) ⟨_,Tryz.underlying139⟩ (jh (iI (n:=n) rfl rfl ce oO oO oO oO hS ?_)));intro b1 wz2 hS hBz2;refine J2 ?_;refine jp (aF rfl (hx.ab hS.ab) ⟨_,Tryz.underlying139⟩ ?_);refine V1 ?_;rw[<-gD ap n,show 0=R/2^c%ap^0 by rw[Nat.pow_zero,Nat.mod_one]]at hS;refine aQ (σ:=Nat) (λi ρ w'=>i<=n/\ρ 0=vx/\ρ 1= .int .u64 c/\ρ 5= .slice (some ⟨b1,0,none⟩) n n/\ρ 12=iB n/\ρ 13=iB i/\St w w' [(b1,141,Kr .u32 (pad ap (R/2^c%ap^i) n))]) (λi=>n-i) 0
  ⟨Nat.zero_le _,rfl,rfl,rfl,vi rfl (by rw[hlen]),rfl,hS⟩ ?_
 clear hS;rintro i ρ w3 ⟨hi,h0,h1,h5,h12,h13,hS⟩;refine V1 ?_;by_cases hlt:i<n
 ·refine V1 ?_;have x1:=dk R i;have x2:=dk R (i+1);have hg1:(pad ap R n).getD i 0=bO ap R i:=fE _ _ hlt;refine J4 ?_;refine jp (aH (i:=i) rfl rfl (hx.ab hS.ab) oO dO ce (jq (aO (i:=i) 0 rfl bG (hx.ab hS.ab) dO rfl rfl (.inr rfl) (jp (bF rfl Tryz.underlying99 ⟨_,Tryz.underlying141⟩ (r:=((bO ap R i:Nat):Int)) (by rw[hg1];exact bV _ ⟨rfl,oO,oO⟩) ?_)))));refine J4 ?_;refine jp (aF rfl (hx.ab hS.ab) ⟨_,Tryz.underlying139⟩ ?_);refine V1 ?_;refine aW (λρ w'=>ρ 0=vx/\ρ 1= .int .u64 c/\ρ 5= .slice (some ⟨b1,0,none⟩) n n/\ρ 6=iB i/\ρ 7= .int .u64 (bO ap R i+bO ap R (i+1)*4294967296:Nat)/\ρ 12=iB n/\ρ 13=iB i/\w3=w') ?_ ?_
  ·by_cases hlt2:i+1<n
   ·refine V1 ?_;have hg2:(pad ap R n).getD (i+1) 0=bO ap R (i+1):=fE _ _ hlt2;refine J4 ?_;refine jp (aH (i:=i+1) rfl rfl (hx.ab hS.ab) oO dO ce (jq (aO (i:=i+1) 0 rfl bG (hx.ab hS.ab) dO rfl rfl (.inr rfl) (jp (bF rfl Tryz.underlying99 ⟨_,Tryz.underlying141⟩ (r:=((bO ap R (i+1):Nat):Int)) (by rw[hg2];exact bV _ ⟨rfl,oO,oO⟩) (jp (nL rfl rfl oO (r:=((bO ap R (i+1)*2^32:Nat):Int)) (by exact nM _ 32 _ dD (bV _ ⟨rfl,oO,oO⟩)) (jp (rV rfl rfl (r:=((bO ap R i+bO ap R (i+1)*2^32:Nat):Int)) (by rw[<-nv _ _ 32 oO];exact km rfl _ _ (by show _<18446744073709551616;omega) (by show _<18446744073709551616;omega)) ?_)))))))));refine V1 ?_;exact⟨_,rfl,h0,h1,h5,rfl,rfl,h12,h13,rfl⟩
   ·refine V1 ?_;refine⟨_,rfl,h0,h1,h5,rfl,vi rfl ?_,h12,h13,rfl⟩;have:bO ap R (i+1)=0:=nc (Nat.lt_of_lt_of_le hRn (Nat.pow_le_pow_right dD oO));rw[this];simp
  clear h0 h1 h5 h12 h13;rintro ρ w' ⟨h0,h1,h5,h6,h7,h12,h13,rfl⟩;obtain⟨t,ht⟩:=jz (bO ap R i+bO ap R (i+1)*4294967296);rw[<-ht]at h7;refine J4 ?_;refine jp (iU rfl rfl oO (i5 _ _ (show c<=64 by omega)) (jp (bF rfl Tryz.underlying141 ⟨_,Tryz.underlying99⟩ (kN _) (jp (bn (i:=i) rfl rfl oO dO ce (jh (hJ (k:=0) (i:=i) (a:=_) rfl rfl rfl bG hS rfl oO dO ?_)))))));intro wz3 hS;refine ja ?_;rw[ht,ug R c i oO,xE dD]at hS;refine V2 ?_;exact⟨i+1,_,rfl,⟨hlt,h0,h1,h5,h12,vi rfl oO,hS⟩,oO⟩
 ·refine J1 ?_;refine jt ?_;obtain rfl:i=n:=oO;have hlt3:R/2^c<ap^i:=Nat.lt_of_le_of_lt (Nat.div_le_self _ _) hRn;rw[Nat.mod_eq_of_lt hlt3]at hS;have hsl:=hS.C9 (k:=0) rfl (n:=i) (cap:=i) (by simp) (Nat.le_refl _) oO;rw[List.take_of_length_le (by simp)]at hsl;refine J1 ?_;refine jh (ah Tryz.call112 rfl (qb _ _ _ hsl (lE dD _ _)) ?_);rintro v w4 ⟨hv,rfl⟩;refine J1 ?_;refine jt ?_;refine bj rfl rfl ?_;rw[ef hlt3]at hv;exact⟨hv,hS.ab⟩
structure Kn (a b U D top u2 d1 d2:Nat):Prop where
 ha:0<a
 hu:U/a=top*b+u2
 hd:D/a=d1*b+d2
 hu2:u2<b
 hd2:d2<b
 h1:0<d1
 hb:b<=2*d1
 hlt:U<D*b
namespace Kn
variable {a b U D top u2 d1 d2 : Nat}
theorem q_lt (h:Kn a b U D top u2 d1 d2):U/D<b:=by
 have hlt:=h.hlt;exact Nat.div_lt_of_lt_mul hlt
theorem dpos (h:Kn a b U D top u2 d1 d2):0<D:=by
 rcases Nat.eq_zero_or_pos D with h0|h0
 ·have:=h.hlt;rw[h0]at this;omega
 ·exact h0
theorem qT (h:Kn a b U D top u2 d1 d2):U/D*(d1*b+d2)<=top*b+u2:=by
 rw[<-h.hd,<-h.hu];have ha:=h.ha;have h1:U/D*(D/a)*a<=U:=by
  calc U/D*(D/a)*a=U/D*(D/a*a):=Nat.mul_assoc _ _ _
   _<=U/D*D:=Nat.mul_le_mul_left _ (Nat.div_mul_le_self _ _)
   _<=U:=Nat.div_mul_le_self _ _
 exact(Nat.le_div_iff_mul_le ha).2 h1
theorem q_le_top (h:Kn a b U D top u2 d1 d2):U/D<=top/d1:=by
 have h1:=h.qT;rw[Nat.mul_add,<-Nat.mul_assoc]at h1;have hu2:=h.hu2;have hb:0<b:=oO;have h2:U/D*d1*b<(top+1)*b:=by rw[Nat.add_mul];omega
 have h3:U/D*d1<top+1:=Nat.lt_of_mul_lt_mul_right h2;exact(Nat.le_div_iff_mul_le h.h1).2 oO
theorem refuted (h:Kn a b U D top u2 d1 d2) {g r:Nat} (hg:g*d1+r=top) (hq:U/D<=g) (hc:r*b+u2<g*d2):U/D<g:=by
 rcases Nat.lt_or_ge (U/D) g with h1|h1
 ·exact h1
 ·exfalso;have h2:U/D=g:=oO;have h3:=h.qT;rw[h2,Nat.mul_add,<-Nat.mul_assoc,<-hg,Nat.add_mul]at h3;omega
theorem near (h:Kn a b U D top u2 d1 d2) {g r:Nat} (hg:g*d1+r=top) (hgb:g<b) (hc:g*d2<=r*b+u2):g<=U/D+1:=by
 have h1:g*(d1*b+d2)<=top*b+u2:=by
  rw[Nat.mul_add,<-Nat.mul_assoc,<-hg,Nat.add_mul];omega
 rw[<-h.hd,<-h.hu]at h1;have ha:=h.ha;have hD:=Nat.div_add_mod D a;have hDl:=Nat.mod_lt D ha;have h2:g*(D/a)*a<=U:=Nat.le_trans (Nat.mul_le_mul_right _ h1) (Nat.div_mul_le_self _ _);have h3:b*a<=D:=by
  have h5:b*a<=D/a*a:=by
   refine Nat.mul_le_mul_right _ ?_;rw[h.hd];have:1*b<=d1*b:=Nat.mul_le_mul_right _ h.h1;omega
  exact Nat.le_trans h5 (Nat.div_mul_le_self _ _)
 have h4:g*D<=U+D:=by
  have e:g*D=g*(D/a)*a+g*(D%a):=by
   conv=>lhs;rw[<-hD]
   rw[Nat.mul_add,Nat.mul_assoc,Nat.mul_comm a]
  have f:g*(D%a)<=b*a:=Nat.mul_le_mul (Nat.le_of_lt hgb) (Nat.le_of_lt hDl);omega
 have h6:(g-1)*D<=U:=by rw[Nat.sub_mul,Nat.one_mul];omega
 have:=(Nat.le_div_iff_mul_le h.dpos).2 h6;omega
theorem rest (h:Kn a b U D top u2 d1 d2) {g r:Nat} (hg:g*d1+r=top) (hgb:g<=b) (hr:b<=r):g<=U/D:=by
 have hb0:0<b:=by have:=h.hd2;omega
 have ha:=h.ha;have hu:U/(a*b)=top:=by rw[<-Nat.div_div_eq_div_mul,h.hu,Nat.mul_comm,Nat.mul_add_div hb0,Nat.div_eq_of_lt h.hu2,Nat.add_zero]
 have hd:D/(a*b)=d1:=by rw[<-Nat.div_div_eq_div_mul,h.hd,Nat.mul_comm,Nat.mul_add_div hb0,Nat.div_eq_of_lt h.hd2,Nat.add_zero]
 have hab:0<a*b:=Nat.mul_pos ha hb0;have h1:=Nat.div_add_mod D (a*b);have h2:=Nat.mod_lt D hab;have h3:a*b*top<=U:=by rw[<-hu];exact Nat.mul_div_le _ _
 rw[hd]at h1;have h4:g*D<=U:=by
  have e:g*D=a*b*(g*d1)+g*(D% (a*b)):=by
   conv=>lhs;rw[<-h1]
   rw[Nat.mul_add];ac_rfl
  have f:g*(D% (a*b))<=b*(a*b):=Nat.mul_le_mul hgb (Nat.le_of_lt h2);have k:a*b*(g*d1+b)<=a*b*top:=Nat.mul_le_mul_left _ oO;rw[Nat.mul_add,Nat.mul_comm (a*b) b]at k;omega
 exact(Nat.le_div_iff_mul_le h.dpos).2 h4
theorem top_le (h:Kn a b U D top u2 d1 d2):top<d1*b+b:=by
 have hb0:0<b:=by have:=h.hd2;omega
 have ha:=h.ha;have hu:U/(a*b)=top:=by rw[<-Nat.div_div_eq_div_mul,h.hu,Nat.mul_comm,Nat.mul_add_div hb0,Nat.div_eq_of_lt h.hu2,Nat.add_zero]
 have hd:D/(a*b)=d1:=by rw[<-Nat.div_div_eq_div_mul,h.hd,Nat.mul_comm,Nat.mul_add_div hb0,Nat.div_eq_of_lt h.hd2,Nat.add_zero]
 have hab:0<a*b:=Nat.mul_pos ha hb0;rw[<-hu];refine Nat.div_lt_of_lt_mul (Nat.lt_of_lt_of_le h.hlt ?_);have h1:=Nat.div_add_mod D (a*b);have h2:=Nat.mod_lt D hab;rw[hd]at h1;have h3:D<=a*b*(d1+1):=by rw[Nat.mul_add];omega
 calc D*b<=a*b*(d1+1)*b:=Nat.mul_le_mul_right _ h3
  _=a*b*(d1*b+b):=by rw[Nat.mul_assoc,Nat.add_mul,Nat.one_mul]
end Kn
theorem A3 {b:Nat} (hb:0<b) {lo o:Nat} (hlo:lo<b^o) (X j:Nat):bO b (lo+b^o*X) (o+j)=bO b X j:=by
 unfold bO;rw[Nat.pow_add,<-Nat.div_div_eq_div_mul,Nat.add_mul_div_left _ _ (Nat.pow_pos hb),Nat.div_eq_of_lt hlo,Nat.zero_add]
theorem ib {b lo X o k d n:Nat} (hb:2<=b) (hlo:lo<b^o) (hd:d<b) (hk:o+k<n):
  ∃X',(pad b (lo+b^o*X) n).set (o+k) d=pad b (lo+b^o*X') n/\X'+b^k*bO b X k=X+b^k*d/\(∀m,k<m->X<b^m->X'<b^m):=by
 have hb':0<b:=oO;obtain⟨v',e1,e2,e3⟩:=AN (b:=b) (v:=lo+b^o*X) (k:=o+k) (d:=d) (n:=n) hb hd hk;rw[A3 hb' hlo,Nat.pow_add,Nat.mul_assoc,Nat.mul_assoc]at e2;have hpos:0<b^o:=Nat.pow_pos hb';have hdv:v'/b^o=X+b^k*d-b^k*bO b X k/\v'%b^o=lo/\b^k*bO b X k<=X+b^k*d:=by
  have hle:b^k*bO b X k<=X:=by
   have:=ze b X k;rw[Nat.mul_add]at this;generalize X%b^k=z at this;omega
  have:v'=lo+b^o*(X+b^k*d-b^k*bO b X k):=by
   rw[Nat.mul_sub,Nat.mul_add];have:b^o*(b^k*bO b X k)<=b^o*X:=Nat.mul_le_mul_left _ hle;omega
  rw[this,Nat.add_mul_div_left _ _ hpos,Nat.div_eq_of_lt hlo,Nat.zero_add,Nat.add_mul_mod_self_left,Nat.mod_eq_of_lt hlo];exact⟨rfl,rfl,oO⟩
 obtain⟨f1,f2,f3⟩:=hdv;refine⟨X+b^k*d-b^k*bO b X k,?_,oO,λm hm hX=> ?_⟩
 ·rw[e1,<-f1];congr 1;have:=Nat.mod_add_div v' (b^o);rw[f2]at this;exact this.symm
 ·have h1:lo+b^o*X<b^(o+m):=by
   rw[Nat.pow_add];have:b^o*(X+1)<=b^o*b^m:=Nat.mul_le_mul_left _ hX;rw[Nat.mul_add]at this;omega
  have h2:=e3 (o+m) oO h1;rw[<-f1];rw[Nat.pow_add]at h2;exact Nat.div_lt_of_lt_mul h2
open Go Go.RowKit Go.Sx
theorem Kn.of (n U D:Nat) (hn:2<=n) (hD:D<ap^n) (hD2:ap^n<=2*D) (hU:U<D*ap):
  Kn (ap^(n-2)) ap U D (bO ap U n*ap+bO ap U (n-1)) (bO ap U (n-2)) (bO ap D (n-1)) (bO ap D (n-2)):=by
 have hU1:U<ap^(n+1):=by
  rw[Nat.pow_succ];exact Nat.lt_trans hU (Nat.mul_lt_mul_of_pos_right hD dD)
 have e1:=gX ap U (n-2);have e2:=gX ap U (n-1);rw[show n-2+1=n-1 by omega]at e1;rw[show n-1+1=n by omega]at e2;have e3:U/ap^n=bO ap U n:=(j4 dD hU1).symm;have f1:=gX ap D (n-2);rw[show n-2+1=n-1 by omega]at f1;have f2:D/ap^(n-1)=bO ap D (n-1):=(j4 dD (by rw[show n-1+1=n by omega];exact hD)).symm;have hp:0<ap^(n-1):=Nat.pow_pos dD;have hb:ap<=2*bO ap D (n-1):=by
  rw[<-f2];have g1:=Nat.div_add_mod D (ap^(n-1));have g2:=Nat.mod_lt D hp;have g3:ap^n=ap^(n-1)*ap:=by rw[<-Nat.pow_succ];congr 1;omega
  have g4:ap^(n-1)*ap<ap^(n-1)*(2*(D/ap^(n-1))+2):=by
   rw[Nat.mul_add,Nat.mul_left_comm];omega
  have g5:=Nat.lt_of_mul_lt_mul_left g4;have hB:ap=4294967296:=rfl;omega
 refine⟨Nat.pow_pos dD,?_,?_,jO dD _ _,jO dD _ _,?_,hb,hU⟩
 ·rw[e1,e2,e3,Nat.mul_comm,Nat.mul_comm ap]
 ·rw[f1,f2,Nat.mul_comm]
 ·have hB:ap=4294967296:=rfl;omega
theorem xj (x t bb:Nat) (hx:x<=4294967295) (ht:t<=4294967295) (hb:bb<=1):
  (x+2*ap-t-bb)%ap+t+bb=x+4294967296*(if x<t+bb then 1 else 0):=by
 have hB:ap=4294967296:=rfl;obtain⟨D,hD⟩:=jz (x+2*ap-t-bb);rw[<-hD];have hD2:D+t+bb=x+8589934592:=oO;clear hD;show D%4294967296+t+bb=_;rcases Nat.lt_or_ge x (t+bb)with h|h
 ·rw[if_pos h];omega
 ·rw[if_neg oO];omega
theorem MI (w0 w:World) (H:List bQ) (bu bd o cap n m1 lo U D:Nat)
  (hS:St w0 w ((bu,141,Kr .u32 (pad ap (lo+ap^o*U) m1))::(bd,141,Kr .u32 (pad ap D n))::H))
  (hlo:lo<ap^o) (hn:2<=n) (hD:D<ap^n) (hD2:ap^n<=2*D) (hU:U<D*ap) (hom:o+n+1<=m1) (hm:m1<=17592186044416):
  dj Tryz.prog 156 #[.slice (some ⟨bu,o,none⟩) (n+1) cap,.slice (some ⟨bd,0,none⟩) n n] w λr w'=>r= .int .u32 (U/D:Nat)/\
   St w0 w' ((bu,141,Kr .u32 (pad ap (lo+ap^o*(U%D)) m1))::(bd,141,Kr .u32 (pad ap D n))::H):=by
 have hB:ap=4294967296:=rfl;have hkn:=Kn.of n U D hn hD hD2 hU;have hq:=hkn.q_lt;have hU1:U<ap^(n+1):=by
  rw[Nat.pow_succ];exact Nat.lt_trans hU (Nat.mul_lt_mul_of_pos_right hD dD)
 have hgU:∀X j,j<=n->(pad ap (lo+ap^o*X) m1).getD (o+j) 0=bO ap X j:=λX j hj=>by rw[fE _ _ oO,A3 dD hlo]
 have hgD:∀j,j<n->(pad ap D n).getD j 0=bO ap D j:=λj hj=>fE _ _ hj;have hgd1:=hgD (n-1) oO;have hgd2:=hgD (n-2) oO;have a0:=dk U n;have a1:=dk U (n-1);have a2:=dk U (n-2);have c1:=dk D (n-1);have c2:=dk D (n-2);have hd1:=hkn.h1;obtain⟨top,htop⟩:=jz (bO ap U n*ap+bO ap U (n-1));have htop2:top=bO ap U (n-1)+bO ap U n*2^32:=by rw[htop,Nat.add_comm]
 have hor:bO ap U n*2^32|||bO ap U (n-1)=top:=by rw[Nat.or_comm,nv _ _ _ oO,htop2]
 have htl:top<=18446744073709551615:=by rw[htop];omega
 refine enter Tryz.func156 rfl Tryz.ntmps156 rfl ?_;refine V4 ?_;refine bk [jo 0,jo 1,jo 2,ju 3,jo 4,jo 5,jo 6,jo 7,jo 8,jo 9,ju 10,jo 11,jo 12,jo 13] kR kR hS ?_;intro wz1 hS hBz1;refine J2 ?_;refine jl rfl (bn (i:=n) rfl rfl oO dO ce (jm rfl (fz (k:=0) (i:=o+(n)) rfl bG hS rfl oO dO (jl rfl (bF rfl Tryz.underlying99 ⟨_,Tryz.underlying141⟩ (r:=((bO ap U n:Nat):Int)) (by rw[hgU U n oO];exact bV _ ⟨rfl,oO,oO⟩) (jl rfl (nL rfl rfl oO (r:=((bO ap U n*2^32:Nat):Int)) (by exact nM _ 32 _ dD (bV _ ⟨rfl,oO,oO⟩)) ?_)))))));refine J3 ?_;refine jl rfl (bn (i:=n-1) rfl rfl oO dO ce (jm rfl (fz (k:=0) (i:=o+(n-1)) rfl bG hS rfl oO dO (jl rfl (bF rfl Tryz.underlying99 ⟨_,Tryz.underlying141⟩ (r:=((bO ap U (n-1):Nat):Int)) (by rw[hgU U (n-1) oO];exact bV _ ⟨rfl,oO,oO⟩) (jl rfl (rV rfl rfl (r:=((top:Nat):Int)) (by rw[<-hor];exact km rfl _ _ (by show _<18446744073709551616;omega) (by show _<18446744073709551616;omega)) ?_)))))));refine V1 ?_;refine bk [jo 0,jo 1,jo 2,jo 3,jo 4,ju 5,jo 6,jo 7,jo 8,jo 9,jo 10,jo 11,jo 12,ju 13,jo 14,jo 15,jo 16,jo 17] kR kR hS ?_;intro wz2 hS hBz2;refine J4 ?_;refine jl rfl (bn (i:=n-1) rfl rfl oO dO ce (jm rfl (fz (k:=1) (i:=n-1) rfl bG hS rfl oO dO (jl rfl (bF rfl Tryz.underlying99 ⟨_,Tryz.underlying141⟩ (r:=((bO ap D (n-1):Nat):Int)) (by rw[hgd1];exact bV _ ⟨rfl,oO,oO⟩) (jl rfl (kV rfl rfl oO (r:=((top/bO ap D (n-1):Nat):Int)) (by rw[IntWalk.u64_quo _ _ oO];push_cast;rfl) ?_)))))));refine J4 ?_;refine jl rfl (bn (i:=n-1) rfl rfl oO dO ce (jm rfl (fz (k:=1) (i:=n-1) rfl bG hS rfl oO dO (jl rfl (bF rfl Tryz.underlying99 ⟨_,Tryz.underlying141⟩ (r:=((bO ap D (n-1):Nat):Int)) (by rw[hgd1];exact bV _ ⟨rfl,oO,oO⟩) (jl rfl (iJ rfl rfl oO (r:=((top%bO ap D (n-1):Nat):Int)) (by rw[Int.tmod_eq_emod_of_nonneg oO];push_cast;rfl) ?_)))))));refine J2 ?_;refine jb ?_;refine aW (λρ w'=>∃g,g<ap/\U/D<=g/\g<=U/D+1/\ρ 0= .slice (some ⟨bu,o,none⟩) (n+1) cap/\ρ 1= .slice (some ⟨bd,0,none⟩) n n/\ρ 5=iB n/\ρ 7= .int .u64 g/\
   St w0 w' ((bu,141,Kr .u32 (pad ap (lo+ap^o*U) m1))::(bd,141,Kr .u32 (pad ap D n))::H)) ?_ ?_
 ·refine ja ?_;refine aQ (σ:=Nat×Nat) (λs ρ w'=>s.1*bO ap D (n-1)+s.2=top/\U/D<=s.1/\s.2<ap/\ρ 0= .slice (some ⟨bu,o,none⟩) (n+1) cap/\ρ 1= .slice (some ⟨bd,0,none⟩) n n/\ρ 5=iB n/\ρ 7= .int .u64 s.1/\ρ 8= .int .u64 s.2/\
    St w0 w' ((bu,141,Kr .u32 (pad ap (lo+ap^o*U) m1))::(bd,141,Kr .u32 (pad ap D n))::H)) (λs=>s.1) (top/bO ap D (n-1),top%bO ap D (n-1))
   ⟨by simp only;rw[Nat.mul_comm];exact Nat.div_add_mod _ _,by simp only;rw[htop];exact hkn.q_le_top,by simp only;have:=Nat.mod_lt top hd1;omega,rfl,rfl,rfl,rfl,rfl,hS⟩ ?_
  clear hS;rintro⟨g,r⟩ ρ w3 ⟨hinv,hgq,hr,h0,h1,h5,h7,h8,hS⟩;simp only at hinv hgq hr h0 h1 h5 h7 h8 hS;have hgt:g<=top:=by
   have:g*1<=g*bO ap D (n-1):=Nat.mul_le_mul_left _ hd1;omega
  refine ja ?_;by_cases hgB:ap<=g
  ·refine ja ?_;refine bk [jo 0,jo 1,jo 2,jo 3,jo 4,jo 5,jo 6,jo 7,ju 8,jo 9,jo 10,jo 11,jo 12,jo 13,jo 14,jo 15,jo 16,ju 17,jo 18,jo 19,jo 20,jo 21] kR kR hS ?_;intro wz3 hS hBz3;refine J3 ?_;refine fD rfl (ak 50 kR rfl dT) (fD rfl (ak 50 kR rfl dT) (fD rfl (ak 50 kR rfl dT) (fD rfl (ak 50 kR rfl dT) (fD rfl (ak 50 kR rfl dT) (fD rfl (ak 50 kR rfl dT) (fD rfl (ak 50 kR rfl dT) (fD rfl (ak 50 kR rfl dT) (fD rfl (ak 50 kR rfl dT) (fD rfl (ak 50 kR rfl dT) (fD rfl (ak 50 kR rfl dT) (fD rfl (ak 50 kR rfl dT) (fD rfl (ak 50 kR rfl dT) (fD rfl (ak 50 kR rfl dT) ?_)))))))))))));refine fD rfl (ak 50 kR rfl dT) (fD rfl (ak 50 kR rfl dT) (fD rfl (ak 50 kR rfl dT) (fD rfl (ak 50 kR rfl dT) (jl rfl (aZ (vb rfl dT) rfl ?_)))));refine ja ?_;refine bZ rfl (rfl) ?_;refine ja ?_;have hgq2:U/D<g:=oO;have hg0:0<g:=Nat.lt_of_le_of_lt (Nat.zero_le _) hgq2;have hg1:U/D<=g-1:=Nat.le_sub_one_of_lt hgq2;refine V3 ?_;have hgd:(g-1)*bO ap D (n-1)+(r+bO ap D (n-1))=top:=by
    obtain⟨g',rfl⟩:∃g',g=g'+1:=⟨g-1,oO⟩;rw[Nat.add_mul,Nat.one_mul]at hinv;rw[Nat.add_sub_cancel];omega
   refine J4 ?_;refine jp (bn (i:=n-1) rfl rfl oO dO ce (jq (fz (k:=1) (i:=n-1) rfl bG hS rfl oO dO (jp (bF rfl Tryz.underlying99 ⟨_,Tryz.underlying141⟩ (r:=((bO ap D (n-1):Nat):Int)) (by rw[hgd1];exact bV _ ⟨rfl,oO,oO⟩) (jp (ia rfl rfl (r:=((r+bO ap D (n-1):Nat):Int)) (by exact bV _ ⟨by push_cast;rfl,oO,oO⟩) ?_)))))));refine V3 ?_;by_cases hbrk:ap<=r+bO ap D (n-1)
   ·refine J1 ?_;refine jt ?_;have hgB:g-1<ap:=by
     rcases Nat.lt_or_ge (g-1) ap with h|h
     ·exact h
     ·exfalso;have h1:ap*bO ap D (n-1)<=(g-1)*bO ap D (n-1):=Nat.mul_le_mul_right _ h;have h2:=hkn.top_le;rw[<-htop,Nat.mul_comm]at h2;omega
    have hgq:=hkn.rest (by rw[<-htop];exact hgd) oO hbrk;exact⟨_,rfl,g-1,hgB,hg1,oO,h0,h1,h5,vi rfl oO,hS⟩
   ·refine V1 ?_;refine⟨(g-1,r+bO ap D (n-1)),_,rfl,⟨hgd,hg1,by simp only;omega,h0,h1,h5,vi rfl (by simp only;omega),rfl,hS⟩,by simp only;omega⟩
  ·have hgd2':g*bO ap D (n-2)<=4294967295*4294967295:=Nat.mul_le_mul oO c2;have hor2:r*2^32|||bO ap U (n-2)=r*4294967296+bO ap U (n-2):=by rw[Nat.or_comm,nv _ _ _ oO,Nat.add_comm]
   refine ja ?_;refine bk [jo 0,jo 1,jo 2,jo 3,jo 4,jo 5,jo 6,jo 7,ju 8,jo 9,jo 10,jo 11,jo 12,jo 13,jo 14,jo 15,jo 16,ju 17,jo 18,jo 19,jo 20,jo 21] kR kR hS ?_;intro wz4 hS hBz4;refine J3 ?_;refine bP rfl (ai 50 kR rfl dF) (aI h7 (bP rfl (ai 50 kR rfl dF) (aI h1 (bP rfl (ai 50 kR rfl dF) (aI h5 (bP rfl (ai 50 kR rfl dF) (k9 rfl rfl (IntWalk.i64_in _ oO) (bP rfl (ai 50 kR rfl dF) (bn (i:=n-2) rfl rfl oO dO ce (eY rfl (ai 50 kR rfl dF) (fz (k:=1) (i:=n-2) rfl bG hS rfl oO dO (bP rfl (ai 50 kR rfl dF) (bF rfl Tryz.underlying99 ⟨_,Tryz.underlying141⟩ (r:=((bO ap D (n-2):Nat):Int)) (by rw[hgd2];exact bV _ ⟨rfl,oO,oO⟩) (bP rfl (ai 50 kR rfl dF) (oH rfl rfl (r:=((g*bO ap D (n-2):Nat):Int)) (by exact bV _ ⟨by push_cast;rfl,oO,oO⟩) (bP rfl (ai 50 kR rfl dF) (aI h8 (bP rfl (ai 50 kR rfl dF) (nL rfl rfl oO (r:=((r*2^32:Nat):Int)) (by exact nM _ 32 _ dD (bV _ ⟨rfl,oO,oO⟩)) (bP rfl (ai 50 kR rfl dF) (aI h0 (bP rfl (ai 50 kR rfl dF) (aI h5 (bP rfl (ai 50 kR rfl dF) (k9 rfl rfl (IntWalk.i64_in _ oO) (bP rfl (ai 50 kR rfl dF) (bn (i:=n-2) rfl rfl oO dO ce ?_)))))))))))))))))))))))))));refine eY rfl (ai 50 kR rfl dF) (fz (k:=0) (i:=o+(n-2)) rfl bG hS rfl oO dO (bP rfl (ai 50 kR rfl dF) (bF rfl Tryz.underlying99 ⟨_,Tryz.underlying141⟩ (r:=((bO ap U (n-2):Nat):Int)) (by rw[hgU U (n-2) oO];exact bV _ ⟨rfl,oO,oO⟩) (bP rfl (ai 50 kR rfl dF) (rV rfl rfl (r:=((r*4294967296+bO ap U (n-2):Nat):Int)) (by rw[<-hor2];exact km rfl _ _ (by show _<18446744073709551616;omega) (by show _<18446744073709551616;omega)) (bP rfl (ai 50 kR rfl dF) (mQ rfl rfl (jl rfl (aZ (vb rfl dF) rfl ?_)))))))));refine ja ?_;by_cases href:r*4294967296+bO ap U (n-2)<g*bO ap D (n-2)
   ·refine bZ rfl (decide_eq_true (by exact_mod_cast href)) ?_;refine ja ?_;have hgq2:U/D<g:=hkn.refuted (by rw[<-htop];exact hinv) hgq href;have hg0:0<g:=Nat.lt_of_le_of_lt (Nat.zero_le _) hgq2;have hg1:U/D<=g-1:=Nat.le_sub_one_of_lt hgq2;refine V3 ?_;have hgd:(g-1)*bO ap D (n-1)+(r+bO ap D (n-1))=top:=by
     obtain⟨g',rfl⟩:∃g',g=g'+1:=⟨g-1,oO⟩;rw[Nat.add_mul,Nat.one_mul]at hinv;rw[Nat.add_sub_cancel];omega
    refine J4 ?_;refine jp (bn (i:=n-1) rfl rfl oO dO ce (jq (fz (k:=1) (i:=n-1) rfl bG hS rfl oO dO (jp (bF rfl Tryz.underlying99 ⟨_,Tryz.underlying141⟩ (r:=((bO ap D (n-1):Nat):Int)) (by rw[hgd1];exact bV _ ⟨rfl,oO,oO⟩) (jp (ia rfl rfl (r:=((r+bO ap D (n-1):Nat):Int)) (by exact bV _ ⟨by push_cast;rfl,oO,oO⟩) ?_)))))));refine V3 ?_;by_cases hbrk:ap<=r+bO ap D (n-1)
    ·refine J1 ?_;refine jt ?_;have hgB:g-1<ap:=by
      rcases Nat.lt_or_ge (g-1) ap with h|h
      ·exact h
      ·exfalso;have h1:ap*bO ap D (n-1)<=(g-1)*bO ap D (n-1):=Nat.mul_le_mul_right _ h;have h2:=hkn.top_le;rw[<-htop,Nat.mul_comm]at h2;omega
     have hgq:=hkn.rest (by rw[<-htop];exact hgd) oO hbrk;exact⟨_,rfl,g-1,hgB,hg1,oO,h0,h1,h5,vi rfl oO,hS⟩
    ·refine V1 ?_;refine⟨(g-1,r+bO ap D (n-1)),_,rfl,⟨hgd,hg1,by simp only;omega,h0,h1,h5,vi rfl (by simp only;omega),rfl,hS⟩,by simp only;omega⟩
   ·refine ct rfl (decide_eq_false (by exact_mod_cast href)) ?_;refine jt ?_;have hnear:=hkn.near (by rw[<-htop];exact hinv) oO (Nat.le_of_not_lt href);exact⟨_,rfl,g,oO,hgq,hnear,h0,h1,h5,h7,hS⟩
 clear hS a0 a1 a2 c1 c2 hor htl htop2;rintro ρ w2 ⟨g,hgB,hq1,hq2,h0,h1,h5,h7,hS⟩;clear htop;refine J5 ?_;refine jb ?_;refine aW (λρ w'=>∃c bb X,c<=4294967295/\bb<=1/\X<ap^(n+1)/\X+g*D=U+ap^n*(c+bb)/\ρ 0= .slice (some ⟨bu,o,none⟩) (n+1) cap/\ρ 1= .slice (some ⟨bd,0,none⟩) n n/\ρ 5=iB n/\ρ 7= .int .u64 g/\ρ 9= .int .u64 (c:Nat)/\ρ 10= .int .u32 (bb:Nat)/\
   St w0 w' ((bu,141,Kr .u32 (pad ap (lo+ap^o*X) m1))::(bd,141,Kr .u32 (pad ap D n))::H)) ?_ ?_
 ·refine ja ?_;refine aQ (σ:=Nat×Nat×Nat×Nat) (λs ρ w'=>s.1<=n/\s.2.1<=4294967295/\s.2.2.1<=1/\s.2.2.2<ap^(n+1)/\s.2.2.2+g*(D%ap^s.1)=U+ap^s.1*(s.2.1+s.2.2.1)/\ρ 0= .slice (some ⟨bu,o,none⟩) (n+1) cap/\ρ 1= .slice (some ⟨bd,0,none⟩) n n/\ρ 5=iB n/\ρ 7= .int .u64 g/\ρ 9= .int .u64 s.2.1/\ρ 10= .int .u32 s.2.2.1/\
    ρ 82= .slice (some ⟨bd,0,none⟩) n n/\ρ 83=iB n/\ρ 84=iB s.1/\
    St w0 w' ((bu,141,Kr .u32 (pad ap (lo+ap^o*s.2.2.2) m1))::(bd,141,Kr .u32 (pad ap D n))::H)) (λs=>n-s.1) (0,0,0,U)
   ⟨Nat.zero_le _,Nat.zero_le _,Nat.zero_le _,hU1,by simp[Nat.mod_one],h0,h1,h5,h7,rfl,rfl,rfl,rfl,rfl,hS⟩ ?_
  clear hS h0 h1 h5 h7;rintro⟨k,c,bb,X⟩ ρ w3 ⟨hk,hc,hbb,hX,hinv,h0,h1,h5,h7,h9,h10,h82,h83,h84,hS⟩;simp only at hk hc hbb hX hinv h0 h1 h5 h7 h9 h10 h82 h83 h84 hS;refine V1 ?_;by_cases hlt:k<n
  ·refine V1 ?_;have x1:=dk X k;have d1:=dk D k;have hgX:=hgU X k hk;obtain⟨u1,u2⟩:=qV g (bO ap D k) 0 c oO d1 oO hc;refine J1 ?_;refine jp (bn (i:=k) h82 h84 oO dO ce (jq (fz (k:=1) (i:=k) rfl bG hS rfl oO dO ?_)));refine V2 ?_;rw[hgD k hlt];refine J2 ?_;refine jp (bF rfl Tryz.underlying99 ⟨_,Tryz.underlying141⟩ (r:=((bO ap D k:Nat):Int)) (by exact bV _ ⟨rfl,oO,oO⟩) (jp (oH rfl rfl (r:=((g*bO ap D k:Nat):Int)) (by exact bV _ ⟨by push_cast;rfl,oO,oO⟩) ?_)));refine J1 ?_;refine jp (ia rfl rfl (r:=((g*bO ap D k+c:Nat):Int)) (by exact bV _ ⟨by push_cast;rfl,oO,oO⟩) ?_);refine V1 ?_;obtain⟨t,ht⟩:=jz (g*bO ap D k+c);rw[<-ht];have htl:t<=18446744073709551615:=oO;refine J1 ?_;refine jp (iU rfl rfl oO (r:=((t/4294967296:Nat):Int)) (by exact i5 _ 32 dD) ?_);refine J5 ?_;refine jp (bn (i:=k) rfl rfl oO dO ce (jq (fz (k:=0) (i:=o+(k)) rfl bG hS rfl oO dO ?_)));refine J1 ?_;refine jp (bF rfl Tryz.underlying141 ⟨_,Tryz.underlying99⟩ (kN _) ?_);refine J1 ?_;refine jh (ah Tryz.call161 rfl (xH _ _ _ _ (by rw[hgX];omega) (Nat.mod_lt _ dD) hbb) ?_);rintro v w4 ⟨rfl,rfl⟩;refine J3 ?_;refine jp (bn (i:=k) rfl rfl oO dO ce (jh (hJ (k:=0) (i:=o+(k)) (a:=_) rfl rfl rfl bG hS rfl oO dO ?_)));intro wz5 hS;refine V1 ?_;obtain⟨u',hu'⟩:∃u',u'=(bO ap X k+2*ap-t%4294967296-bb)%ap:=⟨_,rfl⟩;obtain⟨b',hb'⟩:∃b',b'=if bO ap X k<t%4294967296+bb then 1 else 0:=⟨_,rfl⟩
   have hub:u'+t%4294967296+bb=bO ap X k+4294967296*b':=by
    rw[hu',hb'];exact xj _ _ _ x1 oO hbb
   have hb1:b'<=1:=by rw[hb'];split<;>omega
   obtain⟨X',e1,e2,e3⟩:=ib (b:=ap) (lo:=lo) (X:=X) (o:=o) (k:=k) (d:=u') (n:=m1) dD hlo (hu'▸Nat.mod_lt _ dD) oO;rw[hgX,<-hu']at hS;rw[List.set_cons_zero,e1]at hS;refine V2 ?_;refine⟨(k+1,t/4294967296,b',X'),_,rfl,⟨hlt,by simp only;omega,hb1,e3 _ oO hX,?_,h0,h1,h5,h7,rfl,vi rfl (by rw[hgX,hb']),h82,h83,vi rfl (by simp),hS⟩,by simp only;omega⟩;simp only;have f1:g*(D%ap^(k+1))=g*(D%ap^k)+ap^k*(g*bO ap D k):=by rw[mod_pow_succ,Nat.mul_add];congr 1;ac_rfl
   have f2:ap^(k+1)*(t/4294967296+b')=ap^k*(4294967296*(t/4294967296)+4294967296*b'):=by rw[Nat.pow_succ,Nat.mul_assoc,<-Nat.mul_add]
   have f3:bO ap X k+(4294967296*(t/4294967296)+4294967296*b')=u'+(g*bO ap D k+c)+bb:=oO;have f4:ap^k*bO ap X k+ap^k*(4294967296*(t/4294967296)+4294967296*b')=ap^k*u'+ap^k*(g*bO ap D k)+ap^k*(c+bb):=by
    rw[<-Nat.mul_add,f3,<-Nat.mul_add,<-Nat.mul_add];congr 1;omega
   rw[f1,f2];omega
  ·refine J1 ?_;refine jt ?_;obtain rfl:k=n:=oO;rw[Nat.mod_eq_of_lt hD]at hinv;exact⟨_,rfl,c,bb,X,hc,hbb,hX,hinv,h0,h1,h5,h7,h9,h10,hS⟩
 clear hS h0 h1 h5 h7;rintro ρ w3 ⟨c,bb,X,hc,hbb,hX,hinv,h0,h1,h5,h7,h9,h10,hS⟩;refine ja ?_;have x1:=dk X n;have hgX:=hgU X n (Nat.le_refl _);refine J4 ?_;refine jp (bn (i:=n) rfl rfl oO dO ce (jq (fz (k:=0) (i:=o+(n)) rfl bG hS rfl oO dO ?_)));refine J1 ?_;refine jp (bF rfl Tryz.underlying141 ⟨_,Tryz.underlying99⟩ (r:=((c:Nat):Int)) (by exact ic _ ⟨rfl,oO,oO⟩) ?_);refine J1 ?_;refine jh (ah Tryz.call161 rfl (xH _ _ _ _ (by rw[hgX];omega) oO hbb) ?_);rintro v w4 ⟨rfl,rfl⟩;refine J3 ?_;refine jp (bn (i:=n) rfl rfl oO dO ce (jh (hJ (k:=0) (i:=o+(n)) (a:=_) rfl rfl rfl bG hS rfl oO dO ?_)));intro wz6 hS;refine V1 ?_;obtain⟨u',hu'⟩:∃u',u'=(bO ap X n+2*ap-c-bb)%ap:=⟨_,rfl⟩;obtain⟨b',hb'⟩:∃b',b'=if bO ap X n<c+bb then 1 else 0:=⟨_,rfl⟩
 have hub:u'+c+bb=bO ap X n+4294967296*b':=by
  rw[hu',hb'];exact xj _ _ _ x1 hc hbb
 have hb1:b'<=1:=by rw[hb'];split<;>omega
 obtain⟨Y,e1,e2,e3⟩:=ib (b:=ap) (lo:=lo) (X:=X) (o:=o) (k:=n) (d:=u') (n:=m1) dD hlo (hu'▸Nat.mod_lt _ dD) oO;have hY:=e3 _ oO hX;rw[hgX,<-hu']at hS;rw[List.set_cons_zero,e1]at hS;have hYU:Y+g*D=U+ap^(n+1)*b':=by
  have f2:ap^(n+1)*b'=ap^n*(4294967296*b'):=by rw[Nat.pow_succ,Nat.mul_assoc]
  have f4:ap^n*bO ap X n+ap^n*(4294967296*b')=ap^n*u'+ap^n*(c+bb):=by
   rw[<-Nat.mul_add,<-Nat.mul_add];congr 1;omega
  omega
 have hbv:(if bO ap X n<c+bb then 1 else 0:Nat)=b':=hb'.symm;rw[hgX,hbv];clear e1 e2 e3 hub hu' hb' hbv hgX x1 hinv hX;refine V2 ?_;have hdm:=Nat.div_add_mod U D;have hDpos:0<D:=hkn.dpos;by_cases hb0:b'=0
 ·refine V1 ?_;rw[hb0,Nat.mul_zero,Nat.add_zero]at hYU;have hg1:g<=U/D:=(Nat.le_div_iff_mul_le hDpos).2 oO;have hgq:g=U/D:=oO;have hYm:Y=U%D:=by rw[hgq,Nat.mul_comm]at hYU;omega
  rw[hYm]at hS;refine J1 ?_;refine jp (bF rfl Tryz.underlying141 ⟨_,Tryz.underlying99⟩ (r:=((U/D:Nat):Int)) (by rw[hgq];exact ic _ ⟨rfl,Int.natCast_nonneg _,by generalize U/D=z at hq⊢;omega⟩) ?_);refine J1 ?_;refine jt ?_;refine bj rfl rfl ?_;exact⟨rfl,hS⟩
 ·refine V1 ?_;obtain rfl:b'=1:=oO;have hgq:g=U/D+1:=by
   rcases Nat.lt_or_ge (U/D) g with h|h
   ·omega
   ·exfalso;have:g*D<=U:=(Nat.le_div_iff_mul_le hDpos).1 h;omega
  have hYR:Y+D=U%D+ap^(n+1):=by
   rw[hgq,Nat.add_mul,Nat.one_mul,Nat.mul_comm]at hYU;omega
  refine J4 ?_;refine jb ?_;refine aW (λρ w'=>∃c Z,c<=1/\Z<ap^(n+1)/\Z+ap^n*c=Y+D/\ρ 0= .slice (some ⟨bu,o,none⟩) (n+1) cap/\ρ 5=iB n/\ρ 7= .int .u64 g/\ρ 14= .int .u32 (c:Nat)/\
    St w0 w' ((bu,141,Kr .u32 (pad ap (lo+ap^o*Z) m1))::(bd,141,Kr .u32 (pad ap D n))::H)) ?_ ?_
  ·refine ja ?_;refine aQ (σ:=Nat×Nat×Nat) (λs ρ w'=>s.1<=n/\s.2.1<=1/\s.2.2<ap^(n+1)/\s.2.2+ap^s.1*s.2.1=Y+D%ap^s.1/\ρ 0= .slice (some ⟨bu,o,none⟩) (n+1) cap/\ρ 5=iB n/\ρ 7= .int .u64 g/\ρ 14= .int .u32 s.2.1/\
     ρ 130= .slice (some ⟨bd,0,none⟩) n n/\ρ 131=iB n/\ρ 132=iB s.1/\
     St w0 w' ((bu,141,Kr .u32 (pad ap (lo+ap^o*s.2.2) m1))::(bd,141,Kr .u32 (pad ap D n))::H)) (λs=>n-s.1) (0,0,Y)
    ⟨Nat.zero_le _,Nat.zero_le _,hY,by simp[Nat.mod_one],h0,h5,h7,rfl,rfl,rfl,rfl,hS⟩ ?_
   clear hS h0 h1 h5 h7 h9 h10;rintro⟨k,c,Z⟩ ρ w3 ⟨hk,hc,hZ,hinv,h0,h5,h7,h14,h130,h131,h132,hS⟩;simp only at hk hc hZ hinv h0 h5 h7 h14 h130 h131 h132 hS;refine V1 ?_;by_cases hlt:k<n
   ·refine V1 ?_;have x1:=dk Z k;have d1:=dk D k;have hgX:=hgU Z k hk;refine J1 ?_;refine jp (bn (i:=k) h130 h132 oO dO ce (jq (fz (k:=1) (i:=k) rfl bG hS rfl oO dO ?_)));refine V2 ?_;rw[hgD k hlt];refine J4 ?_;refine jp (bn (i:=k) rfl rfl oO dO ce (jq (fz (k:=0) (i:=o+(k)) rfl bG hS rfl oO dO ?_)));refine J2 ?_;refine jh (ah Tryz.call117 rfl (CC _ _ _ _ (by rw[hgX];omega) oO oO) ?_);rintro v w4 ⟨rfl,rfl⟩;refine J3 ?_;refine jp (bn (i:=k) rfl rfl oO dO ce (jh (hJ (k:=0) (i:=o+(k)) (a:=_) rfl rfl rfl bG hS rfl oO dO ?_)));intro wz7 hS;refine V1 ?_;obtain⟨t,ht⟩:=jz (bO ap Z k+bO ap D k+c);obtain⟨Z',e1,e2,e3⟩:=ib (b:=ap) (lo:=lo) (X:=Z) (o:=o) (k:=k) (d:=t%ap) (n:=m1) dD hlo (Nat.mod_lt _ dD) oO;rw[hgX,<-ht]at hS;rw[List.set_cons_zero,e1]at hS;refine V2 ?_;refine⟨(k+1,t/ap,Z'),_,rfl,⟨hlt,by simp only[hB];omega,e3 _ oO hZ,?_,h0,h5,h7,vi rfl (by rw[hgX,<-ht]),h130,h131,vi rfl (by simp),hS⟩,by simp only;omega⟩;simp only;have f2:ap^(k+1)*(t/ap)=ap^k*(ap*(t/ap)):=by rw[Nat.pow_succ,Nat.mul_assoc]
    have f4:ap^k*(t%ap)+ap^k*(ap*(t/ap))=ap^k*bO ap Z k+ap^k*bO ap D k+ap^k*c:=by
     rw[<-Nat.mul_add,Nat.mod_add_div,ht,Nat.mul_add,Nat.mul_add]
    rw[mod_pow_succ,f2];omega
   ·refine J1 ?_;refine jt ?_;obtain rfl:k=n:=oO;rw[Nat.mod_eq_of_lt hD]at hinv;exact⟨_,rfl,c,Z,hc,hZ,hinv,h0,h5,h7,h14,hS⟩
  clear hS h0 h1 h5 h7 h9 h10;rintro ρ w4 ⟨c,Z,hc,hZ,hinv,h0,h5,h7,h14,hS⟩;refine ja ?_;have x1:=dk Z n;have hgX:=hgU Z n (Nat.le_refl _);refine J2 ?_;refine jp (bn (i:=n) rfl rfl oO dO ce (jq (fz (k:=0) (i:=o+(n)) rfl bG hS rfl oO dO ?_)));refine J1 ?_;refine jp (ia rfl rfl (r:=(((bO ap Z n+c)%4294967296:Nat):Int)) (by rw[hgX,me];omega) (jp (bn (i:=n) rfl rfl oO dO ce (jh (hJ (k:=0) (i:=o+(n)) (a:=_) rfl rfl rfl bG hS rfl oO dO ?_)))));intro wz8 hS;refine ja ?_;obtain⟨V,e1,e2,e3⟩:=ib (b:=ap) (lo:=lo) (X:=Z) (o:=o) (k:=n) (d:=(bO ap Z n+c)%4294967296) (n:=m1) dD hlo (Nat.mod_lt _ dD) oO;rw[List.set_cons_zero,e1]at hS;have hV:V=U%D:=by
   have hR:U%D<ap^n:=Nat.lt_trans (Nat.mod_lt _ hDpos) hD;have hpos:0<ap^n:=Nat.pow_pos dD;have htop:bO ap Z n=Z/ap^n:=j4 dD hZ;have hdz:=Nat.div_add_mod Z (ap^n);have hmz:=Nat.mod_lt Z hpos;have hsum:Z%ap^n+ap^n*(Z/ap^n+c)=U%D+ap^n*4294967296:=by
    have:ap^(n+1)=ap^n*4294967296:=Nat.pow_succ ..;rw[Nat.mul_add];omega
   have hy:Z/ap^n+c=4294967296:=by
    have h1:(Z%ap^n+ap^n*(Z/ap^n+c))/ap^n=(U%D+ap^n*4294967296)/ap^n:=by rw[hsum]
    rwa[Nat.add_mul_div_left _ _ hpos,Nat.add_mul_div_left _ _ hpos,Nat.div_eq_of_lt hmz,Nat.div_eq_of_lt hR,Nat.zero_add,Nat.zero_add]at h1
   rw[htop,hy]at e2;rw[hy]at hsum;simp only[Nat.mod_self,Nat.mul_zero,Nat.add_zero]at e2;omega
  rw[hV]at hS;refine J1 ?_;refine jp (k9 rfl rfl (r:=((U/D:Nat):Int)) (by rw[hgq];exact bV _ ⟨by push_cast;omega,Int.natCast_nonneg _,by generalize U/D=z at hq⊢;omega⟩) (jp (bF rfl Tryz.underlying141 ⟨_,Tryz.underlying99⟩ (r:=((U/D:Nat):Int)) (by exact ic _ ⟨rfl,Int.natCast_nonneg _,by generalize U/D=z at hq⊢;omega⟩) ?_)));refine J1 ?_;refine jt ?_;refine bj rfl rfl ?_;exact⟨rfl,hS⟩
section
variable {P : Program} {N : Nat} {ρ : Nat → Value} {ops : Array Oper}
  {d : Option Tmp} {ty : TypeId} {pos : String} {aft : Array Edge} {g : Option (Nat × Bool)} {x y z : Operand} {t e : TypeId} {b o : Nat} {K : Value → Prop}
theorem Ov {size by_ n cap o' n' c':Nat} {zz:List Value} {lo hi:Nat} {kl kh:IntKind} {ml mh:Int} (hx:ev N ρ x= .slice (some ⟨b,o,none⟩) n cap) (hl:ev N ρ y= .int kl ml) (hh:ev N ρ z= .int kh mh)
  (hml:ml=(lo:Int)) (hmh:mh=(hi:Int)) (h1:lo<=hi) (h2:hi<=cap) (h3:lo<cap) (e1:o+lo*size=o') (e2:hi-lo=n') (e3:cap-lo=c') (ht:sinfo P t=some (e,size,by_,zz)) (h:K (.slice (some ⟨b,o',none⟩) n' c')):
  dp P N ρ ⟨d,.slice t x (some y) (some z) none,ty,pos,aft,g⟩ K:=by
 subst e1 e2 e3;exact OC hx hl hh hml hmh h1 h2 h3 ht h
end
theorem IF (b v:Nat) {n m:Nat} (h:n<=m):(pad b v m).take n=pad b v n:=by
 unfold pad;rw[<-List.map_take,List.take_range,Nat.min_eq_left h]
theorem rj {Y:Nat} (h:0<Y):0<(bH Y).length/\0<bO ap Y ((bH Y).length-1):=by
 have hl:0<(bH Y).length:=by
  rcases Nat.eq_zero_or_pos (bH Y).length with h0|h0
  ·have:=(uu (b:=ap) (n:=Y) dD).1 (List.eq_nil_of_length_eq_zero h0);omega
  ·exact h0
 refine⟨hl,?_⟩;have h1:=cW Y;have h2:ap^((bH Y).length-1)<=Y:=ks dD (by show _<(bH Y).length;omega);rw[j4 dD (by rw[Nat.sub_add_cancel hl];exact h1)];exact Nat.div_pos h2 (Nat.pow_pos dD)
theorem BG {Y n c:Nat} (hn:0<n) (hY:Y<ap^n) (hc:c<32) (h1:bO ap Y (n-1)*2^c<ap) (h2:ap<=2*(bO ap Y (n-1)*2^c)):
  Y*2^c<ap^n/\ap^n<=2*(Y*2^c):=by
 obtain⟨x,hx⟩:=jz (bO ap Y (n-1));have hxt:x=Y/ap^(n-1):=by rw[hx];exact j4 dD (by rw[Nat.sub_add_cancel hn];exact hY)
 rw[<-hx]at h1 h2;have hp:0<ap^(n-1):=Nat.pow_pos dD;have hB:ap^n=ap^(n-1)*ap:=by rw[<-Nat.pow_succ];congr 1;omega
 have e1:=Nat.div_add_mod Y (ap^(n-1));have e2:=Nat.mod_lt Y hp;rw[<-hxt]at e1;have h3:(x+1)*2^c<=ap:=by
  have hb:ap=2^(32-c)*2^c:=by rw[<-Nat.pow_add,Nat.sub_add_cancel oO]
  rw[hb]at h1⊢;exact Nat.mul_le_mul_right _ (Nat.lt_of_mul_lt_mul_right h1)
 have hpc:0<2^c:=Nat.pow_pos dD;constructor
 ·rw[hB];have a1:Y<ap^(n-1)*(x+1):=by rw[Nat.mul_add];omega
  have a2:Y*2^c<ap^(n-1)*(x+1)*2^c:=Nat.mul_lt_mul_of_pos_right a1 hpc;have a3:ap^(n-1)*((x+1)*2^c)<=ap^(n-1)*ap:=Nat.mul_le_mul_left _ h3;rw[<-Nat.mul_assoc]at a3;omega
 ·rw[hB];have a1:ap^(n-1)*x<=Y:=by rw[hxt];exact Nat.mul_div_le _ _
  have a2:ap^(n-1)*x*2^c<=Y*2^c:=Nat.mul_le_mul_right _ a1;have a3:ap^(n-1)*ap<=ap^(n-1)*(2*(x*2^c)):=Nat.mul_le_mul_left _ h2;have a4:ap^(n-1)*(2*(x*2^c))=2*(ap^(n-1)*x*2^c):=by rw[Nat.mul_left_comm,Nat.mul_assoc]
  omega
theorem qw {X Y Q V s : Nat} (hs : 0 < s) (h : X * s = Q * (Y * s) + V) (hV : V < Y * s) : X / Y = Q ∧ V = X % Y * s ∧ V / s = X % Y := by
  have hY : 0 < Y := by rcases Nat.eq_zero_or_pos Y with h0 | h0; · rw [h0] at hV; omega
                        · exact h0
  have h1 : X * s / (Y * s) = Q := by
    rw [h, Nat.add_comm, Nat.add_mul_div_right _ _ (Nat.mul_pos hY hs), Nat.div_eq_of_lt hV, Nat.zero_add]
  have h2 : X * s % (Y * s) = V := by
    rw [h, Nat.mul_add_mod_self_right, Nat.mod_eq_of_lt hV]
  rw [Nat.mul_div_mul_right _ _ hs] at h1
  rw [Nat.mul_mod_mul_right] at h2
  refine ⟨h1, h2.symm, ?_⟩
  rw [← h2, Nat.mul_div_cancel _ hs]
theorem yy (vx vy:Value) (X Y:Nat) (w:World) (hx:Sl (uk .u32) 1 w vx (bH X)) (hy:Sl (uk .u32) 1 w vy (bH Y)) (hY0:0<Y) (hmx:(bH X).length<=4398046511104) (hmy:(bH Y).length<=4398046511104):
  dj Tryz.prog 111 #[vx,vy] w λr w'=>(∃q s,r= .tuple #[q,s]/\Sl (uk .u32) 1 w' q (bH (X/Y))/\Sl (uk .u32) 1 w' s (bH (X%Y)))/\Below w.heap.size w w':=by
 have hB:ap=4294967296:=rfl;have hS:=St.init w;obtain⟨m,hm⟩:=jz ((bH X).length);obtain⟨n,hn⟩:=jz ((bH Y).length);have hXm:X<ap^m:=hm▸cW X;have hYn:Y<ap^n:=hn▸cW Y;obtain⟨M,hM⟩:=jz (m-n+1);obtain⟨hn0,htp⟩:=rj hY0;rw[<-hn]at hn0 htp;have htl:=dk Y (n-1);refine enter Tryz.func111 rfl Tryz.ntmps111 rfl ?_;refine J4 ?_;refine jh (ah Tryz.call118 rfl (xW _ _ _ _ _ (hx.ab hS.ab) (hy.ab hS.ab)) ?_);rintro r w1 ⟨rfl,hB1⟩;replace hS:=hS.aG hB1;refine V1 ?_;by_cases hlt:X<Y
 ·refine bZ rfl (decide_eq_true (by rw[ni hlt];decide)) ?_;refine jr ?_;refine jp (aI rfl (jp (f9 rfl (jp (f9 rfl ?_)))));refine jt ?_;refine j6 rfl rfl rfl ?_;refine⟨⟨_,_,rfl,?_,?_⟩,hS.ab⟩
  ·rw[Nat.div_eq_of_lt hlt,bH,fq];exact Sl.nil _ _ _
  ·rw[Nat.mod_eq_of_lt hlt];exact hx.ab hS.ab
 ·have hge:Y<=X:=Nat.le_of_not_lt hlt;have hnm:n<=m:=by rw[hn,hm];exact ft dD hge
  have hcmp:¬lx X Y<0:=by
   rcases Nat.lt_or_ge Y X with h|h
   ·rw[mZ h];decide
   ·rw[show X=Y by omega,pW];decide
  refine ct rfl (decide_eq_false hcmp) ?_;refine J1 ?_;refine jp (aF rfl (hy.ab hS.ab) ⟨_,Tryz.underlying139⟩ ?_);refine V1 ?_;by_cases h1:n=1
  ·refine V1 ?_;have hg:(bH Y).getD 0 0=Y:=by
    rw[dt,bO,Nat.pow_zero,Nat.div_one];rw[h1,Nat.pow_one]at hYn;exact Nat.mod_eq_of_lt hYn
   have hYl:Y<=4294967295:=by rw[h1,Nat.pow_one]at hYn;omega
   refine J2 ?_;refine jp (aH (i:=0) rfl rfl (hy.ab hS.ab) oO dO ce (jq (aO (i:=0) 0 rfl bG (hy.ab hS.ab) dO rfl rfl (.inr rfl) ?_)));rw[hg];refine jh (ah Tryz.call153 rfl (xg _ _ _ _ (hx.ab hS.ab) hY0 hYl oO) ?_);rintro r w2 ⟨⟨q,rfl,hq⟩,hB2⟩;replace hS:=hS.aG hB2;refine V5 ?_;have hml:X%Y<=4294967295:=by have:=Nat.mod_lt X hY0;omega
   have hq0:Sl (uk .u32) 1 w2 q (bH (X/Y)):=hq;refine J2 ?_;refine jh (dI (vs:=[_]) rfl ce rfl dD dD dD (by simp[Value.cells]) rfl hS ?_);intro b1 wz2 hS hBz2;have hq1:=hq0.ab hBz2;have hsl:=St.C9 (L:=[X%Y]) hS (k:=0) rfl (n:=1) (cap:=1) (by simp) oO oO;refine jh (ah Tryz.call112 rfl (qb _ _ _ hsl (by intro d hd;rw[List.take_of_length_le (by simp)]at hd;rw[List.mem_singleton.1 hd];omega)) ?_);rintro v w4 ⟨hv,rfl⟩;refine J2 ?_;refine jt ?_;refine j6 rfl rfl rfl ?_;refine⟨⟨_,_,rfl,hq1,?_⟩,hS.ab⟩;have e:cF ap ([X%Y].take 1)=X%Y:=by simp[cF]
   rwa[e]at hv
  ·refine V1 ?_;have hgt:(bH Y).getD (n-1) 0=bO ap Y (n-1):=dt Y (n-1);refine J2 ?_;refine jp (aF rfl (hy.ab hS.ab) ⟨_,Tryz.underlying139⟩ ?_);refine J1 ?_;refine jp (aH (i:=n-1) rfl rfl (hy.ab hS.ab) oO dO ce (jq (aO (i:=n-1) 0 rfl bG (hy.ab hS.ab) dO rfl rfl (.inr rfl) ?_)));rw[hgt];refine jh (ah Tryz.call154 rfl (sI _ _ htp oO) ?_);rintro r w2 ⟨⟨c,hc,hc1,hc2,rfl⟩,rfl⟩;obtain⟨hD,hD2⟩:=BG hn0 hYn hc hc1 hc2;have hpc:0<2^c:=Nat.pow_pos dD;have hpc2:2^c<=2^31:=Nat.pow_le_pow_right dD oO;obtain⟨D,hDe⟩:=jz (Y*2^c);rw[<-hDe]at hD hD2;have hD0:0<D:=by rw[hDe];exact Nat.mul_pos hY0 hpc
   have hUm:X*2^c<ap^(m+1):=by
    have h3:X*2^c<ap^m*2^c:=Nat.mul_lt_mul_of_pos_right hXm hpc;have h4:ap^m*2^c<=ap^m*ap:=Nat.mul_le_mul_left _ oO;rw[Nat.pow_succ];omega
   have hUD:X*2^c<D*ap^(m-n+1):=by
    have h3:X*2^c<ap^m*2^c:=Nat.mul_lt_mul_of_pos_right hXm hpc;have h4:ap^m*2^c<=ap^m*2^31:=Nat.mul_le_mul_left _ hpc2;have h5:ap^n*ap^(m-n+1)=ap^m*ap:=by rw[<-Nat.pow_add,<-Nat.pow_succ];congr 1;omega
    have h6:ap^n*ap^(m-n+1)<=2*D*ap^(m-n+1):=Nat.mul_le_mul_right _ hD2;rw[Nat.mul_assoc]at h6;have h7:ap^m*ap=ap^m*4294967296:=rfl;omega
   refine J3 ?_;refine jp (aF rfl (hy.ab hS.ab) ⟨_,Tryz.underlying139⟩ ?_);refine J4 ?_;refine jh (ah Tryz.call155 rfl (BW _ _ _ _ _ (hy.ab hS.ab) hc (Nat.le_refl _) (by rw[<-hn,<-hDe];exact hD) oO) ?_);rintro r w3 ⟨⟨bd,rfl,hbd1,hbd2⟩,hB3⟩;replace hS:=hS.push hB3 hbd1 hbd2;refine J4 ?_;refine jp (aF rfl (hx.ab hS.ab) ⟨_,Tryz.underlying139⟩ ?_);refine J1 ?_;have hs2:=BW vx X c (m+1) w3 (hx.ab hS.ab) hc oO hUm oO;refine jh (ah Tryz.call155 rfl ((by rw[hm]at hs2;exact hs2)) ?_);rintro r w4 ⟨⟨bu,rfl,hbu1,hbu2⟩,hB4⟩;replace hS:=hS.push hB4 hbu1 hbu2;rw[<-hm,<-hn,<-hDe]at hS;refine J2 ?_;refine jp (aF rfl (hx.ab hS.ab) ⟨_,Tryz.underlying139⟩ ?_);refine J3 ?_;refine jh (iI (n:=M) rfl rfl ce oO oO oO oO hS ?_);intro b3 wz4 hS hBz4;refine V1 ?_;replace hS:=hS.perm (H':=[(bu,141,Kr .u32 (pad ap (X*2^c) (m+1))),(bd,141,Kr .u32 (pad ap D n)),(b3,141,Kr .u32 (pad ap (ap^M*0) M))])
    (by rw[Nat.mul_zero,gD];exact(List.Perm.swap _ _ _).trans ((List.Perm.swap _ _ _).cons _))
   refine V4 ?_;refine aQ (σ:=Nat×Nat×Nat) (λs ρ w'=>s.1<=M/\X*2^c=s.2.1*D*ap^s.1+s.2.2/\s.2.2<D*ap^s.1/\ρ 8= .int .u64 c/\ρ 9=iB n/\ρ 10= .slice (some ⟨bd,0,none⟩) n n/\ρ 11= .slice (some ⟨bu,0,none⟩) (m+1) (m+1)/\ρ 12= .slice (some ⟨b3,0,none⟩) M M/\ρ 13=iB ((s.1:Int)-1)/\
     St w w' [(bu,141,Kr .u32 (pad ap s.2.2 (m+1))),(bd,141,Kr .u32 (pad ap D n)),(b3,141,Kr .u32 (pad ap (ap^s.1*s.2.1) M))]) (λs=>s.1) (M,0,X*2^c)
    ⟨Nat.le_refl _,by simp,by simp only;rw[hM];exact hUD,vi rfl oO,vi rfl (by rw[hn]),by rw[hn];rfl,by rw[hm];rfl,rfl,vi rfl oO,hS⟩ ?_
   clear hS;rintro⟨k,Q,V⟩ ρ w6 ⟨hk,hinv,hV,h8,h9,h10,h11,h12,h13,hS⟩;simp only at hk hinv hV h8 h9 h10 h11 h12 h13 hS;refine V2 ?_;by_cases hk0:0<k
   ·refine V1 ?_;have hpk:0<ap^(k-1):=Nat.pow_pos dD;have hkk:ap^k=ap^(k-1)*ap:=by rw[<-Nat.pow_succ];congr 1;omega
    have hVs:V%ap^(k-1)+ap^(k-1)*(V/ap^(k-1))=V:=Nat.mod_add_div _ _;have hU:V/ap^(k-1)<D*ap:=by
     refine Nat.div_lt_of_lt_mul ?_;rw[hkk]at hV;rw[Nat.mul_left_comm];exact hV
    have hlo:V%ap^(k-1)<ap^(k-1):=Nat.mod_lt _ hpk;obtain⟨lo,hloe⟩:=jz (V%ap^(k-1));obtain⟨U,hUe⟩:=jz (V/ap^(k-1));rw[<-hloe,<-hUe]at hVs;rw[<-hUe]at hU;rw[<-hloe]at hlo;have hq0:U/D<ap:=Nat.div_lt_of_lt_mul hU;have hQ:ap^k*Q<ap^M:=by
     rcases Nat.lt_or_ge (ap^k*Q) (ap^M)with h|h
     ·exact h
     ·exfalso;have h3:D*ap^M<=D*(ap^k*Q):=Nat.mul_le_mul_left _ h;have h4:D*(ap^k*Q)=Q*D*ap^k:=by ac_rfl
      rw[<-hM]at hUD;omega
    obtain⟨e1,e2⟩:=ng (b:=ap) (q:=Q) (i:=k) (e:=U/D) (n:=M) dD hq0 hk0 hk hQ;rw[<-hVs]at hS;refine J8 ?_;refine jp (Ov (lo:=k-1) (hi:=k-1+n+1) (o':=k-1) (n':=n+1) (c':=m+1-(k-1)) rfl rfl rfl oO oO oO oO oO oO oO rfl ce ?_);refine J1 ?_;refine jh (ah Tryz.call156 rfl (MI w w6 [(b3,141,Kr .u32 (pad ap (ap^k*Q) M))] bu bd (k-1) (m+1-(k-1)) n (m+1) lo U D hS hlo oO hD hD2 hU oO oO) ?_);rintro r w7 ⟨rfl,hS⟩;have hq1:U/D<=4294967295:=oO;refine jp (bn (i:=k-1) rfl rfl oO dO ce (jh (hJ (k:=2) (i:=k-1) (a:=(U/D)) rfl rfl rfl bG hS rfl oO dO ?_)));intro wz5 hS;refine ja ?_;rw[show∀(a b c d:bQ),[a,b,c].set 2 d=[a,b,d]from λ_ _ _ _=>rfl,e1]at hS;refine V3 ?_;refine⟨(k-1,ap*Q+U/D,lo+ap^(k-1)*(U%D)),_,rfl,⟨by simp only;omega,?_,?_,h8,h9,h10,h11,h12,vi rfl (by simp only;omega),hS⟩,by simp only;omega⟩
    ·simp only;have g1:=Nat.div_add_mod U D;have g2:ap^(k-1)*U=ap^(k-1)*(D*(U/D))+ap^(k-1)*(U%D):=by rw[<-Nat.mul_add,g1]
     have g3:(ap*Q+U/D)*D*ap^(k-1)=Q*D*ap^k+ap^(k-1)*(D*(U/D)):=by
      rw[hkk,Nat.add_mul,Nat.add_mul];congr 1<;>ac_rfl
     rw[g3,hinv,<-hVs,g2];omega
    ·simp only;have g1:U%D+1<=D:=Nat.mod_lt _ hD0;have g2:ap^(k-1)*(U%D+1)<=ap^(k-1)*D:=Nat.mul_le_mul_left _ g1;rw[Nat.mul_comm D,Nat.mul_add]at*;omega
   ·refine J1 ?_;refine jt ?_;obtain rfl:k=0:=oO;rw[Nat.pow_zero,Nat.mul_one]at hinv hV;rw[Nat.pow_zero,Nat.one_mul]at hS;rw[hDe]at hinv hV;obtain⟨f1,f2,f3⟩:=qw hpc hinv hV;rw[<-hDe]at hinv hV;have hQM:Q<ap^M:=by
     rcases Nat.lt_or_ge Q (ap^M)with h|h
     ·exact h
     ·exfalso;have h3:D*ap^M<=D*Q:=Nat.mul_le_mul_left _ h;rw[Nat.mul_comm D Q]at h3;rw[<-hM]at hUD;omega
    refine ja ?_;refine bk [jo 0,jo 2,jo 3,jo 4,jo 5,jv 1,jv 6,jo 7,jo 8] kR kR hS ?_;intro wz6 hS hBz6;refine J3 ?_;refine jl rfl (zA (hi:=n) rfl rfl rfl oO ce ?_);refine J1 ?_;have hslq:=hS.C9 (k:=2) rfl (n:=M) (cap:=M) (by simp) (Nat.le_refl _) oO;rw[List.take_of_length_le (by simp)]at hslq;refine jn rfl (ah Tryz.call112 rfl (qb _ _ _ hslq (lE dD _ _)) ?_);rintro q w8 ⟨hq,rfl⟩;refine⟨(Below.refl _ _),?_⟩;have hslu:=hS.C9 (k:=0) rfl (n:=n) (cap:=m+1) (by simp;omega) oO oO;rw[IF _ _ oO]at hslu;refine jn rfl (ah Tryz.call157 rfl (Dg _ V c n _ hslu hc oO oO) ?_);rintro s w9 ⟨hs,hB9⟩;refine⟨hB9,?_⟩;refine J2 ?_;refine jt ?_;refine j6 rfl rfl rfl ?_;rw[ef hQM,<-f1]at hq;rw[f3]at hs;exact⟨⟨_,_,rfl,hq.ab hB9,hs⟩,hS.ab.trans (hB9.mono hS.ab.size)⟩
theorem gL {m n:Nat} (h:m<=n):(bH m).length<=(bH n).length:=ft dD h
theorem j1 {n:Nat}:(bH n).length=0↔n=0:=by
 rw[List.length_eq_zero_iff];exact uu dD
theorem Hh (a b:ByteArray) (w:World) (ha:a.size<=4398046511104) (hb:b.size<=4398046511104) (h0:val b≠0):
  dj Tryz.prog 68 #[.string a,.string b] w λr w'=>r= .tuple #[.string (bB (val a/val b)),.string (bB (val a%val b)),.bool true]/\Below w.heap.size w w':=by
 have hla:=en a;have hlb:=en b;have hne:(bH (val b)).length≠0:=λh=>h0 (j1.1 h);have hS:=St.init w;refine enter Tryz.func68 rfl Tryz.ntmps68 rfl ?_;refine J4 ?_;refine jh (ah Tryz.call69 rfl (ji _ _ oO) ?_);rintro vy w1 ⟨hy,hB1⟩;replace hS:=hS.aG hB1;refine J2 ?_;refine jp (aF rfl hy ⟨_,Tryz.underlying139⟩ ?_);refine J3 ?_;refine jh (ah Tryz.call69 rfl (ji _ _ oO) ?_);rintro vx w2 ⟨hx,hB2⟩;replace hS:=hS.aG hB2;refine J1 ?_;refine jh (ah Tryz.call111 rfl (yy _ _ _ _ _ hx (hy.ab hB2) oO oO oO) ?_);rintro r w3 ⟨⟨q,s,rfl,hq,hs⟩,hB3⟩;replace hS:=hS.aG hB3;refine V5 ?_;have hlq:=gL (Nat.div_le_self (val a) (val b));have hls:=gL (Nat.mod_le (val a) (val b));refine J1 ?_;refine jh (ah Tryz.call70 rfl (oA _ _ _ hq (pI _) oO) ?_);rintro r w4 ⟨rfl,hB4⟩;replace hS:=hS.aG hB4;refine J1 ?_;refine jh (ah Tryz.call70 rfl (oA _ _ _ (hs.ab hB4) (pI _) oO) ?_);rintro r w5 ⟨rfl,hB5⟩;replace hS:=hS.aG hB5;refine J3 ?_;refine jt ?_;refine Ay rfl rfl rfl rfl ?_;refine⟨?_,hS.ab⟩;rw[jR,jR];rfl
theorem HU (a b:ByteArray) (w:World) (ha:a.size<=4398046511104) (hb:b.size<=4398046511104):
  dj Tryz.prog 67 #[.string a,.string b] w λr w'=>r= .string (bB (Nat.gcd (val a) (val b)))/\Below w.heap.size w w':=by
 have hla:=en a;have hlb:=en b;have hS:=St.init w;refine enter Tryz.func67 rfl Tryz.ntmps67 rfl ?_;refine J2 ?_;refine jh (ah Tryz.call69 rfl (ji _ _ oO) ?_);rintro vx w1 ⟨hx,hB1⟩;replace hS:=hS.aG hB1;refine J1 ?_;refine jh (ah Tryz.call69 rfl (ji _ _ oO) ?_);rintro vy w2 ⟨hy,hB2⟩;replace hS:=hS.aG hB2;refine V2 ?_;refine aQ (σ:=Nat×Nat) (λs ρ w'=>Nat.gcd s.1 s.2=Nat.gcd (val a) (val b)/\(bH s.1).length<=4398046511104/\(bH s.2).length<=4398046511104/\(∃vx vy,ρ 5=vx/\ρ 6=vy/\Sl (uk .u32) 1 w' vx (bH s.1)/\Sl (uk .u32) 1 w' vy (bH s.2))/\St w w' []) (λs=>s.2) (val a,val b)
  ⟨rfl,by simp only;omega,by simp only;omega,⟨_,_,rfl,rfl,hx.ab hB2,hy⟩,hS⟩ ?_
 clear hS hx hy;rintro⟨X,Y⟩ ρ w3 ⟨hg,hX,hY,⟨vx,vy,h5,h6,hx,hy⟩,hS⟩;simp only at hg hX hY hx hy;refine J1 ?_;refine jp (aF rfl hy ⟨_,Tryz.underlying139⟩ ?_);refine V1 ?_;have hyn:(bH Y).length=0↔Y=0:=j1;by_cases hY0:Y=0
 ·refine J2 ?_;refine jh (ah Tryz.call70 rfl (oA _ _ _ hx (pI _) oO) ?_);rintro r w4 ⟨rfl,hB4⟩;refine J1 ?_;refine jt ?_;refine bj rfl rfl ?_;rw[jR];rw[hY0,Nat.gcd_zero_right]at hg;rw[hg];exact⟨rfl,hS.ab.trans (hB4.mono hS.ab.size)⟩
 ·refine V1 ?_;have hlt:X%Y<Y:=Nat.mod_lt _ oO;have hls:=gL (Nat.le_of_lt hlt);refine J2 ?_;refine jh (ah Tryz.call111 rfl (yy _ _ _ _ _ hx hy oO oO oO) ?_);rintro r w4 ⟨⟨q,s,rfl,hq,hs⟩,hB4⟩;refine V9 ?_;refine⟨(Y,X%Y),_,rfl,⟨?_,hY,by simp only;omega,⟨vy,s,rfl,rfl,hy.ab hB4,hs⟩,hS.aG hB4⟩,hlt⟩;simp only;rw[<-hg,Nat.gcd_comm Y,<-Nat.gcd_rec,Nat.gcd_comm]
abbrev MX:Nat:=1099511627776
theorem Nb (m n:Nat) (w:World) (hm:(bB m).size<=4398046511104) (hn:(bB n).size<=4398046511104):
  dj Tryz.prog 67 #[.string (bB m),.string (bB n)] w λr w'=>r= .string (bB (Nat.gcd m n))/\Below w.heap.size w w':=by
 have h:=HU (bB m) (bB n) w hm hn;rwa[bX,bX]at h
theorem BP (m n:Nat) (w:World) (hm:(bB m).size<=4398046511104) (hn:(bB n).size<=4398046511104) (h0:n≠0):
  dj Tryz.prog 68 #[.string (bB m),.string (bB n)] w λr w'=>r= .tuple #[.string (bB (m/n)),.string (bB (m%n)),.bool true]/\Below w.heap.size w w':=by
 have h:=Hh (bB m) (bB n) w hm hn (by rwa[bX]);rwa[bX,bX]at h
theorem oG (m n:Nat) (w:World) (hm:(bB m).size<=4398046511104) (hn:(bB n).size<=4398046511104):
  dj Tryz.prog 30 #[.string (bB m),.string (bB n)] w λr w'=>r= .string (bB (m*n))/\Below w.heap.size w w':=by
 have h:=Cn (bB m) (bB n) w hm hn;rwa[bX,bX]at h
theorem Nt (m n:Nat) (w:World) (hm:(bB m).size<=4398046511104) (hn:(bB n).size<=4398046511104):
  dj Tryz.prog 74 #[.string (bB m),.string (bB n)] w λr w'=>r= .string (bB (m+n))/\Below w.heap.size w w':=by
 have h:=OH (bB m) (bB n) w hm hn;rwa[bX,bX]at h
theorem Qt (m n:Nat) (w:World) (hm:(bB m).size<=4398046511104) (hn:(bB n).size<=4398046511104):
  dj Tryz.prog 90 #[.string (bB m),.string (bB n)] w λr w'=>r= .int .i64 (lx m n)/\w'=w:=by
 have h:=Dv (bB m) (bB n) w oO oO;rwa[bX,bX]at h
theorem F7 (m n:Nat) (w:World) (hm:(bB m).size<=4398046511104) (hn:(bB n).size<=4398046511104) (hle:n<=m):
  dj Tryz.prog 75 #[.string (bB m),.string (bB n)] w λr w'=>r= .tuple #[.string (bB (m-n)),.bool true]/\Below w.heap.size w w':=by
 have h:=tX (bB m) (bB n) w hm hn;rw[bX,bX]at h;exact h.mono λ_ _ g=>by rwa[if_pos hle]at g
theorem Cg (m n:Nat) (w:World) (hm:(bB m).size<=4398046511104) (hn:(bB n).size<=4398046511104) (hlt:m<n):
  dj Tryz.prog 75 #[.string (bB m),.string (bB n)] w λr w'=>r= .tuple #[.string ⟨#[]⟩,.bool false]/\Below w.heap.size w w':=by
 have h:=tX (bB m) (bB n) w hm hn;rw[bX,bX]at h;exact h.mono λ_ _ g=>by rwa[if_neg (Nat.not_le_of_gt hlt)]at g
theorem Rp (s:ByteArray) {k:Nat} (h:s.size<=k):(bB (val s)).size<=k:=Nat.le_trans (i3 s) h
theorem xJ {n:Nat}:bB n=⟨#[1]⟩↔n=1:=by rw[<-oW];exact⟨λh=>xo h,λh=>by rw[h]⟩
theorem th {n:Nat} (h:n=1):bB n=⟨#[1]⟩:=xJ.2 h
theorem BY (r:RR) (w:World) (hr:Lr r<=MX):
  dj Tryz.prog 65 #[cw r] w λv w'=>v= .bool (decide (EK r))/\Below w.heap.size w w':=by
 have hM:MX=1099511627776:=rfl;have hn:=BA r;have hd:=CE r;have hV:=La r;have hS:=St.init w;refine enter Tryz.func65 rfl Tryz.ntmps65 rfl ?_;refine jr ?_;refine jh (bY (new:=ae r) rfl rfl hS ?_);intro b1 wz2 hS hBz2;refine V1 ?_;by_cases h1:bB (val r.num)=r.num
 ·by_cases h2:bB (val r.den)=r.den
  ·refine ja ?_;refine bk [jo 0,ju 1,jo 3,ju 4,jv 2,jo 5,jo 6,jo 7,ju 8,jo 10,ju 11,jv 9,jo 12,jo 13] kR kR hS ?_;intro wz3 hS hBz3;refine J4 ?_;refine jn rfl (ah Tryz.call66 rfl (eQ _ _ (show r.num.size<=_ by omega)) ?_);rintro _ wq4 ⟨rfl,hq4⟩;replace hq4:=hq4.symm;subst hq4;refine⟨Below.refl _ _,?_⟩;refine jl rfl (oM rfl rfl ?_);refine J1 ?_;refine bP rfl (ai 9 kR rfl (decide_eq_false (by exact not_not_intro h1))) (cx rfl kf (eY rfl (ai 9 kR rfl (decide_eq_false (by exact not_not_intro h1))) (bT (k:=0) rfl mO hS rfl rfl rfl (.inr rfl) (bP rfl (ai 9 kR rfl (decide_eq_false (by exact not_not_intro h1))) (cx rfl kf (eY rfl (ai 9 kR rfl (decide_eq_false (by exact not_not_intro h1))) (bT (k:=0) rfl mO hS rfl rfl rfl (.inr rfl) (tK rfl (ai 9 kR rfl (decide_eq_false (not_not_intro h1))) (ah Tryz.call66 rfl (eQ _ _ (show r.den.size<=_ by omega)) ?_)))))))));rintro _ wq5 ⟨rfl,hq5⟩;replace hq5:=hq5.symm;subst hq5;refine⟨Below.refl _ _,?_⟩;refine bP rfl (ai 9 kR rfl (decide_eq_false (by exact not_not_intro h1))) (oM rfl rfl (jl rfl (aZ (vb rfl (decide_eq_false (by exact not_not_intro h1))) rfl ?_)));refine ja ?_;refine ct rfl (decide_eq_false (not_not_intro h2)) ?_;refine J2 ?_;refine jp (lL rfl rfl ?_);refine ja ?_;by_cases h3:r.num=⟨#[]⟩
   ·refine bZ rfl (decide_eq_true h3) ?_;refine ja ?_;by_cases h4:r.neg=false
    ·refine J4 ?_;refine ax (ai 23 kR rfl (by show(!r.neg)=true;rw[h4];rfl)) (cx rfl kf (bW (ai 23 kR rfl (by show(!r.neg)=true;rw[h4];rfl)) (bT (k:=0) rfl mO hS rfl rfl rfl (.inr rfl) (ax (ai 23 kR rfl (by show(!r.neg)=true;rw[h4];rfl)) (lL rfl rfl (jp (aZ (vb rfl (by show(!r.neg)=true;rw[h4];rfl)) rfl ?_)))))));refine J1 ?_;refine jt ?_;refine bj rfl rfl ?_;refine⟨congrArg Value.bool ?_,hS.ab⟩;rw[decide_eq_decide,hV];exact⟨λh=>⟨h1,h2,λ_=>⟨h4,h⟩,λh=>absurd h3 h⟩,λh=>(h.2.2.1 h3).2⟩
    ·refine J4 ?_;refine bI (ak 23 kR rfl (by show(!r.neg)=false;rw[Bool.not_eq_false]at h4;rw[h4];rfl)) (bI (ak 23 kR rfl (by show(!r.neg)=false;rw[Bool.not_eq_false]at h4;rw[h4];rfl)) (bI (ak 23 kR rfl (by show(!r.neg)=false;rw[Bool.not_eq_false]at h4;rw[h4];rfl)) (jp (aZ (vb rfl (by show(!r.neg)=false;rw[Bool.not_eq_false]at h4;rw[h4];rfl)) rfl ?_))));refine J1 ?_;refine jt ?_;refine bj rfl rfl ?_;refine⟨congrArg Value.bool ?_,hS.ab⟩;symm;rw[decide_eq_false_iff_not,hV]
     exact λh=>h4 (h.2.2.1 h3).1
   ·refine ct rfl (decide_eq_false h3) ?_;refine ja ?_;by_cases h4:r.den=⟨#[]⟩
    ·refine J2 ?_;refine jp (lL rfl rfl ?_);refine J1 ?_;refine bI (ak 31 kR rfl (decide_eq_true h4)) (bI (ak 31 kR rfl (decide_eq_true h4)) (bI (ak 31 kR rfl (decide_eq_true h4)) (bI (ak 31 kR rfl (decide_eq_true h4)) (bI (jK 35 kR rfl) (bI (jK 35 kR rfl) (bI (jK 35 kR rfl) (bI (jK 35 kR rfl) (bI (jK 35 kR rfl) (bI (jK 35 kR rfl) (bI (ak 31 kR rfl (decide_eq_true h4)) (jp (aZ (vb rfl (decide_eq_true h4)) rfl ?_))))))))))));refine J1 ?_;refine jt ?_;refine bj rfl rfl ?_;refine⟨congrArg Value.bool ?_,hS.ab⟩;symm;rw[decide_eq_true_iff,hV]
     exact⟨h1,h2,λh=>absurd h h3,λ_=> .inl h4⟩
    ·by_cases h5:r.den=⟨#[1]⟩
     ·refine J2 ?_;refine jp (lL rfl rfl ?_);refine J1 ?_;refine ax (ai 31 kR rfl (decide_eq_false h4)) (cx rfl kf (bW (ai 31 kR rfl (decide_eq_false h4)) (bT (k:=0) rfl mO hS rfl rfl rfl (.inr rfl) (ax (ai 31 kR rfl (decide_eq_false h4)) (oM rfl rfl (ax (ai 31 kR rfl (decide_eq_false h4)) (aI rfl (bI (ak 35 kR rfl (decide_eq_false (not_not_intro h5))) (bI (ak 35 kR rfl (decide_eq_false (not_not_intro h5))) (bI (ak 35 kR rfl (decide_eq_false (not_not_intro h5))) (bI (ak 35 kR rfl (decide_eq_false (not_not_intro h5))) (bI (ak 35 kR rfl (decide_eq_false (not_not_intro h5))) (bI (ak 35 kR rfl (decide_eq_false (not_not_intro h5))) (ax (ai 31 kR rfl (decide_eq_false h4)) (aZ (vb rfl (decide_eq_false (not_not_intro h5))) rfl (jp (aZ (vb rfl (decide_eq_false h4)) rfl ?_)))))))))))))))));refine J1 ?_;refine jt ?_;refine bj rfl rfl ?_;refine⟨congrArg Value.bool ?_,hS.ab⟩;symm;rw[decide_eq_false_iff_not,hV]
      exact λh=>(h.2.2.2 h3).elim h4 (λg=>g.1 h5)
     ·refine J2 ?_;refine jp (lL rfl rfl ?_);refine J1 ?_;refine ax (ai 31 kR rfl (decide_eq_false h4)) (cx rfl kf (bW (ai 31 kR rfl (decide_eq_false h4)) (bT (k:=0) rfl mO hS rfl rfl rfl (.inr rfl) (ax (ai 31 kR rfl (decide_eq_false h4)) (oM rfl rfl (ax (ai 31 kR rfl (decide_eq_false h4)) (aI rfl (ax (ai 35 kR rfl (decide_eq_true h5)) (cx rfl uX (bW (ai 35 kR rfl (decide_eq_true h5)) (bT (k:=0) rfl mO hS rfl rfl rfl (.inr rfl) (ax (ai 35 kR rfl (decide_eq_true h5)) (cx rfl kf (bW (ai 35 kR rfl (decide_eq_true h5)) (bT (k:=0) rfl mO hS rfl rfl rfl (.inr rfl) (fB (ai 35 kR rfl (decide_eq_true h5)) (ah Tryz.call67 rfl (HU _ _ _ (show r.num.size<=_ by omega) (show r.den.size<=_ by omega)) ?_)))))))))))))))));rintro _ wc6 ⟨rfl,hBc6⟩;replace hS:=hS.aG hBc6;refine ax (ai 35 kR rfl (decide_eq_true h5)) (lL rfl rfl (ax (ai 31 kR rfl (decide_eq_false h4)) (aZ (vb rfl (decide_eq_true h5)) rfl (jp (aZ (vb rfl (decide_eq_false h4)) rfl ?_)))));refine J1 ?_;refine jt ?_;refine bj rfl rfl ?_;refine⟨congrArg Value.bool ?_,hS.ab⟩;rw[decide_eq_decide,hV,xJ];exact⟨λh=>⟨h1,h2,λh=>absurd h h3,λ_=> .inr ⟨h5,h⟩⟩,λh=>(h.2.2.2 h3).elim (λg=>absurd g h4) (λg=>g.2)⟩
  ·refine ja ?_;refine bk [jo 0,ju 1,jo 3,ju 4,jv 2,jo 5,jo 6,jo 7,ju 8,jo 10,ju 11,jv 9,jo 12,jo 13] kR kR hS ?_;intro wz7 hS hBz7;refine J4 ?_;refine jn rfl (ah Tryz.call66 rfl (eQ _ _ (show r.num.size<=_ by omega)) ?_);rintro _ wq8 ⟨rfl,hq8⟩;replace hq8:=hq8.symm;subst hq8;refine⟨Below.refl _ _,?_⟩;refine jl rfl (oM rfl rfl ?_);refine J1 ?_;refine bP rfl (ai 9 kR rfl (decide_eq_false (by exact not_not_intro h1))) (cx rfl kf (eY rfl (ai 9 kR rfl (decide_eq_false (by exact not_not_intro h1))) (bT (k:=0) rfl mO hS rfl rfl rfl (.inr rfl) (bP rfl (ai 9 kR rfl (decide_eq_false (by exact not_not_intro h1))) (cx rfl kf (eY rfl (ai 9 kR rfl (decide_eq_false (by exact not_not_intro h1))) (bT (k:=0) rfl mO hS rfl rfl rfl (.inr rfl) (tK rfl (ai 9 kR rfl (decide_eq_false (not_not_intro h1))) (ah Tryz.call66 rfl (eQ _ _ (show r.den.size<=_ by omega)) ?_)))))))));rintro _ wq9 ⟨rfl,hq9⟩;replace hq9:=hq9.symm;subst hq9;refine⟨Below.refl _ _,?_⟩;refine bP rfl (ai 9 kR rfl (decide_eq_false (by exact not_not_intro h1))) (oM rfl rfl (jl rfl (aZ (vb rfl (decide_eq_false (by exact not_not_intro h1))) rfl ?_)));refine ja ?_;refine bZ rfl (decide_eq_true h2) ?_;refine J1 ?_;refine jt ?_;refine bj rfl rfl ?_;refine⟨congrArg Value.bool ?_,hS.ab⟩;symm;rw[decide_eq_false_iff_not,hV]
   exact λh=>h2 h.2.1
 ·refine ja ?_;refine bk [jo 0,ju 1,jo 3,ju 4,jv 2,jo 5,jo 6,jo 7,ju 8,jo 10,ju 11,jv 9,jo 12,jo 13] kR kR hS ?_;intro wz10 hS hBz10;refine J4 ?_;refine jn rfl (ah Tryz.call66 rfl (eQ _ _ (show r.num.size<=_ by omega)) ?_);rintro _ wq11 ⟨rfl,hq11⟩;replace hq11:=hq11.symm;subst hq11;refine⟨Below.refl _ _,?_⟩;refine jl rfl (oM rfl rfl ?_);refine J1 ?_;refine fD rfl (ak 9 kR rfl (decide_eq_true h1)) (fD rfl (ak 9 kR rfl (decide_eq_true h1)) (fD rfl (ak 9 kR rfl (decide_eq_true h1)) (fD rfl (ak 9 kR rfl (decide_eq_true h1)) (fD rfl (ak 9 kR rfl (decide_eq_true h1)) (fD rfl (ak 9 kR rfl (decide_eq_true h1)) (jl rfl (aZ (vb rfl (decide_eq_true h1)) rfl ?_)))))));refine ja ?_;refine bZ rfl (rfl) ?_;refine J1 ?_;refine jt ?_;refine bj rfl rfl ?_;refine⟨congrArg Value.bool ?_,hS.ab⟩;symm;rw[decide_eq_false_iff_not,hV]
  exact λh=>h1 h.1
theorem fF (r:RR) (w:World) (hr:Lr r<=MX):
  dj Tryz.prog 28 #[cw r] w λv w'=>v=cw (fx r)/\Below w.heap.size w w':=by
 have hS:=St.init w;refine enter Tryz.func28 rfl Tryz.ntmps28 rfl ?_;refine jr ?_;refine jh (bY (new:=ae r) rfl rfl hS ?_);intro b1 wz2 hS hBz2;refine J1 ?_;intro b3 wz4 hS hBz4;refine J1 ?_;refine jh (ah Tryz.call65 rfl (BY r _ hr) ?_);rintro _ wc5 ⟨rfl,hBc5⟩;replace hS:=hS.aG hBc5;refine V1 ?_;by_cases h:EK r
 ·refine ct rfl (by rw[decide_eq_true h];rfl) ?_;refine J2 ?_;intro wz6 hS;refine jt ?_;refine dx (k:=0) rfl rfl aB hS rfl rfl ?_;rw[O5 h];exact⟨rfl,hS.ab⟩
 ·refine bZ rfl (by rw[decide_eq_false h];rfl) ?_;refine jr ?_;refine jp (bR rfl ix ?_);refine J1 ?_;intro wz7 hS;refine jt ?_;refine dx (k:=0) rfl rfl aB hS rfl rfl ?_;rw[N2 h];exact⟨rfl,hS.ab⟩
theorem Lp (q:Rat):(aj q).den=if q.den=1 then⟨#[]⟩else bB q.den:=rfl
theorem O1 (q:Rat):(if(aj q).den=⟨#[]⟩then(⟨#[1]⟩:ByteArray)else(aj q).den)=bB q.den:=by
 rw[Lp];by_cases h:q.den=1
 ·simp only[h,if_true];exact oW.symm
 ·have h1:bB q.den≠⟨#[]⟩:=λh0=>q.den_nz (fR.1 h0);simp only[h,if_false,h1]
theorem mG (q:Rat) (w:World):
  dj Tryz.prog 31 #[cw (aj q)] w λv w'=>v= .string (bB q.den)/\Below w.heap.size w w':=by
 have hS:=St.init w;have hq:=O1 q;refine enter Tryz.func31 rfl Tryz.ntmps31 rfl ?_;refine jr ?_;refine jh (bY (new:=ae (aj q)) rfl rfl hS ?_);intro b1 wz2 hS hBz2;refine J3 ?_;refine jp (lL rfl rfl ?_);refine ja ?_;by_cases h:(aj q).den=⟨#[]⟩
 ·refine bZ rfl (decide_eq_true h) ?_;refine J1 ?_;refine jt ?_;refine bj rfl rfl ?_;rw[if_pos h]at hq;exact⟨congrArg Value.string hq,hS.ab⟩
 ·refine ct rfl (decide_eq_false h) ?_;refine J3 ?_;refine jt ?_;refine bj rfl rfl ?_;rw[if_neg h]at hq;exact⟨congrArg Value.string hq,hS.ab⟩
theorem Q8 {n m k:Nat} (h:m<=n) (hk:(bB n).size<=k):(bB m).size<=k:=Nat.le_trans (db h) hk
theorem GD (b:Bool) (s d:ByteArray):Tryz.prog.built 32 [(0,.bool b),(1,.string s),(2,.string d)]=some #[.bool b,.string s,.string d]:=by kernel_rfl
theorem kD (b:Bool) (num den:ByteArray) (w:World) (hn:num.size<=2*MX) (hd:den.size<=2*MX) (h0:val den≠0):
  dj Tryz.prog 29 #[.bool b,.string num,.string den] w λv w'=>v=cw (aj (mkRat (sg b (val num)) (val den)))/\Below w.heap.size w w':=by
 have hM:MX=1099511627776:=rfl;have h1:=Rp num hn;have h2:=Rp den hd;have hS:=St.init w;refine enter Tryz.func29 rfl Tryz.ntmps29 rfl ?_;refine J1 ?_;intro b1 wz2 hS hBz2;refine J1 ?_;refine jh (ah Tryz.call66 rfl (eQ _ _ (show num.size<=_ by omega)) ?_);rintro _ wq3 ⟨rfl,hq3⟩;replace hq3:=hq3.symm;subst hq3;refine J1 ?_;refine jh (ah Tryz.call66 rfl (eQ _ _ (show den.size<=_ by omega)) ?_);rintro _ wq4 ⟨rfl,hq4⟩;replace hq4:=hq4.symm;subst hq4;refine V2 ?_;obtain⟨n,hnn⟩:=jz (val num);obtain⟨d,hdd⟩:=jz (val den);rw[<-hnn,<-hdd];rw[<-hnn]at h1;rw[<-hdd]at h0 h2;refine J1 ?_;refine jp (lL rfl rfl ?_);refine ja ?_;by_cases hz:n=0
 ·refine bZ rfl (decide_eq_true (fR.2 hz)) ?_;refine jr ?_;refine jp (bR rfl ix ?_);refine J1 ?_;intro wz5 hS;refine jt ?_;refine dx (k:=0) rfl rfl aB hS rfl rfl ?_;refine⟨?_,hS.ab⟩;have:mkRat (sg b 0) d=0:=by cases b<;>simp[sg]
  rw[hz,this,gm];rfl
 ·refine ct rfl (decide_eq_false (λh=>hz (fR.1 h))) ?_;refine J1 ?_;refine jp (oM rfl rfl ?_);refine ja ?_;refine aW (λρ w'=>∃n' d':Nat,0<n'/\d'≠0/\Nat.gcd n' d'=1/\mkRat (sg b n) d=mkRat (sg b n') d'/\ρ 0= .bool b/\ρ 1= .string (bB n')/\ρ 2= .string (bB d')/\ρ 6=pB b1/\St w w' [(b1,32,ae ⟨false,⟨#[]⟩,⟨#[]⟩⟩)]) ?_ ?_
  ·refine ja ?_;by_cases hd1:d=1
   ·refine ct rfl (decide_eq_false (not_not_intro (th hd1))) ?_;refine ja ?_;exact⟨_,rfl,n,d,oO,h0,by rw[hd1];exact Nat.gcd_one_right _,rfl,rfl,rfl,rfl,rfl,hS⟩
   ·refine bZ rfl (decide_eq_true (λh=>hd1 (xJ.1 h))) ?_;refine J2 ?_;refine jh (ah Tryz.call67 rfl (Nb _ _ _ (show(bB n).size<=_ by omega) (show(bB d).size<=_ by omega)) ?_);rintro _ wc6 ⟨rfl,hBc6⟩;replace hS:=hS.aG hBc6;refine J2 ?_;refine jp (oM rfl rfl ?_);refine ja ?_;have hgp:0<Nat.gcd n d:=Nat.gcd_pos_of_pos_right _ oO;by_cases hg:Nat.gcd n d=1
    ·refine ct rfl (decide_eq_false (not_not_intro (th hg))) ?_;refine ja ?_;exact⟨_,rfl,n,d,oO,h0,hg,rfl,rfl,rfl,rfl,rfl,hS⟩
    ·refine bZ rfl (decide_eq_true (λh=>hg (xJ.1 h))) ?_;refine ja ?_;have hgn:Nat.gcd n d<=n:=Nat.gcd_le_left _ oO;have hgs:=Q8 hgn h1;have hnp:0<n/Nat.gcd n d:=Nat.div_pos hgn hgp;have hdp:0<d/Nat.gcd n d:=Nat.div_pos (Nat.gcd_le_right _ oO) hgp;refine J2 ?_;refine jh (ah Tryz.call68 rfl (BP n (Nat.gcd n d) _ (show(bB n).size<=_ by omega) (show(bB (Nat.gcd n d)).size<=_ by omega) oO) ?_);rintro _ wc7 ⟨rfl,hBc7⟩;replace hS:=hS.aG hBc7;refine J7 ?_;refine jh (ah Tryz.call68 rfl (BP d (Nat.gcd n d) _ (show(bB d).size<=_ by omega) (show(bB (Nat.gcd n d)).size<=_ by omega) oO) ?_);rintro _ wc8 ⟨rfl,hBc8⟩;replace hS:=hS.aG hBc8;refine V5 ?_;exact⟨_,rfl,n/Nat.gcd n d,d/Nat.gcd n d,hnp,oO,(by rw[Nat.gcd_div (Nat.gcd_dvd_left _ _) (Nat.gcd_dvd_right _ _),Nat.div_self hgp]),yS h0 rfl,rfl,rfl,rfl,rfl,hS⟩
  clear hS;rintro ρ w' ⟨n',d',hn',hd',hc,he,g0,g1,g2,g6,hS⟩;rw[he,xV hn' hd' hc];refine jr ?_;refine jp (aI g2 (jp (lL rfl rfl ?_)));refine ja ?_;refine aW (λρ w'=>ρ 0= .bool b/\ρ 1= .string (bB n')/\ρ 2= .string (if d'=1 then⟨#[]⟩else bB d')/\ρ 6=pB b1/\St w w' [(b1,32,ae ⟨false,⟨#[]⟩,⟨#[]⟩⟩)]) ?_ ?_
  ·refine ja ?_;by_cases hd1:d'=1
   ·refine bZ rfl (decide_eq_true (th hd1)) ?_;refine V1 ?_;exact⟨_,rfl,g0,g1,congrArg Value.string (by rw[if_pos hd1]),g6,hS⟩
   ·refine ct rfl (decide_eq_false (λh=>hd1 (xJ.1 h))) ?_;refine ja ?_;exact⟨_,rfl,g0,g1,g2.trans (congrArg Value.string (by rw[if_neg hd1])),g6,hS⟩
  clear hS g0 g1 g2 g6;rintro ρ w' ⟨g0,g1,g2,g6,hS⟩;refine jr ?_;refine jp (aI g0 (jp (aI g1 (jp (aI g2 (jp (bR rfl (GD _ _ _) (jh (cO (k:=0) g6 rfl aB hS rfl rfl rfl dM rfl ?_)))))))));intro wz9 hS;refine jt ?_;refine dx (k:=0) rfl g6 aB hS rfl rfl ?_;exact⟨rfl,hS.ab⟩
theorem KL {p q:Rat} (h:kz p=kz q):(if decide (p.num<0)=true then-lx (p.num.natAbs*q.den) (q.num.natAbs*p.den)else lx (p.num.natAbs*q.den) (q.num.natAbs*p.den))=lz p q:=by
 have hp:=wY p;have hq:=wY q;have l1:=Rat.lt_iff p q;have l2:=Rat.lt_iff q p;unfold kz at h;rw[<-hp,<-hq]at l1 l2;have e1:((p.num.natAbs*q.den:Nat):Int)=(p.num.natAbs:Int)*q.den:=by push_cast;rfl
 have e2:((q.num.natAbs*p.den:Nat):Int)=(q.num.natAbs:Int)*p.den:=by push_cast;rfl
 by_cases h1:p.num<0
 ·have h2:q.num<0:=by
   rw[if_neg oO,if_pos h1]at h;by_cases g:q.num<0
   ·exact g
   ·exfalso;split at h<;>(try rw[if_neg g]at h)<;>omega
  rw[if_pos (by simpa using h1)];simp only[decide_eq_true h1,decide_eq_true h2,sg,if_true,Int.neg_mul,<-e1,<-e2]at l1 l2;unfold lx lz;split
  ·rw[if_neg (by rw[l1];omega),if_pos (by rw[l2];omega)];rfl
  ·split
   ·rw[if_pos (by rw[l1];omega)]
   ·rw[if_neg (by rw[l1];omega),if_neg (by rw[l2];omega)];rfl
 ·have h2:¬q.num<0:=by
   intro g;rw[if_neg (show¬q.num=0 by omega),if_pos g]at h;split at h<;>(try rw[if_neg h1]at h)<;>omega
  rw[if_neg (by simpa using h1)];simp only[decide_eq_false h1,decide_eq_false h2,sg,<-e1,<-e2,Bool.false_eq_true,if_false]at l1 l2;unfold lx lz;split
  ·rw[if_pos (by rw[l1];omega)]
  ·split
   ·rw[if_neg (by rw[l1];omega),if_pos (by rw[l2];omega)]
   ·rw[if_neg (by rw[l1];omega),if_neg (by rw[l2];omega)]
theorem Mv {p q:Rat} (h:kz p≠kz q):lz p q=if kz p<kz q then-1 else 1:=by
 have a1:=rN (q:=p);have a2:=p9 (q:=p);have a3:=fh (q:=p);have b1:=rN (q:=q);have b2:=p9 (q:=q);have b3:=fh (q:=q);rcases wS p with e|e|e<;>rcases wS q with f|f|f<;>rw[e,f]at h⊢<;>rw[e]at a1 a2 a3<;>rw[f]at b1 b2 b3<;>simp at h a1 a2 a3 b1 b2 b3⊢<;>first|(refine EF ?_;grind)|(refine EY ?_;grind)
theorem tq (q:Rat) (w:World):
  dj Tryz.prog 89 #[cw (aj q)] w λv w'=>v= .int .i64 (kz q)/\Below w.heap.size w w':=by
 have hS:=St.init w;refine enter Tryz.func89 rfl Tryz.ntmps89 rfl ?_;refine jr ?_;refine jh (bY (new:=ae (aj q)) rfl rfl hS ?_);intro b1 wz2 hS hBz2;refine J3 ?_;refine jp (lL rfl rfl ?_);refine V1 ?_;by_cases h:q=0
 ·refine bZ rfl (decide_eq_true (li.2 h)) ?_;refine J1 ?_;refine jt ?_;refine bj rfl rfl ?_;exact⟨vi rfl (p9.2 h).symm,hS.ab⟩
 ·refine ct rfl (decide_eq_false (λg=>h (li.1 g))) ?_;refine V3 ?_;have hn:q.num≠0:=λg=>h (Rat.num_eq_zero.1 g);by_cases h2:q.num<0
  ·refine bZ rfl (decide_eq_true h2) ?_;refine J1 ?_;refine jt ?_;refine bj rfl rfl ?_;exact⟨vi rfl (by unfold kz;rw[if_neg hn,if_pos h2]),hS.ab⟩
  ·refine ct rfl (decide_eq_false h2) ?_;refine J1 ?_;refine jt ?_;refine bj rfl rfl ?_;exact⟨vi rfl (by unfold kz;rw[if_neg hn,if_neg h2]),hS.ab⟩
theorem kK (r:RR) (w:World) (hr:Lr r<=MX):
  dj Tryz.prog 80 #[cw r] w λv w'=>v= .int .i64 (kz (toQ r))/\Below w.heap.size w w':=by
 have hS:=St.init w;refine enter Tryz.func80 rfl Tryz.ntmps80 rfl ?_;refine jr ?_;refine jh (bY (new:=ae r) rfl rfl hS ?_);intro b1 wz2 hS hBz2;refine J2 ?_;refine jh (ah Tryz.call28 rfl (fF r _ hr) ?_);rintro _ wc3 ⟨rfl,hBc3⟩;replace hS:=hS.aG hBc3;refine jh (ah Tryz.call89 rfl (tq (toQ r) _) ?_);rintro _ wc4 ⟨rfl,hBc4⟩;replace hS:=hS.aG hBc4;refine J1 ?_;refine jt ?_;refine bj rfl rfl ?_;exact⟨rfl,hS.ab⟩
theorem Dh (q:Rat):(⟨!decide (q.num<0)&&decide ((aj q).num≠⟨#[]⟩),(aj q).num,(aj q).den⟩:RR)=aj (-q):=by
 have h1:(aj (-q)).num=(aj q).num:=by show bB (-q).num.natAbs=bB q.num.natAbs;rw[Rat.neg_num,Int.natAbs_neg]
 have h2:(aj (-q)).den=(aj q).den:=by show(if(-q).den=1 then _ else bB (-q).den)=_;rw[Rat.neg_den];rfl
 have h3:(aj (-q)).neg=decide ((-q).num<0):=rfl;have h4:(!decide (q.num<0)&&decide ((aj q).num≠⟨#[]⟩))=decide ((-q).num<0):=by
  have:(aj q).num=⟨#[]⟩↔q.num=0:=by rw[li,Rat.num_eq_zero]
  rw[Rat.neg_num,Bool.eq_iff_iff];simp only[Bool.and_eq_true,Bool.not_eq_true',decide_eq_false_iff_not,decide_eq_true_eq,ne_eq,this];omega
 rw[h4,<-h1,<-h2,<-h3]
theorem y0 (q:Rat) (w:World):
  dj Tryz.prog 37 #[cw (aj q)] w λv w'=>v=cw (aj (-q))/\Below w.heap.size w w':=by
 have hS:=St.init w;have he:=Dh q;refine enter Tryz.func37 rfl Tryz.ntmps37 rfl ?_;refine jr ?_;refine jh (bY (new:=ae (aj q)) rfl rfl hS ?_);intro b1 wz2 hS hBz2;refine J1 ?_;intro b3 wz4 hS hBz4;refine ja ?_;by_cases h:q.num<0
 ·refine J4 ?_;refine bI (ak 6 kR rfl (by show(!decide (q.num<0))=false;rw[decide_eq_true h];rfl)) (bI (ak 6 kR rfl (by show(!decide (q.num<0))=false;rw[decide_eq_true h];rfl)) (bI (ak 6 kR rfl (by show(!decide (q.num<0))=false;rw[decide_eq_true h];rfl)) (jp (aZ (vb rfl (by show(!decide (q.num<0))=false;rw[decide_eq_true h];rfl)) rfl ?_))));refine J1 ?_;refine jh (gl (k:=1) rfl rfl iN hS rfl dM rfl ?_);intro wz5 hS;refine J2 ?_;intro wz6 hS;refine jt ?_;refine dx (k:=0) rfl rfl aB hS rfl rfl ?_;rw[<-he,decide_eq_true h];exact⟨rfl,hS.ab⟩
 ·refine J4 ?_;refine ax (ai 6 kR rfl (by show(!decide (q.num<0))=true;rw[decide_eq_false h];rfl)) (cx rfl uX (bW (ai 6 kR rfl (by show(!decide (q.num<0))=true;rw[decide_eq_false h];rfl)) (bT (k:=1) rfl mO hS rfl rfl rfl (.inr rfl) (ax (ai 6 kR rfl (by show(!decide (q.num<0))=true;rw[decide_eq_false h];rfl)) (oM rfl rfl (jp (aZ (vb rfl (by show(!decide (q.num<0))=true;rw[decide_eq_false h];rfl)) rfl ?_)))))));refine J1 ?_;refine jh (gl (k:=1) rfl rfl iN hS rfl dM rfl ?_);intro wz7 hS;refine J2 ?_;intro wz8 hS;refine jt ?_;refine dx (k:=0) rfl rfl aB hS rfl rfl ?_;rw[<-he,decide_eq_false h];exact⟨rfl,hS.ab⟩
end Go.Proofs.YtoeiejliehgopaaGreatDoor
