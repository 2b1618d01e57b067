import Derived.Test.YtoeiejliehgopaaGreatDoorUd1
set_option maxRecDepth 20000
set_option maxHeartbeats 8000000
namespace Go.Proofs.YtoeiejliehgopaaGreatDoor
open Go Go.RowKit Go.Sx
theorem bt {a b c:World} (h:Below a.heap.size a b) (k:Below b.heap.size b c):Below a.heap.size a c:=h.trans (k.mono h.size)
theorem xK {b r i d n:Nat} (hb:2<=b) (hr:r<b^i) (hd:d<b):(pad b r n).set i d=pad b (r+b^i*d) n/\r+b^i*d<b^(i+1):=by
 have h1:b^(i+1)=b^i*b:=bA ..;have h2:b^i*(d+1)<=b^i*b:=bn _ hd;rw[aW]at h2;have h3:r+b^i*d<b^(i+1):=oO;have h4:b^i<=b^(i+1):=bM oO oO;have h:=zg (b:=b) (v:=r) (n:=n) (k:=i) (x:=d) hb oO h3;rw[ub hr,bZ]at h;exact⟨h,h3⟩
theorem Cx (u:Nat):lB kd [u%4294967296,u/4294967296]=u:=by
 simp only[lB,kd];omega
theorem lQ (v:Nat):v<kd^(kL v).length:=mV dD v
theorem xb {v k:Nat} (h:v<kd^k):(kL v).length<=k:=qc dD k v h
theorem mU (s:ByteArray):(kL (val s)).length<=s.size:=by
 refine xb (dq (F3 s) ?_);exact Nat.pow_le_pow_left dD _
theorem sE (u:Nat) (w:World) (hu:u<18446744073709551616):
  lW Tryz.prog 113 #[.int .u64 u] w λr w'=>r= .string (kG u)/\Below w.heap.size w w':=by
 have hS:=St.init w;refine enter Tryz.func113 rfl Tryz.ntmps113 rfl ?_;refine J2 ?_;refine jp (kJ rfl Tryz.underlying141 ⟨_,Tryz.underlying99⟩ (ss _) ?_);refine J1 ?_;refine jp (pX rfl rfl oO (r:=((u/4294967296:Nat):Int)) (by exact qp _ 32 dD) (jp (kJ rfl Tryz.underlying141 ⟨_,Tryz.underlying99⟩ (r:=((u/4294967296:Nat):Int)) (by exact pC _ oO) (jh (mO (vs:=[_,_]) rfl lr rfl dD dD dD (by simp[Value.cells]) rfl hS ?_)))));intro b1 wz2 hS hBz2;have hsl:=St.IS (L:=[u%4294967296,u/4294967296]) hS (k:=0) rfl (n:=2) (cap:=2) (by simp) oO oO;have hd:∀d∈[u%4294967296,u/4294967296],d<kd:=by
  intro d hd;simp only[bC,ct,fo]at hd;unfold kd;omega
 refine jh (j7 Tryz.call70 rfl (vJ _ _ _ hsl hd (by simp)) ?_);rintro r w3 ⟨rfl,hB3⟩;refine J1 ?_;refine jt ?_;refine kD rfl rfl ?_;exact⟨vs rfl (bI kG (Cx u)),bt hS.j5 hB3⟩
theorem Ut (a b:ByteArray) (w:World) (ha:a.size<=4398046511104) (hb:b.size<=4398046511104):
  lW Tryz.prog 74 #[.string a,.string b] w λr w'=>r= .string (kG (val a+val b))/\Below w.heap.size w w':=by
 have hla:=mU a;have hlb:=mU b;have hS:=St.init w;refine enter Tryz.func74 rfl Tryz.ntmps74 rfl ?_;refine J2 ?_;refine jh (j7 Tryz.call69 rfl (qB _ _ oO) ?_);rintro vx w1 ⟨hx,hB1⟩;refine J1 ?_;refine jh (j7 Tryz.call69 rfl (qB _ _ oO) ?_);rintro vy w2 ⟨hy,hB2⟩;refine V2 ?_;have hx:=hx.j5 hB2;have hB2:=bt hB1 hB2;clear hS hB1;have hS:=St.init w2;refine J1 ?_;refine jp (kj rfl (hx.j5 hS.j5) ⟨_,Tryz.underlying139⟩ ?_);refine J1 ?_;refine jp (kj rfl (hy.j5 hS.j5) ⟨_,Tryz.underlying139⟩ ?_);refine V1 ?_;refine kz (λρ w'=>∃v u m n,m+n=val a+val b/\ρ 5=v/\ρ 6=u/\Sl (uk .u32) 1 w2 v (kL m)/\Sl (uk .u32) 1 w2 u (kL n)/\(kL n).length<=(kL m).length/\(kL m).length<=4398046511104/\w2=w') ?_ ?_
 ·by_cases hlt:(kL (val a)).length<(kL (val b)).length
  ·refine V5 ?_;exact⟨_,rfl,vy,vx,val b,val a,dK ..,rfl,rfl,hy,hx,oO,oO,rfl⟩
  ·refine V1 ?_;exact⟨_,rfl,vx,vy,val a,val b,rfl,rfl,rfl,hx,hy,oO,oO,rfl⟩
 clear hx hy hla hlb;rintro ρ w' ⟨vx,vy,X,Y,hsum,h5,h6,hx,hy,hle,hmx,rfl⟩;rw[<-hsum];clear hsum;obtain⟨n,hn⟩:=jz ((kL X).length);refine J1 ?_;refine jp (kj rfl (hx.j5 hS.j5) ⟨_,Tryz.underlying139⟩ ?_);refine J1 ?_;refine jh (pV (n:=(kL X).length+1) rfl rfl lr oO oO oO oO hS ?_);intro b1 wz2 hS hBz2;refine J3 ?_;refine jp (kj rfl (hx.j5 hS.j5) ⟨_,Tryz.underlying139⟩ ?_);refine V1 ?_;have hXn:X<kd^n:=hn▸lQ X;have hYn:Y<kd^n:=dq (lQ Y) (bM dD oO);rw[<-hn,<-oV kd (n+1)]at hS;refine kx (σ:=Nat×Nat×Nat) (λs ρ w'=>s.1<=n/\s.2.1<kd^s.1/\s.2.2<=1/\s.2.1+kd^s.1*s.2.2=X%kd^s.1+Y%kd^s.1/\ρ 5=vx/\ρ 6=vy/\ρ 7= .slice (some ⟨b1,0,none⟩) (n+1) (n+1)/\ρ 8= .int .u32 s.2.2/\ρ 27=iB n/\ρ 28=iB s.1/\St w2 w' [(b1,141,Kr .u32 (pad kd s.2.1 (n+1)))]) (λs=>n-s.1) (0,0,0)
  ⟨ax _,dD,dD,by simp[dX],h5,h6,by rw[hn];rfl,rfl,vi rfl (by rw[hn]),rfl,hS⟩ ?_
 clear hS h5 h6;rintro⟨i,r,c⟩ ρ w3 ⟨hi,hr,hc,hinv,h5,h6,h7,h8,h27,h28,hS⟩;simp only at hi hr hc hinv h5 h6 h7 h8 h27 h28 hS;refine V1 ?_;by_cases hlt:i<n
 ·refine J6 ?_;refine jp (kj rfl (hy.j5 hS.j5) ⟨_,Tryz.underlying139⟩ ?_);refine V1 ?_;refine kz (λρ w'=>ρ 5=vx/\ρ 6=vy/\ρ 7= .slice (some ⟨b1,0,none⟩) (n+1) (n+1)/\ρ 8= .int .u32 c/\ρ 9=iB i/\ρ 10= .int .u32 (kS kd Y i:Nat)/\ρ 27=iB n/\ρ 28=iB i/\w3=w') ?_ ?_
  ·by_cases hlt2:i<(kL Y).length
   ·refine J3 ?_;refine jp (kp (i:=i) rfl rfl (hy.j5 hS.j5) oO dO lr (jq (ky (i:=i) 0 rfl kK (hy.j5 hS.j5) dO rfl rfl (.inr rfl) ?_)));refine V1 ?_;exact⟨_,rfl,h5,h6,h7,h8,rfl,vi rfl (by rw[me]),h27,h28,rfl⟩
   ·refine V1 ?_;exact⟨_,rfl,h5,h6,h7,h8,rfl,vi rfl (by rw[ub (dq (lQ Y) (bM dD oO))];rfl),h27,h28,rfl⟩
  clear h5 h6 h7 h8 h27 h28;rintro ρ w' ⟨h5,h6,h7,h8,h9,h10,h27,h28,rfl⟩;have hx1:kS kd X i<kd:=qO dD X i;have hy1:kS kd Y i<kd:=qO dD Y i;have hgx:(kL X).getD i 0=kS kd X i:=me X i;have hil:i<(kL X).length:=oO;refine J4 ?_;refine jp (kp (i:=i) rfl rfl (hx.j5 hS.j5) oO dO lr (jq (ky (i:=i) 0 rfl kK (hx.j5 hS.j5) dO rfl rfl (.inr rfl) ?_)));refine J2 ?_;refine jh (j7 Tryz.call117 rfl (H5 _ _ _ _ (by rw[hgx];exact hx1) hy1 (by unfold kd;omega)) ?_);rintro v w' ⟨rfl,rfl⟩;refine J3 ?_;refine jp (kF (i:=i) rfl rfl oO dO lr (jh (pj (k:=0) (i:=i) (a:=_) rfl rfl rfl kK hS rfl oO dO ?_)));intro wz3 hS;refine V1 ?_;obtain⟨e1,e2⟩:=xK (b:=kd) (r:=r) (i:=i) (d:=(kS kd X i+kS kd Y i+c)%kd) (n:=n+1) dD hr (bG _ dD);rw[hgx,e1]at hS;refine V2 ?_;refine⟨(i+1,r+kd^i*((kS kd X i+kS kd Y i+c)%kd),(kS kd X i+kS kd Y i+c)/kd),_,rfl,⟨hlt,e2,?_,?_,h5,h6,h7,vi rfl (by rw[hgx]),h27,vi rfl (by simp),hS⟩,by simp only;omega⟩
  ·simp only;unfold kd at*;omega
  ·simp only;rw[mod_pow_succ,mod_pow_succ,bA,dR,bf,<-aW,fk,aW,aW];omega
 ·refine J1 ?_;refine jt ?_;obtain rfl:i=n:=oO;rw[aZ hXn,aZ hYn]at hinv;refine J2 ?_;refine jp (kj rfl (hx.j5 hS.j5) ⟨_,Tryz.underlying139⟩ ?_);refine J1 ?_;refine jp (kF (i:=i) rfl rfl oO dO lr (jh (pj (k:=0) (i:=i) (a:=_) rfl rfl rfl kK hS rfl oO dO ?_)));intro wz4 hS;refine ja ?_;obtain⟨e1,e2⟩:=xK (b:=kd) (r:=r) (i:=i) (d:=c) (n:=i+1) dD hr (by unfold kd;omega);rw[hn,<-hn,e1,hinv]at hS;rw[hinv]at e2;have hsl:=hS.IS (k:=0) rfl (n:=i+1) (cap:=i+1) (by simp) (aB _) oO;rw[aU (by simp)]at hsl;refine J1 ?_;refine jh (j7 Tryz.call70 rfl (vJ _ _ _ hsl (ti dD _ _) (by simp;omega)) ?_);rintro r w4 ⟨rfl,hB4⟩;refine J1 ?_;refine jt ?_;refine kD rfl rfl ?_;rw[mR e2];exact⟨rfl,bt hB2 (bt hS.j5 hB4)⟩
theorem HK (vx vy:Value) (X Y:Nat) (w:World) (hx:Sl (uk .u32) 1 w vx (kL X)) (hy:Sl (uk .u32) 1 w vy (kL Y)) (hYX:Y<=X) (hmx:(kL X).length<=17592186044416):
  lW Tryz.prog 119 #[vx,vy] w λr w'=>Sl (uk .u32) 1 w' r (kL (X-Y))/\Below w.heap.size w w':=by
 have hS:=St.init w;obtain⟨n,hn⟩:=jz ((kL X).length);have hle:(kL Y).length<=n:=hn▸nH dD hYX;refine enter Tryz.func119 rfl Tryz.ntmps119 rfl ?_;refine J2 ?_;refine jp (kj rfl (hx.j5 hS.j5) ⟨_,Tryz.underlying139⟩ (jh (pV (n:=(kL X).length) rfl rfl lr oO oO oO oO hS ?_)));intro b1 wz2 hS hBz2;refine J3 ?_;refine jp (kj rfl (hx.j5 hS.j5) ⟨_,Tryz.underlying139⟩ ?_);refine V1 ?_;have hXn:X<kd^n:=hn▸lQ X;have hYn:Y<kd^n:=dq (lQ Y) (bM dD oO);rw[<-hn,<-oV kd n]at hS;refine kx (σ:=Nat×Nat×Nat) (λs ρ w'=>s.1<=n/\s.2.1<kd^s.1/\s.2.2<=1/\s.2.1+Y%kd^s.1=X%kd^s.1+kd^s.1*s.2.2/\ρ 0=vx/\ρ 1=vy/\ρ 5= .slice (some ⟨b1,0,none⟩) n n/\ρ 6= .int .u32 s.2.2/\ρ 13=iB n/\ρ 14=iB s.1/\St w w' [(b1,141,Kr .u32 (pad kd s.2.1 n))]) (λs=>n-s.1) (0,0,0)
  ⟨ax _,dD,dD,by simp[dX],rfl,rfl,by rw[hn];rfl,rfl,vi rfl (by rw[hn]),rfl,hS⟩ ?_
 clear hS;rintro⟨i,r,c⟩ ρ w3 ⟨hi,hr,hc,hinv,h0,h1,h5,h6,h13,h14,hS⟩;simp only at hi hr hc hinv h0 h1 h5 h6 h13 h14 hS;refine V1 ?_;by_cases hlt:i<n
 ·refine J6 ?_;refine jp (kj rfl (hy.j5 hS.j5) ⟨_,Tryz.underlying139⟩ ?_);refine V1 ?_;refine kz (λρ w'=>ρ 0=vx/\ρ 1=vy/\ρ 5= .slice (some ⟨b1,0,none⟩) n n/\ρ 6= .int .u32 c/\ρ 7=iB i/\ρ 8= .int .u32 (kS kd Y i:Nat)/\ρ 13=iB n/\ρ 14=iB i/\w3=w') ?_ ?_
  ·by_cases hlt2:i<(kL Y).length
   ·refine J3 ?_;refine jp (kp (i:=i) rfl rfl (hy.j5 hS.j5) oO dO lr (jq (ky (i:=i) 0 rfl kK (hy.j5 hS.j5) dO rfl rfl (.inr rfl) ?_)));refine V1 ?_;exact⟨_,rfl,h0,h1,h5,h6,rfl,vi rfl (by rw[me]),h13,h14,rfl⟩
   ·refine V1 ?_;exact⟨_,rfl,h0,h1,h5,h6,rfl,vi rfl (by rw[ub (dq (lQ Y) (bM dD oO))];rfl),h13,h14,rfl⟩
  clear h0 h1 h5 h6 h13 h14;rintro ρ w' ⟨h0,h1,h5,h6,h7,h8,h13,h14,rfl⟩;have hx1:kS kd X i<kd:=qO dD X i;have hy1:kS kd Y i<kd:=qO dD Y i;have hgx:(kL X).getD i 0=kS kd X i:=me X i;have hil:i<(kL X).length:=oO;refine J4 ?_;refine jp (kp (i:=i) rfl rfl (hx.j5 hS.j5) oO dO lr (jq (ky (i:=i) 0 rfl kK (hx.j5 hS.j5) dO rfl rfl (.inr rfl) ?_)));refine J2 ?_;refine jh (j7 Tryz.call161 rfl (CU _ _ _ _ (by rw[hgx];exact hx1) hy1 hc) ?_);rintro v w' ⟨rfl,rfl⟩;refine J3 ?_;refine jp (kF (i:=i) rfl rfl oO dO lr (jh (pj (k:=0) (i:=i) (a:=_) rfl rfl rfl kK hS rfl oO dO ?_)));intro wz3 hS;refine V1 ?_;obtain⟨d,hd⟩:=jz ((kS kd X i+2*kd-kS kd Y i-c)%kd);obtain⟨c',hc'⟩:∃c',c'=if kS kd X i<kS kd Y i+c then 1 else 0:=⟨_,rfl⟩
  have hdc:d+kS kd Y i+c=kS kd X i+kd*c':=by
   rw[hd,hc'];unfold kd at*;split<;>omega
  have hc1:c'<=1:=by rw[hc'];split<;>omega
  obtain⟨e1,e2⟩:=xK (b:=kd) (r:=r) (i:=i) (d:=d) (n:=n) dD hr (hd▸bG _ dD);rw[hgx,<-hd,e1]at hS;refine V2 ?_;refine⟨(i+1,r+kd^i*d,c'),_,rfl,⟨hlt,e2,hc1,?_,h0,h1,h5,vi rfl (by rw[hgx,hc']),h13,vi rfl (by simp),hS⟩,by simp only;omega⟩;simp only;have h9:kd^i*d+kd^i*kS kd Y i+kd^i*c=kd^i*kS kd X i+kd^i*(kd*c'):=by rw[<-aW,<-aW,hdc,aW]
  rw[mod_pow_succ,mod_pow_succ,bA,bf];omega
 ·refine J1 ?_;refine jt ?_;obtain rfl:i=n:=oO;rw[aZ hXn,aZ hYn]at hinv;have hc0:c=0:=by
   rcases bH c 1 with h|h
   ·omega
   ·obtain rfl:c=1:=oO;omega
  subst hc0;have hr2:r=X-Y:=oO;have hsl:=hS.IS (k:=0) rfl (n:=i) (cap:=i) (by simp) (aB _) oO;rw[aU (by simp)]at hsl;refine J1 ?_;refine jh (j7 Tryz.call112 rfl (xM _ _ _ hsl (ti dD _ _)) ?_);rintro v w3 ⟨hv,rfl⟩;refine J1 ?_;refine jt ?_;refine kD rfl rfl ?_;rw[mR hr,hr2]at hv;exact⟨hv,hS.j5⟩
theorem AW (a b:ByteArray) (w:World) (ha:a.size<=4398046511104) (hb:b.size<=4398046511104):
  lW Tryz.prog 75 #[.string a,.string b] w λr w'=>
   (if val b<=val a then r= .tuple #[.string (kG (val a-val b)),.bool true]else r= .tuple #[.string ⟨#[]⟩,.bool false])/\Below w.heap.size w w':=by
 have hla:=mU a;have hlb:=mU b;refine enter Tryz.func75 rfl Tryz.ntmps75 rfl ?_;refine J3 ?_;refine jh (j7 Tryz.call69 rfl (qB _ _ oO) ?_);rintro vx w1 ⟨hx,hB1⟩;refine J1 ?_;refine jh (j7 Tryz.call69 rfl (qB _ _ oO) ?_);rintro vy w2 ⟨hy,hB2⟩;refine V2 ?_;have hx:=hx.j5 hB2;have hB2:=bt hB1 hB2;refine J2 ?_;refine jh (j7 Tryz.call118 rfl (CL _ _ _ _ _ hx hy) ?_);rintro v w3 ⟨rfl,hB3⟩;refine V1 ?_;have hx:=hx.j5 hB3;have hy:=hy.j5 hB3;have hB3:=bt hB2 hB3;by_cases h:val b<=val a
 ·refine lx rfl (ae (by unfold sI;split<;>(try split)<;>omega)) ?_;refine J2 ?_;refine jh (j7 Tryz.call119 rfl (HK _ _ _ _ _ hx hy h oO) ?_);rintro v w4 ⟨hv,hB4⟩;have hlv:(kL (val a-val b)).length<=(kL (val a)).length:=nH dD oO;refine jh (j7 Tryz.call70 rfl (vJ _ _ _ hv (xR _) oO) ?_);rintro r w5 ⟨rfl,hB5⟩;refine J2 ?_;refine jt ?_;refine rH rfl rfl rfl ?_;rw[aj h,qS];exact⟨rfl,bt hB3 (bt hB4 hB5)⟩
 ·refine k9 rfl (ak (by unfold sI;rw[aj oO];decide)) ?_;refine J2 ?_;refine jt ?_;refine rH rfl rfl rfl ?_;rw[ah h];exact⟨rfl,hB3⟩
theorem Ea (b v k:Nat):v=v%b^k+b^k*(kS b v k+b*(v/b^(k+1))):=by
 have h1:=ph b v k;have h2:=fk v (b^k);rw[h1]at h2;rw[dK (kS b v k)];exact h2.symm
theorem FY {b v k d n:Nat} (hb:2<=b) (hd:d<b) (hk:k<n):∃v',(pad b v n).set k d=pad b v' n/\v'+b^k*kS b v k=v+b^k*d/\(∀m,k<m->v<b^m->v'<b^m):=by
 have hb':0<b:=oO;have hs:=Ea b v k;have hlo:v%b^k<b^k:=si hb' v k;have hdv:=qO hb' v k;refine⟨v%b^k+b^k*(d+b*(v/b^(k+1))),?_,?_,?_⟩
 ·rw[OB (b:=b) (v:=v%b^k+b^k*(d+b*(v/b^(k+1)))) (L:=(pad b v n).set k d) ?_]
  ·simp
  ·intro j hj;have hj':j<n:=by simpa using hj
   rw[ai,fv];split
   ·rename_i h;subst h;rw[aj (by simpa using hk),eZ,Jc hb',bS hlo,bZ,eD,aZ hd]
   ·rename_i h;rw[<-ai,nY b v hj'];rcases bH j k with h1|h1
    ·rw[yp hb' _ _ h1];conv=>lhs;rw[hs]
     rw[yp hb' _ _ h1]
    ·have hdiv:∀e,e<b->(v%b^k+b^k*(e+b*(v/b^(k+1))))/b^j=v/b^(k+1)/b^(j-(k+1)):=by
      intro e he;have:b^j=b^k*b*b^(j-(k+1)):=by rw[<-bA,<-dy];congr 1;omega
      rw[this,<-cQ,<-cQ,cU _ _ (cy hb'),bS hlo,bZ,cU _ _ hb',bS he,bZ]
     unfold kS at*;rw[hdiv d hd];conv=>lhs;rw[hs,hdiv _ hdv]
 ·have hL:v%b^k+b^k*kS b v k+b^k*(b*(v/b^(k+1)))=v:=by rw[dR,<-aW];exact hs.symm
  rw[aW];omega
 ·intro m hm hv;have hm2:b^m=b^(k+1)*b^(m-(k+1)):=by rw[<-dy];congr 1;omega
  have h1:v/b^(k+1)<b^(m-(k+1)):=by rw[hm2]at hv;exact dc hv
  have h2:v%b^k+b^k*(d+b*(v/b^(k+1)))<b^k*b*(v/b^(k+1)+1):=by
   have:b^k*(d+1)<=b^k*b:=bn _ hd;rw[aW]at this;rw[aW,aW,<-bf];omega
  have h3:b^k*b*(v/b^(k+1)+1)<=b^m:=by rw[hm2,bA];exact bn _ h1
  omega
theorem lY (v j:Nat):kS kd v j<=4294967295:=by
 have h1:=qO (b:=kd) dD v j;have h2:kd=4294967296:=rfl;omega
theorem yw (x y q c:Nat) (hx:x<=4294967295) (hy:y<=4294967295) (hq:q<=4294967295) (hc:c<=4294967295):x*y<=18446744065119617025/\x*y+q+c<=18446744073709551615:=by
 have:x*y<=4294967295*4294967295:=fb hx hy;omega
theorem Ic (a b:ByteArray) (w:World) (ha:a.size<=4398046511104) (hb:b.size<=4398046511104):
  lW Tryz.prog 30 #[.string a,.string b] w λr w'=>r= .string (kG (val a*val b))/\Below w.heap.size w w':=by
 have hla:=mU a;have hlb:=mU b;refine enter Tryz.func30 rfl Tryz.ntmps30 rfl ?_;refine J2 ?_;refine jh (j7 Tryz.call69 rfl (qB _ _ oO) ?_);rintro vx w1 ⟨hx,hB1⟩;refine J1 ?_;refine jh (j7 Tryz.call69 rfl (qB _ _ oO) ?_);rintro vy w2 ⟨hy,hB2⟩;refine V2 ?_;have hx:=hx.j5 hB2;have hB2:=bt hB1 hB2;clear hB1;have hS:=St.init w2;generalize val a=X at*;generalize val b=Y at*;obtain⟨m,hm⟩:=jz ((kL X).length);obtain⟨n,hn⟩:=jz ((kL Y).length);have hXm:X<kd^m:=hm▸lQ X;have hYn:Y<kd^n:=hn▸lQ Y;refine J1 ?_;refine jp (kj rfl (hx.j5 hS.j5) ⟨_,Tryz.underlying139⟩ ?_);refine J1 ?_;refine jp (kj rfl (hy.j5 hS.j5) ⟨_,Tryz.underlying139⟩ ?_);refine J1 ?_;refine jh (pV (n:=m+n) rfl rfl lr oO oO oO oO hS ?_);intro b1 wz2 hS hBz2;refine J2 ?_;refine jp (kj rfl (hx.j5 hS.j5) ⟨_,Tryz.underlying139⟩ ?_);refine V1 ?_;rw[<-oV kd (m+n)]at hS;refine kx (σ:=Nat) (λi ρ w'=>i<=m/\ρ 6=vy/\ρ 7= .slice (some ⟨b1,0,none⟩) (m+n) (m+n)/\ρ 24=vx/\ρ 25=iB m/\ρ 26=iB i/\St w2 w' [(b1,141,Kr .u32 (pad kd (X%kd^i*Y) (m+n)))]) (λi=>m-i) 0
  ⟨ax _,rfl,rfl,rfl,vi rfl (by rw[hm]),rfl,by rw[cO,dX,fq];exact hS⟩ ?_
 clear hS;rintro i ρ w3 ⟨hi,h6,h7,h24,h25,h26,hS⟩;refine V1 ?_;by_cases hlt:i<m
 ·refine V1 ?_;have him:i<(kL X).length:=oO;refine J1 ?_;refine jp (kp (i:=i) h24 h26 (hx.j5 hS.j5) oO dO lr (jq (ky (i:=i) 0 rfl kK (hx.j5 hS.j5) dO rfl rfl (.inr rfl) ?_)));refine J4 ?_;refine jp (kj rfl (hy.j5 hS.j5) ⟨_,Tryz.underlying139⟩ ?_);refine V1 ?_;have hP0:X%kd^i*Y<kd^(i+n):=by
   rw[dy];exact hJ (si dD X i) (fP hYn) (cy dD)
  refine kx (σ:=Nat×Nat×Nat) (λs ρ w'=>s.1<=n/\s.2.1<kd^(i+n)/\s.2.2<=4294967295/\s.2.1+kd^(i+s.1)*s.2.2=X%kd^i*Y+kd^i*(kS kd X i*(Y%kd^s.1))/\ρ 6=vy/\ρ 7= .slice (some ⟨b1,0,none⟩) (m+n) (m+n)/\ρ 8=iB i/\ρ 9= .int .u32 (kS kd X i:Nat)/\ρ 10= .int .u64 s.2.2/\ρ 24=vx/\ρ 25=iB m/\ρ 26=iB i/\ρ 31=vy/\ρ 32=iB n/\ρ 33=iB s.1/\St w2 w' [(b1,141,Kr .u32 (pad kd s.2.1 (m+n)))]) (λs=>n-s.1) (0,X%kd^i*Y,0)
   ⟨ax _,hP0,ax _,by simp[dX],h6,h7,rfl,vi rfl (by rw[me]),rfl,h24,h25,h26,rfl,vi rfl (by rw[hn]),rfl,hS⟩ ?_
  clear hS h6 h7 h24 h25 h26;rintro⟨k,q,c⟩ ρ w4 ⟨hk,hq,hc,hinv,h6,h7,h8,h9,h10,h24,h25,h26,h31,h32,h33,hS⟩;simp only at hk hq hc hinv h6 h7 h8 h9 h10 h24 h25 h26 h31 h32 h33 hS;refine V1 ?_;by_cases hlt2:k<n
  ·refine V1 ?_;have hkn:k<(kL Y).length:=oO;have hikm:i+k<m+n:=oO;refine J1 ?_;refine jp (kp (i:=k) h31 h33 (hy.j5 hS.j5) oO dO lr (jq (ky (i:=k) 0 rfl kK (hy.j5 hS.j5) dO rfl rfl (.inr rfl) ?_)));refine V2 ?_;rw[me];have hgq:(pad kd q (m+n)).getD (i+k) 0=kS kd q (i+k):=nY _ _ hikm;have x1:=lY X i;have y1:=lY Y k;have q1:=lY q (i+k);obtain⟨u1,u2⟩:=yw _ _ _ _ x1 y1 q1 hc;refine J4 ?_;refine jp (ws rfl rfl (r:=((kS kd X i*kS kd Y k:Nat):Int)) (by exact kZ _ ⟨by push_cast;rfl,oO,oO⟩) ?_);refine J4 ?_;refine jp (kF (i:=i+k) rfl rfl oO dO lr (jq (nS (k:=0) (i:=i+k) rfl kK hS rfl oO dO (jp (kJ rfl Tryz.underlying99 ⟨_,Tryz.underlying141⟩ (r:=((kS kd q (i+k):Nat):Int)) (by rw[hgq];exact kZ _ ⟨rfl,oO,oO⟩) (jp (pe rfl rfl (r:=((kS kd X i*kS kd Y k+kS kd q (i+k):Nat):Int)) (by exact kZ _ ⟨by push_cast;rfl,oO,oO⟩) ?_)))))));refine J1 ?_;refine jp (pe rfl rfl (r:=((kS kd X i*kS kd Y k+kS kd q (i+k)+c:Nat):Int)) (by exact kZ _ ⟨by push_cast;rfl,oO,oO⟩) ?_);refine V1 ?_;obtain⟨t,ht⟩:=jz (kS kd X i*kS kd Y k+kS kd q (i+k)+c);have ht2:t<=18446744073709551615:=by rw[ht];exact u2
   rw[<-ht];refine J5 ?_;refine jp (kJ rfl Tryz.underlying141 ⟨_,Tryz.underlying99⟩ (ss _) (jp (kF (i:=i+k) rfl rfl oO dO lr (jh (pj (k:=0) (i:=i+k) (a:=_) rfl rfl rfl kK hS rfl oO dO ?_)))));intro wz3 hS;refine J1 ?_;refine jp (pX rfl rfl oO (r:=((t/4294967296:Nat):Int)) (by exact qp _ 32 dD) ?_);refine V1 ?_;obtain⟨q',e1,e2,e3⟩:=FY (b:=kd) (v:=q) (k:=i+k) (d:=t%4294967296) (n:=m+n) dD (bG _ dD) hikm;rw[e1]at hS;refine V2 ?_;refine⟨(k+1,q',t/4294967296),_,rfl,⟨hlt2,e3 _ oO hq,by simp only;omega,?_,h6,h7,h8,h9,rfl,h24,h25,h26,h31,h32,vi rfl (by simp),hS⟩,by simp only;omega⟩;simp only;have f1:kd^(i+(k+1))*(t/4294967296)=kd^(i+k)*(kd*(t/4294967296)):=by rw[<-dR,bA,bf]
   have f2:kd^(i+k)*(t%4294967296)+kd^(i+k)*(kd*(t/4294967296))=kd^(i+k)*t:=by rw[<-aW];congr 1;unfold kd;omega
   have f3:kd^(i+k)*t=kd^(i+k)*(kS kd X i*kS kd Y k)+kd^(i+k)*kS kd q (i+k)+kd^(i+k)*c:=by rw[ht,aW,aW]
   have f4:kd^i*(kS kd X i*(Y%kd^(k+1)))=kd^i*(kS kd X i*(Y%kd^k))+kd^(i+k)*(kS kd X i*kS kd Y k):=by
    rw[mod_pow_succ,aW,aW,dy];congr 1;ac_rfl
   omega
  ·refine J1 ?_;refine jt ?_;obtain rfl:k=n:=oO;rw[aZ hYn]at hinv;have hikm:i+k<m+k:=oO;refine J3 ?_;refine jp (kj rfl (hy.j5 hS.j5) ⟨_,Tryz.underlying139⟩ ?_);refine J2 ?_;refine jp (kJ rfl Tryz.underlying141 ⟨_,Tryz.underlying99⟩ (r:=((c:Nat):Int)) (by exact pC _ oO) (jp (kF (i:=i+k) rfl rfl oO dO lr (jh (pj (k:=0) (i:=i+k) (a:=_) rfl rfl rfl kK hS rfl oO dO ?_)))));intro wz4 hS;refine ja ?_;obtain⟨e1,e2⟩:=xK (b:=kd) (r:=q) (i:=i+k) (d:=c) (n:=m+k) dD hq (by unfold kd;omega);have e3:q+kd^(i+k)*c=X%kd^(i+1)*Y:=by rw[hinv,mod_pow_succ,bl,bf]
   rw[show [(b1,141,Kr IntKind.u32 (pad kd q (m+k)))].set 0 (b1,141,Kr IntKind.u32 ((pad kd q (m+k)).set (i+k) c))=[(b1,141,Kr IntKind.u32 ((pad kd q (m+k)).set (i+k) c))]from rfl,e1,e3]at hS;refine V2 ?_;exact⟨i+1,_,rfl,⟨hlt,h6,h7,h24,h25,vi rfl oO,hS⟩,oO⟩
 ·refine J1 ?_;refine jt ?_;obtain rfl:i=m:=oO;rw[aZ hXm]at hS;have hXY:X*Y<kd^(i+n):=by
   rw[dy];exact hJ hXm (fP hYn) (cy dD)
  have hsl:=hS.IS (k:=0) rfl (n:=i+n) (cap:=i+n) (by simp) (aB _) oO;rw[aU (by simp)]at hsl;refine J1 ?_;refine jh (j7 Tryz.call70 rfl (vJ _ _ _ hsl (ti dD _ _) (by simp;omega)) ?_);rintro r w4 ⟨rfl,hB4⟩;refine J1 ?_;refine jt ?_;refine kD rfl rfl ?_;rw[mR hXY];exact⟨rfl,bt hB2 (bt hS.j5 hB4)⟩
theorem ui {b q i e n:Nat} (hb:2<=b) (he:e<b) (hi:0<i) (hin:i<=n) (hq:b^i*q<b^n):
  (pad b (b^i*q) n).set (i-1) e=pad b (b^(i-1)*(b*q+e)) n/\b^(i-1)*(b*q+e)<b^n:=by
 obtain⟨v',e1,e2,e3⟩:=FY (b:=b) (v:=b^i*q) (k:=i-1) (d:=e) (n:=n) hb he oO;have h1:b^i=b^(i-1)*b:=by rw[<-bA];congr 1;omega
 have h0:kS b (b^i*q) (i-1)=0:=by
  unfold kS;rw[h1,bf,Nat.mul_div_cancel_left _ (cy oO),Nat.mul_mod_right]
 rw[h0,eP,d9]at e2;have h2:v'=b^(i-1)*(b*q+e):=by rw[e2,aW,h1,bf]
 rw[e1,h2];exact⟨rfl,h2▸e3 n oO hq⟩
theorem C7 (vx:Value) (X d:Nat) (w:World) (hx:Sl (uk .u32) 1 w vx (kL X)) (hd:0<d) (hd2:d<=4294967295) (hmx:(kL X).length<=17592186044416):
  lW Tryz.prog 153 #[vx,.int .u32 d] w λr w'=>(∃v,r= .tuple #[v,.int .u32 (X%d:Nat)]/\Sl (uk .u32) 1 w' v (kL (X/d)))/\Below w.heap.size w w':=by
 have hS:=St.init w;obtain⟨n,hn⟩:=jz ((kL X).length);have hXn:X<kd^n:=hn▸lQ X;refine enter Tryz.func153 rfl Tryz.ntmps153 rfl ?_;refine J3 ?_;refine jp (kj rfl (hx.j5 hS.j5) ⟨_,Tryz.underlying139⟩ (jh (pV (n:=(kL X).length) rfl rfl lr oO oO oO oO hS ?_)));intro b1 wz2 hS hBz2;refine J3 ?_;refine jp (kj rfl (hx.j5 hS.j5) ⟨_,Tryz.underlying139⟩ ?_);refine V2 ?_;rw[<-hn,<-oV kd n]at hS;refine kx (σ:=Nat×Nat×Nat) (λs ρ w'=>s.1<=n/\s.2.2<d/\X/kd^s.1=s.2.1*d+s.2.2/\kd^s.1*s.2.1<kd^n/\ρ 0=vx/\ρ 1= .int .u32 d/\ρ 6= .slice (some ⟨b1,0,none⟩) n n/\ρ 7= .int .u64 s.2.2/\ρ 8=iB ((s.1:Int)-1)/\St w w' [(b1,141,Kr .u32 (pad kd (kd^s.1*s.2.1) n))]) (λs=>s.1) (n,0,0)
  ⟨aB _,hd,by simp only[fq];exact bS hXn,by simp only[eP];omega,rfl,rfl,by rw[hn];rfl,rfl,vi rfl (by rw[hn]),hS⟩ ?_
 clear hS;rintro⟨i,q,r⟩ ρ w3 ⟨hi,hr,hinv,hq,h0,h1,h6,h7,h8,hS⟩;simp only at hi hr hinv hq h0 h1 h6 h7 h8 hS;refine V2 ?_;by_cases hlt:0<i
 ·refine V1 ?_;have hil:i-1<(kL X).length:=oO;have x1:=lY X (i-1);have hg:(kL X).getD (i-1) 0=kS kd X (i-1):=me X (i-1);have hor:r*2^32|||kS kd X (i-1)=kS kd X (i-1)+r*2^32:=by rw[gh];exact uu _ _ _ oO
  refine J1 ?_;refine jp (uV rfl rfl oO (r:=((r*2^32:Nat):Int)) (by exact uW r 32 _ dD (kZ _ ⟨rfl,oO,oO⟩)) ?_);refine J2 ?_;refine jp (kp (i:=i-1) rfl rfl (hx.j5 hS.j5) oO dO lr (jq (ky (i:=i-1) 0 rfl kK (hx.j5 hS.j5) dO rfl rfl (.inr rfl) (jp (kJ rfl Tryz.underlying99 ⟨_,Tryz.underlying141⟩ (r:=((kS kd X (i-1):Nat):Int)) (by rw[hg];exact kZ _ ⟨rfl,oO,oO⟩) (jp (zc rfl rfl (r:=((kS kd X (i-1)+r*2^32:Nat):Int)) (by rw[<-hor];exact rM rfl _ _ (by show _<18446744073709551616;omega) (by show _<18446744073709551616;omega)) ?_)))))));refine V1 ?_;obtain⟨t,ht⟩:=jz (kS kd X (i-1)+r*2^32);rw[<-ht];have ht1:t/d<=4294967295:=by
   have:t<d*4294967296:=by
    have:(r+1)*4294967296<=d*4294967296:=aH _ hr;omega
   have:=dc this;omega
  refine J4 ?_;refine jp (kJ rfl Tryz.underlying99 ⟨_,Tryz.underlying141⟩ (r:=((d:Nat):Int)) (by exact kZ _ ⟨rfl,oO,oO⟩) (jp (sF rfl rfl oO (i5 _ _ oO) (jp (kJ rfl Tryz.underlying141 ⟨_,Tryz.underlying99⟩ (r:=((t/d:Nat):Int)) (by exact pC _ ⟨by push_cast;rfl,fg _,by generalize t/d=z at ht1⊢;omega⟩) (jp (kF (i:=i-1) rfl rfl oO dO lr (jh (pj (k:=0) (i:=i-1) (a:=_) rfl rfl rfl kK hS rfl oO dO ?_)))))))));intro wz3 hS;refine J2 ?_;refine jp (kJ rfl Tryz.underlying99 ⟨_,Tryz.underlying141⟩ (r:=((d:Nat):Int)) (by exact kZ _ ⟨rfl,oO,oO⟩) (jp (pY rfl rfl oO (r:=((t%d:Nat):Int)) (by rw[ff oO];push_cast;rfl) ?_)));refine V1 ?_;obtain⟨e1,e2⟩:=ui (b:=kd) (q:=q) (i:=i) (e:=t/d) (n:=n) dD (by unfold kd;omega) hlt hi hq;rw[e1]at hS;refine V3 ?_;have hs:=ph kd X (i-1);rw[show i-1+1=i by omega,hinv]at hs;refine⟨(i-1,kd*q+t/d,t%d),_,rfl,⟨by simp only;omega,bG _ hd,?_,e2,h0,h1,h6,rfl,vi rfl (by simp only;omega),hS⟩,by simp only;omega⟩;simp only;have h9:=cH t d;have h10:kd=2^32:=rfl;rw[hs,bl,aW,bf,dR,dR,bF (t/d) d,h9,ht,h10];omega
 ·refine J1 ?_;refine jt ?_;obtain rfl:i=0:=oO;rw[cO,fu]at hinv;rw[cO,dG]at hS hq;have hqd:X/d=q:=by rw[hinv,dK,iW _ _ hd,bS hr,bZ]
  have hrd:X%d=r:=by rw[hinv,ia,aZ hr]
  have hsl:=hS.IS (k:=0) rfl (n:=n) (cap:=n) (by simp) (aB _) oO;rw[aU (by simp)]at hsl;refine J1 ?_;refine jh (j7 Tryz.call112 rfl (xM _ _ _ hsl (ti dD _ _)) ?_);rintro v w3 ⟨hv,rfl⟩;refine J1 ?_;refine jp (kJ rfl Tryz.underlying141 ⟨_,Tryz.underlying99⟩ (r:=((r:Nat):Int)) (by exact pC _ ⟨rfl,oO,oO⟩) ?_);refine J2 ?_;refine jt ?_;refine rH rfl rfl rfl ?_;rw[mR hq]at hv;rw[hqd,hrd];exact⟨⟨v,rfl,hv⟩,hS.j5⟩
theorem IK (a x by_:Nat) (hb:by_<=32) (ha:a<2^by_):a|||(x*2^by_)%4294967296=a+(x*2^by_)%4294967296:=by
 have h:(4294967296:Nat)=2^(32-by_)*2^by_:=by rw[<-dy,eJ hb]
 rw[h,iU];exact uu _ _ _ ha
theorem EU (a x by_:Nat) (hb:by_<=32) (ha:a<2^by_):a+(x*2^by_)%4294967296<4294967296:=by
 have h:(4294967296:Nat)=2^(32-by_)*2^by_:=by rw[<-dy,eJ hb]
 have h1:(x*2^by_)%4294967296=x%2^(32-by_)*2^by_:=by rw[h,iU]
 have h2:x%2^(32-by_)+1<=2^(32-by_):=bG _ (cy dD);have h3:=aH (2^by_) h2;rw[<-h,bl]at h3;omega
theorem Ih (vx:Value) (X c n:Nat) (w:World) (hx:Sl (uk .u32) 1 w vx (kL X)) (hc:c<32) (hn:(kL X).length<=n) (hXn:X*2^c<kd^n) (hmx:n<=17592186044416):
  lW Tryz.prog 155 #[vx,.int .u64 c,.int .i64 n] w λr w'=>
   (∃b,r= .slice (some ⟨b,0,none⟩) n n/\w.heap.size<=b/\w'.heap[b]?=some (.cells (Kr .u32 (pad kd (X*2^c) n)).toArray 141 (0,0)))/\Below w.heap.size w w':=by
 have hS:=St.init w;obtain⟨m,hm⟩:=jz ((kL X).length);have hXm:X<kd^m:=hm▸lQ X;have hp2:2^c<=2^31:=bM dD oO;have hpos:0<2^c:=cy dD;refine enter Tryz.func155 rfl Tryz.ntmps155 rfl ?_;refine J2 ?_;refine jh (pV (n:=n) rfl rfl lr oO oO oO oO hS ?_);intro b1 wz2 hS hBz2;refine J2 ?_;refine jp (kj rfl (hx.j5 hS.j5) ⟨_,Tryz.underlying139⟩ ?_);refine V1 ?_;rw[<-oV kd n]at hS;refine kx (σ:=Nat) (λi ρ w'=>i<=m/\ρ 1= .int .u64 c/\ρ 2=iB n/\ρ 7= .slice (some ⟨b1,0,none⟩) n n/\ρ 13=vx/\ρ 14=iB m/\ρ 15=iB i/\St w w' [(b1,141,Kr .u32 (pad kd (X%kd^i*2^c) n))]) (λi=>m-i) 0
  ⟨ax _,rfl,rfl,rfl,rfl,vi rfl (by rw[hm]),rfl,by rw[cO,dX,fq];exact hS⟩ ?_
 clear hS;rintro i ρ w3 ⟨hi,h1,h2,h7,h13,h14,h15,hS⟩;refine V1 ?_;by_cases hlt:i<m
 ·refine V1 ?_;have hil:i<(kL X).length:=oO;have x1:=lY X i;refine J1 ?_;refine jp (kp (i:=i) h13 h15 (hx.j5 hS.j5) oO dO lr (jq (ky (i:=i) 0 rfl kK (hx.j5 hS.j5) dO rfl rfl (.inr rfl) ?_)));refine V2 ?_;rw[me];obtain⟨x,hxd⟩:=jz (kS kd X i);rw[<-hxd]at x1⊢;have hx2:x*2^c<=4294967295*2^31:=fb x1 hp2;obtain⟨V,hV⟩:=jz (X%kd^i*2^c);have hVs:X%kd^(i+1)*2^c=V+kd^i*(x*2^c):=by rw[mod_pow_succ,bl,<-hV,bf,hxd]
  have hVlt:V<kd^i*2^c:=by rw[hV];exact db (si dD X i) hpos
  have hBi:0<kd^i:=cy dD;have hVd:V/kd^i<2^c:=dc hVlt;have hVb:V<kd^(i+1):=by
   have:kd^i*2^c<=kd^i*kd:=bn _ (by unfold kd;omega);rw[bA];omega
  have hdg:kS kd V i=V/kd^i:=rC dD hVb;have hfit:=EU (V/kd^i) x c oO hVd;have hget:(pad kd V n).getD i 0=V/kd^i:=by rw[nY _ _ oO,hdg]
  rw[<-hV]at hS;have hsplit:=cH (x*2^c) 4294967296;have hlow:V+kd^i*((x*2^c)%4294967296)<kd^(i+1):=by
   have h8:=cH V (kd^i);have h9:=bG V hBi;have h10:kd^i*(V/kd^i+(x*2^c)%4294967296+1)<=kd^i*kd:=bn _ hfit;rw[aW,aW]at h10;rw[bA];omega
  refine J1 ?_;refine jp (kJ rfl Tryz.underlying99 ⟨_,Tryz.underlying141⟩ (r:=((x:Nat):Int)) (by exact kZ _ ⟨rfl,oO,oO⟩) ?_);refine J1 ?_;refine jp (uV rfl rfl oO (uW x c ((x*2^c:Nat):Int) (by show c<=64;omega) (kZ _ ⟨rfl,oO,oO⟩)) ?_);refine J3 ?_;refine jp (kF (i:=i) rfl rfl oO dO lr (jq (nS (k:=0) (i:=i) rfl kK hS rfl oO dO ?_)));refine J1 ?_;refine jp (kJ rfl Tryz.underlying141 ⟨_,Tryz.underlying99⟩ (ss _) (jp (zc rfl rfl (r:=((V/kd^i+(x*2^c)%4294967296:Nat):Int)) (by rw[hget,<-IK _ _ _ oO hVd];exact rM rfl _ _ (by show _<4294967296;omega) (by show _<4294967296;omega)) (jp (kF (i:=i) rfl rfl oO dO lr (jh (pj (k:=0) (i:=i) (a:=_) rfl rfl rfl kK hS rfl oO dO ?_)))))));intro wz3 hS;refine ja ?_;have hset:=zg (b:=kd) (v:=V) (n:=n) (k:=i) (x:=(x*2^c)%4294967296) dD hVb hlow;rw[hdg]at hset;rw[show [(b1,141,Kr IntKind.u32 (pad kd V n))].set 0 (b1,141,Kr IntKind.u32 ((pad kd V n).set i (V/kd^i+(x*2^c)%4294967296)))=[(b1,141,Kr IntKind.u32 ((pad kd V n).set i (V/kd^i+(x*2^c)%4294967296)))]from rfl,hset]at hS;refine V4 ?_;have hnext:V+kd^i*((x*2^c)%4294967296)+kd^(i+1)*(x*2^c/4294967296)=X%kd^(i+1)*2^c:=by
   have:kd^(i+1)*(x*2^c/4294967296)=kd^i*(4294967296*(x*2^c/4294967296)):=by rw[bA,bf]
   rw[hVs,this,dR,<-aW];congr 2;omega
  have hhi:x*2^c/4294967296<2147483648:=oO;by_cases hlt2:i+1<n
  ·refine V1 ?_;have hget2:(pad kd (V+kd^i*((x*2^c)%4294967296)) n).getD (i+1) 0=0:=by rw[nY _ _ hlt2,ub hlow]
   refine J3 ?_;refine jp (kF (i:=i+1) rfl rfl oO dO lr (jq (nS (k:=0) (i:=i+1) rfl kK hS rfl oO dO ?_)));refine J1 ?_;refine jp (pX rfl rfl oO (r:=((x*2^c/4294967296:Nat):Int)) (by exact qp _ 32 dD) (jp (kJ rfl Tryz.underlying141 ⟨_,Tryz.underlying99⟩ (r:=((x*2^c/4294967296:Nat):Int)) (by exact pC _ ⟨rfl,oO,oO⟩) (jp (zc rfl rfl (r:=((x*2^c/4294967296:Nat):Int)) (by rw[hget2,rM rfl _ _ dD (by show _<4294967296;omega),Nat.zero_or]) (jp (kF (i:=i+1) rfl rfl oO dO lr (jh (pj (k:=0) (i:=i+1) (a:=_) rfl rfl rfl kK hS rfl oO dO ?_)))))))));intro wz4 hS;refine ja ?_;obtain⟨e1,e2⟩:=xK (b:=kd) (r:=V+kd^i*((x*2^c)%4294967296)) (i:=i+1) (d:=x*2^c/4294967296) (n:=n) dD hlow (by unfold kd;omega);rw[e1,hnext]at hS;refine V2 ?_;exact⟨i+1,_,rfl,⟨hlt,h1,h2,h7,h13,h14,vi rfl oO,hS⟩,oO⟩
  ·refine V1 ?_;have hz:x*2^c/4294967296=0:=by
    rcases dh (x*2^c/4294967296)with h|h
    ·exact h
    ·exfalso;have g1:kd^(i+1)*1<=kd^(i+1)*(x*2^c/4294967296):=bn _ h;have g2:X%kd^(i+1)*2^c<=X*2^c:=aH _ (Nat.mod_le _ _);have g3:kd^n<=kd^(i+1):=bM dD oO;omega
   rw[hz,eP,d9]at hnext;rw[hnext]at hS;refine V2 ?_;exact⟨i+1,_,rfl,⟨hlt,h1,h2,h7,h13,h14,vi rfl oO,hS⟩,oO⟩
 ·refine J1 ?_;refine jt ?_;obtain rfl:i=m:=oO;rw[aZ hXm]at hS;refine J2 ?_;refine jt ?_;refine kD rfl rfl ?_;exact⟨⟨b1,rfl,hS.ge (k:=0) rfl,hS.get (k:=0) rfl⟩,hS.j5⟩
theorem A8 (R c i:Nat) (hc:c<=32):(kS kd R i+kS kd R (i+1)*4294967296)/2^c%4294967296=kS kd (R/2^c) i:=by
 have h1:R/kd^i=4294967296*(R/kd^(i+1))+kS kd R i:=ph kd R i;have h2:R/kd^(i+1)=4294967296*(R/kd^(i+2))+kS kd R (i+1):=ph kd R (i+1);have h3:(4294967296:Nat)=2^(32-c)*2^c:=by rw[<-dy,eJ hc]
 have hpos:0<2^c:=cy dD;have h4:kS kd (R/2^c) i=R/kd^i/2^c%4294967296:=by
  unfold kS;rw[cQ,cQ,bF]
 have h5:R/kd^i=kS kd R i+kS kd R (i+1)*4294967296+2^c*(2^(32-c)*(4294967296*(R/kd^(i+2)))):=by
  rw[<-bf (2^c),bF (2^c),<-h3,h1,h2];omega
 rw[h4,h5,cU _ _ hpos];rw[show 2^(32-c)*(4294967296*(R/kd^(i+2)))=4294967296*(2^(32-c)*(R/kd^(i+2))) by ac_rfl,eD]
theorem Ja (vx:Value) (R c n:Nat) (w:World) (hx:Sl (uk .u32) 1 w vx (pad kd R n)) (hc:c<32) (hRn:R<kd^n) (hmx:n<=17592186044416):
  lW Tryz.prog 157 #[vx,.int .u64 c] w λr w'=>Sl (uk .u32) 1 w' r (kL (R/2^c))/\Below w.heap.size w w':=by
 have hS:=St.init w;have hlen:(pad kd R n).length=n:=pad_length _ _ _;refine enter Tryz.func157 rfl Tryz.ntmps157 rfl ?_;refine J2 ?_;refine jp (kj rfl (hx.j5 hS.j5) ⟨_,Tryz.underlying139⟩ (jh (pV (n:=n) rfl rfl lr oO oO oO oO hS ?_)));intro b1 wz2 hS hBz2;refine J2 ?_;refine jp (kj rfl (hx.j5 hS.j5) ⟨_,Tryz.underlying139⟩ ?_);refine V1 ?_;rw[<-oV kd n,show 0=R/2^c%kd^0 by rw[cO,dX]]at hS;refine kx (σ:=Nat) (λi ρ w'=>i<=n/\ρ 0=vx/\ρ 1= .int .u64 c/\ρ 5= .slice (some ⟨b1,0,none⟩) n n/\ρ 12=iB n/\ρ 13=iB i/\St w w' [(b1,141,Kr .u32 (pad kd (R/2^c%kd^i) n))]) (λi=>n-i) 0
  ⟨ax _,rfl,rfl,rfl,vi rfl (by rw[hlen]),rfl,hS⟩ ?_
 clear hS;rintro i ρ w3 ⟨hi,h0,h1,h5,h12,h13,hS⟩;refine V1 ?_;by_cases hlt:i<n
 ·refine V1 ?_;have x1:=lY R i;have x2:=lY R (i+1);have hg1:(pad kd R n).getD i 0=kS kd R i:=nY _ _ hlt;refine J4 ?_;refine jp (kp (i:=i) rfl rfl (hx.j5 hS.j5) oO dO lr (jq (ky (i:=i) 0 rfl kK (hx.j5 hS.j5) dO rfl rfl (.inr rfl) (jp (kJ rfl Tryz.underlying99 ⟨_,Tryz.underlying141⟩ (r:=((kS kd R i:Nat):Int)) (by rw[hg1];exact kZ _ ⟨rfl,oO,oO⟩) ?_)))));refine J4 ?_;refine jp (kj rfl (hx.j5 hS.j5) ⟨_,Tryz.underlying139⟩ ?_);refine V1 ?_;refine kz (λρ w'=>ρ 0=vx/\ρ 1= .int .u64 c/\ρ 5= .slice (some ⟨b1,0,none⟩) n n/\ρ 6=iB i/\ρ 7= .int .u64 (kS kd R i+kS kd R (i+1)*4294967296:Nat)/\ρ 12=iB n/\ρ 13=iB i/\w3=w') ?_ ?_
  ·by_cases hlt2:i+1<n
   ·refine V1 ?_;have hg2:(pad kd R n).getD (i+1) 0=kS kd R (i+1):=nY _ _ hlt2;refine J4 ?_;refine jp (kp (i:=i+1) rfl rfl (hx.j5 hS.j5) oO dO lr (jq (ky (i:=i+1) 0 rfl kK (hx.j5 hS.j5) dO rfl rfl (.inr rfl) (jp (kJ rfl Tryz.underlying99 ⟨_,Tryz.underlying141⟩ (r:=((kS kd R (i+1):Nat):Int)) (by rw[hg2];exact kZ _ ⟨rfl,oO,oO⟩) (jp (uV rfl rfl oO (r:=((kS kd R (i+1)*2^32:Nat):Int)) (by exact uW _ 32 _ dD (kZ _ ⟨rfl,oO,oO⟩)) (jp (zc rfl rfl (r:=((kS kd R i+kS kd R (i+1)*2^32:Nat):Int)) (by rw[<-uu _ _ 32 oO];exact rM rfl _ _ (by show _<18446744073709551616;omega) (by show _<18446744073709551616;omega)) ?_)))))))));refine V1 ?_;exact⟨_,rfl,h0,h1,h5,rfl,rfl,h12,h13,rfl⟩
   ·refine V1 ?_;refine⟨_,rfl,h0,h1,h5,rfl,vi rfl ?_,h12,h13,rfl⟩;have:kS kd R (i+1)=0:=ub (dq hRn (bM dD oO));rw[this];simp
  clear h0 h1 h5 h12 h13;rintro ρ w' ⟨h0,h1,h5,h6,h7,h12,h13,rfl⟩;obtain⟨t,ht⟩:=jz (kS kd R i+kS kd R (i+1)*4294967296);rw[<-ht]at h7;refine J4 ?_;refine jp (pX rfl rfl oO (qp _ _ (show c<=64 by omega)) (jp (kJ rfl Tryz.underlying141 ⟨_,Tryz.underlying99⟩ (ss _) (jp (kF (i:=i) rfl rfl oO dO lr (jh (pj (k:=0) (i:=i) (a:=_) rfl rfl rfl kK hS rfl oO dO ?_)))))));intro wz3 hS;refine ja ?_;rw[ht,A8 R c i oO,B5 dD]at hS;refine V2 ?_;exact⟨i+1,_,rfl,⟨hlt,h0,h1,h5,h12,vi rfl oO,hS⟩,oO⟩
 ·refine J1 ?_;refine jt ?_;obtain rfl:i=n:=oO;have hlt3:R/2^c<kd^i:=bY (dz _ _) hRn;rw[aZ hlt3]at hS;have hsl:=hS.IS (k:=0) rfl (n:=i) (cap:=i) (by simp) (aB _) oO;rw[aU (by simp)]at hsl;refine J1 ?_;refine jh (j7 Tryz.call112 rfl (xM _ _ _ hsl (ti dD _ _)) ?_);rintro v w4 ⟨hv,rfl⟩;refine J1 ?_;refine jt ?_;refine kD rfl rfl ?_;rw[mR hlt3]at hv;exact⟨hv,hS.j5⟩
structure Kn (a b U D top u2 d1 d2:Nat):Prop where
 ha:0<a
 hu:U/a=top*b+u2
 hd:D/a=d1*b+d2
 hu2:u2<b
 hd2:d2<b
 h1:0<d1
 hb:b<=2*d1
 hlt:U<D*b
namespace Kn
variable {a b U D top u2 d1 d2 : Nat}
theorem q_lt (h:Kn a b U D top u2 d1 d2):U/D<b:=by
 have hlt:=h.hlt;exact dc hlt
theorem dpos (h:Kn a b U D top u2 d1 d2):0<D:=by
 rcases dh D with h0|h0
 ·have:=h.hlt;rw[h0]at this;omega
 ·exact h0
theorem qT (h:Kn a b U D top u2 d1 d2):U/D*(d1*b+d2)<=top*b+u2:=by
 rw[<-h.hd,<-h.hu];have ha:=h.ha;have h1:U/D*(D/a)*a<=U:=by
  calc U/D*(D/a)*a=U/D*(D/a*a):=bf _ _ _
   _<=U/D*D:=bn _ (gW _ _)
   _<=U:=gW _ _
 exact(dY ha).2 h1
theorem q_le_top (h:Kn a b U D top u2 d1 d2):U/D<=top/d1:=by
 have h1:=h.qT;rw[aW,<-bf]at h1;have hu2:=h.hu2;have hb:0<b:=oO;have h2:U/D*d1*b<(top+1)*b:=by rw[bl];omega
 have h3:U/D*d1<top+1:=Nat.lt_of_mul_lt_mul_right h2;exact(dY h.h1).2 oO
theorem refuted (h:Kn a b U D top u2 d1 d2) {g r:Nat} (hg:g*d1+r=top) (hq:U/D<=g) (hc:r*b+u2<g*d2):U/D<g:=by
 rcases bH (U/D) g with h1|h1
 ·exact h1
 ·exfalso;have h2:U/D=g:=oO;have h3:=h.qT;rw[h2,aW,<-bf,<-hg,bl]at h3;omega
theorem near (h:Kn a b U D top u2 d1 d2) {g r:Nat} (hg:g*d1+r=top) (hgb:g<b) (hc:g*d2<=r*b+u2):g<=U/D+1:=by
 have h1:g*(d1*b+d2)<=top*b+u2:=by
  rw[aW,<-bf,<-hg,bl];omega
 rw[<-h.hd,<-h.hu]at h1;have ha:=h.ha;have hD:=cH D a;have hDl:=bG D ha;have h2:g*(D/a)*a<=U:=dt (aH _ h1) (gW _ _);have h3:b*a<=D:=by
  have h5:b*a<=D/a*a:=by
   refine aH _ ?_;rw[h.hd];have:1*b<=d1*b:=aH _ h.h1;omega
  exact dt h5 (gW _ _)
 have h4:g*D<=U+D:=by
  have e:g*D=g*(D/a)*a+g*(D%a):=by
   conv=>lhs;rw[<-hD]
   rw[aW,bf,bF a]
  have f:g*(D%a)<=b*a:=fb (fP hgb) (fP hDl);omega
 have h6:(g-1)*D<=U:=by rw[Nat.sub_mul,dG];omega
 have:=(dY h.dpos).2 h6;omega
theorem rest (h:Kn a b U D top u2 d1 d2) {g r:Nat} (hg:g*d1+r=top) (hgb:g<=b) (hr:b<=r):g<=U/D:=by
 have hb0:0<b:=by have:=h.hd2;omega
 have ha:=h.ha;have hu:U/(a*b)=top:=by rw[<-cQ,h.hu,bF,iR hb0,bS h.hu2,d9]
 have hd:D/(a*b)=d1:=by rw[<-cQ,h.hd,bF,iR hb0,bS h.hd2,d9]
 have hab:0<a*b:=dH ha hb0;have h1:=cH D (a*b);have h2:=bG D hab;have h3:a*b*top<=U:=by rw[<-hu];exact Nat.mul_div_le _ _
 rw[hd]at h1;have h4:g*D<=U:=by
  have e:g*D=a*b*(g*d1)+g*(D% (a*b)):=by
   conv=>lhs;rw[<-h1]
   rw[aW];ac_rfl
  have f:g*(D% (a*b))<=b*(a*b):=fb hgb (fP h2);have k:a*b*(g*d1+b)<=a*b*top:=bn _ oO;rw[aW,bF (a*b) b]at k;omega
 exact(dY h.dpos).2 h4
theorem top_le (h:Kn a b U D top u2 d1 d2):top<d1*b+b:=by
 have hb0:0<b:=by have:=h.hd2;omega
 have ha:=h.ha;have hu:U/(a*b)=top:=by rw[<-cQ,h.hu,bF,iR hb0,bS h.hu2,d9]
 have hd:D/(a*b)=d1:=by rw[<-cQ,h.hd,bF,iR hb0,bS h.hd2,d9]
 have hab:0<a*b:=dH ha hb0;rw[<-hu];refine dc (dq h.hlt ?_);have h1:=cH D (a*b);have h2:=bG D hab;rw[hd]at h1;have h3:D<=a*b*(d1+1):=by rw[aW];omega
 calc D*b<=a*b*(d1+1)*b:=aH _ h3
  _=a*b*(d1*b+b):=by rw[bf,bl,dG]
end Kn
theorem Gh {b:Nat} (hb:0<b) {lo o:Nat} (hlo:lo<b^o) (X j:Nat):kS b (lo+b^o*X) (o+j)=kS b X j:=by
 unfold kS;rw[dy,<-cQ,cU _ _ (cy hb),bS hlo,bZ]
theorem po {b lo X o k d n:Nat} (hb:2<=b) (hlo:lo<b^o) (hd:d<b) (hk:o+k<n):
  ∃X',(pad b (lo+b^o*X) n).set (o+k) d=pad b (lo+b^o*X') n/\X'+b^k*kS b X k=X+b^k*d/\(∀m,k<m->X<b^m->X'<b^m):=by
 have hb':0<b:=oO;obtain⟨v',e1,e2,e3⟩:=FY (b:=b) (v:=lo+b^o*X) (k:=o+k) (d:=d) (n:=n) hb hd hk;rw[Gh hb' hlo,dy,bf,bf]at e2;have hpos:0<b^o:=cy hb';have hdv:v'/b^o=X+b^k*d-b^k*kS b X k/\v'%b^o=lo/\b^k*kS b X k<=X+b^k*d:=by
  have hle:b^k*kS b X k<=X:=by
   have:=Ea b X k;rw[aW]at this;generalize X%b^k=z at this;omega
  have:v'=lo+b^o*(X+b^k*d-b^k*kS b X k):=by
   rw[Nat.mul_sub,aW];have:b^o*(b^k*kS b X k)<=b^o*X:=bn _ hle;omega
  rw[this,cU _ _ hpos,bS hlo,bZ,eD,aZ hlo];exact⟨rfl,rfl,oO⟩
 obtain⟨f1,f2,f3⟩:=hdv;refine⟨X+b^k*d-b^k*kS b X k,?_,oO,λm hm hX=> ?_⟩
 ·rw[e1,<-f1];congr 1;have:=fk v' (b^o);rw[f2]at this;exact this.symm
 ·have h1:lo+b^o*X<b^(o+m):=by
   rw[dy];have:b^o*(X+1)<=b^o*b^m:=bn _ hX;rw[aW]at this;omega
  have h2:=e3 (o+m) oO h1;rw[<-f1];rw[dy]at h2;exact dc h2
open Go Go.RowKit Go.Sx
theorem Kn.of (n U D:Nat) (hn:2<=n) (hD:D<kd^n) (hD2:kd^n<=2*D) (hU:U<D*kd):
  Kn (kd^(n-2)) kd U D (kS kd U n*kd+kS kd U (n-1)) (kS kd U (n-2)) (kS kd D (n-1)) (kS kd D (n-2)):=by
 have hU1:U<kd^(n+1):=by
  rw[bA];exact iO hU (db hD dD)
 have e1:=ph kd U (n-2);have e2:=ph kd U (n-1);rw[show n-2+1=n-1 by omega]at e1;rw[show n-1+1=n by omega]at e2;have e3:U/kd^n=kS kd U n:=(rC dD hU1).symm;have f1:=ph kd D (n-2);rw[show n-2+1=n-1 by omega]at f1;have f2:D/kd^(n-1)=kS kd D (n-1):=(rC dD (by rw[show n-1+1=n by omega];exact hD)).symm;have hp:0<kd^(n-1):=cy dD;have hb:kd<=2*kS kd D (n-1):=by
  rw[<-f2];have g1:=cH D (kd^(n-1));have g2:=bG D hp;have g3:kd^n=kd^(n-1)*kd:=by rw[<-bA];congr 1;omega
  have g4:kd^(n-1)*kd<kd^(n-1)*(2*(D/kd^(n-1))+2):=by
   rw[aW,io];omega
  have g5:=Nat.lt_of_mul_lt_mul_left g4;have hB:kd=4294967296:=rfl;omega
 refine⟨cy dD,?_,?_,qO dD _ _,qO dD _ _,?_,hb,hU⟩
 ·rw[e1,e2,e3,bF,bF kd]
 ·rw[f1,f2,bF]
 ·have hB:kd=4294967296:=rfl;omega
theorem Cn (x t bb:Nat) (hx:x<=4294967295) (ht:t<=4294967295) (hb:bb<=1):
  (x+2*kd-t-bb)%kd+t+bb=x+4294967296*(if x<t+bb then 1 else 0):=by
 have hB:kd=4294967296:=rfl;obtain⟨D,hD⟩:=jz (x+2*kd-t-bb);rw[<-hD];have hD2:D+t+bb=x+8589934592:=oO;clear hD;show D%4294967296+t+bb=_;rcases bH x (t+bb)with h|h
 ·rw[aj h];omega
 ·rw[ah oO];omega
theorem Su (w0 w:World) (H:List kV) (bu bd o cap n m1 lo U D:Nat)
  (hS:St w0 w ((bu,141,Kr .u32 (pad kd (lo+kd^o*U) m1))::(bd,141,Kr .u32 (pad kd D n))::H))
  (hlo:lo<kd^o) (hn:2<=n) (hD:D<kd^n) (hD2:kd^n<=2*D) (hU:U<D*kd) (hom:o+n+1<=m1) (hm:m1<=17592186044416):
  lW Tryz.prog 156 #[.slice (some ⟨bu,o,none⟩) (n+1) cap,.slice (some ⟨bd,0,none⟩) n n] w λr w'=>r= .int .u32 (U/D:Nat)/\
   St w0 w' ((bu,141,Kr .u32 (pad kd (lo+kd^o*(U%D)) m1))::(bd,141,Kr .u32 (pad kd D n))::H):=by
 have hB:kd=4294967296:=rfl;have hkn:=Kn.of n U D hn hD hD2 hU;have hq:=hkn.q_lt;have hU1:U<kd^(n+1):=by
  rw[bA];exact iO hU (db hD dD)
 have hgU:∀X j,j<=n->(pad kd (lo+kd^o*X) m1).getD (o+j) 0=kS kd X j:=λX j hj=>by rw[nY _ _ oO,Gh dD hlo]
 have hgD:∀j,j<n->(pad kd D n).getD j 0=kS kd D j:=λj hj=>nY _ _ hj;have hgd1:=hgD (n-1) oO;have hgd2:=hgD (n-2) oO;have a0:=lY U n;have a1:=lY U (n-1);have a2:=lY U (n-2);have c1:=lY D (n-1);have c2:=lY D (n-2);have hd1:=hkn.h1;obtain⟨top,htop⟩:=jz (kS kd U n*kd+kS kd U (n-1));have htop2:top=kS kd U (n-1)+kS kd U n*2^32:=by rw[htop,dK]
 have hor:kS kd U n*2^32|||kS kd U (n-1)=top:=by rw[gh,uu _ _ _ oO,htop2]
 have htl:top<=18446744073709551615:=by rw[htop];omega
 refine enter Tryz.func156 rfl Tryz.ntmps156 rfl ?_;refine V4 ?_;refine kE [jo 0,jo 1,jo 2,ju 3,jo 4,jo 5,jo 6,jo 7,jo 8,jo 9,ju 10,jo 11,jo 12,jo 13] kR kR hS ?_;intro wz1 hS hBz1;refine J2 ?_;refine jl rfl (kF (i:=n) rfl rfl oO dO lr (jm rfl (nS (k:=0) (i:=o+(n)) rfl kK hS rfl oO dO (jl rfl (kJ rfl Tryz.underlying99 ⟨_,Tryz.underlying141⟩ (r:=((kS kd U n:Nat):Int)) (by rw[hgU U n oO];exact kZ _ ⟨rfl,oO,oO⟩) (jl rfl (uV rfl rfl oO (r:=((kS kd U n*2^32:Nat):Int)) (by exact uW _ 32 _ dD (kZ _ ⟨rfl,oO,oO⟩)) ?_)))))));refine J3 ?_;refine jl rfl (kF (i:=n-1) rfl rfl oO dO lr (jm rfl (nS (k:=0) (i:=o+(n-1)) rfl kK hS rfl oO dO (jl rfl (kJ rfl Tryz.underlying99 ⟨_,Tryz.underlying141⟩ (r:=((kS kd U (n-1):Nat):Int)) (by rw[hgU U (n-1) oO];exact kZ _ ⟨rfl,oO,oO⟩) (jl rfl (zc rfl rfl (r:=((top:Nat):Int)) (by rw[<-hor];exact rM rfl _ _ (by show _<18446744073709551616;omega) (by show _<18446744073709551616;omega)) ?_)))))));refine V1 ?_;refine kE [jo 0,jo 1,jo 2,jo 3,jo 4,ju 5,jo 6,jo 7,jo 8,jo 9,jo 10,jo 11,jo 12,ju 13,jo 14,jo 15,jo 16,jo 17] kR kR hS ?_;intro wz2 hS hBz2;refine J4 ?_;refine jl rfl (kF (i:=n-1) rfl rfl oO dO lr (jm rfl (nS (k:=1) (i:=n-1) rfl kK hS rfl oO dO (jl rfl (kJ rfl Tryz.underlying99 ⟨_,Tryz.underlying141⟩ (r:=((kS kd D (n-1):Nat):Int)) (by rw[hgd1];exact kZ _ ⟨rfl,oO,oO⟩) (jl rfl (sF rfl rfl oO (r:=((top/kS kd D (n-1):Nat):Int)) (by rw[i5 _ _ oO];push_cast;rfl) ?_)))))));refine J4 ?_;refine jl rfl (kF (i:=n-1) rfl rfl oO dO lr (jm rfl (nS (k:=1) (i:=n-1) rfl kK hS rfl oO dO (jl rfl (kJ rfl Tryz.underlying99 ⟨_,Tryz.underlying141⟩ (r:=((kS kd D (n-1):Nat):Int)) (by rw[hgd1];exact kZ _ ⟨rfl,oO,oO⟩) (jl rfl (pY rfl rfl oO (r:=((top%kS kd D (n-1):Nat):Int)) (by rw[ff oO];push_cast;rfl) ?_)))))));refine J2 ?_;refine jb ?_;refine kz (λρ w'=>∃g,g<kd/\U/D<=g/\g<=U/D+1/\ρ 0= .slice (some ⟨bu,o,none⟩) (n+1) cap/\ρ 1= .slice (some ⟨bd,0,none⟩) n n/\ρ 5=iB n/\ρ 7= .int .u64 g/\
   St w0 w' ((bu,141,Kr .u32 (pad kd (lo+kd^o*U) m1))::(bd,141,Kr .u32 (pad kd D n))::H)) ?_ ?_
 ·refine ja ?_;refine kx (σ:=Nat×Nat) (λs ρ w'=>s.1*kS kd D (n-1)+s.2=top/\U/D<=s.1/\s.2<kd/\ρ 0= .slice (some ⟨bu,o,none⟩) (n+1) cap/\ρ 1= .slice (some ⟨bd,0,none⟩) n n/\ρ 5=iB n/\ρ 7= .int .u64 s.1/\ρ 8= .int .u64 s.2/\
    St w0 w' ((bu,141,Kr .u32 (pad kd (lo+kd^o*U) m1))::(bd,141,Kr .u32 (pad kd D n))::H)) (λs=>s.1) (top/kS kd D (n-1),top%kS kd D (n-1))
   ⟨by simp only;rw[bF];exact cH _ _,by simp only;rw[htop];exact hkn.q_le_top,by simp only;have:=bG top hd1;omega,rfl,rfl,rfl,rfl,rfl,hS⟩ ?_
  clear hS;rintro⟨g,r⟩ ρ w3 ⟨hinv,hgq,hr,h0,h1,h5,h7,h8,hS⟩;simp only at hinv hgq hr h0 h1 h5 h7 h8 hS;have hgt:g<=top:=by
   have:g*1<=g*kS kd D (n-1):=bn _ hd1;omega
  refine ja ?_;by_cases hgB:kd<=g
  ·refine ja ?_;refine kE [jo 0,jo 1,jo 2,jo 3,jo 4,jo 5,jo 6,jo 7,ju 8,jo 9,jo 10,jo 11,jo 12,jo 13,jo 14,jo 15,jo 16,ju 17,jo 18,jo 19,jo 20,jo 21] kR kR hS ?_;intro wz3 hS hBz3;refine J3 ?_;refine nU rfl (kb 50 kR rfl dT) (nU rfl (kb 50 kR rfl dT) (nU rfl (kb 50 kR rfl dT) (nU rfl (kb 50 kR rfl dT) (nU rfl (kb 50 kR rfl dT) (nU rfl (kb 50 kR rfl dT) (nU rfl (kb 50 kR rfl dT) (nU rfl (kb 50 kR rfl dT) (nU rfl (kb 50 kR rfl dT) (nU rfl (kb 50 kR rfl dT) (nU rfl (kb 50 kR rfl dT) (nU rfl (kb 50 kR rfl dT) (nU rfl (kb 50 kR rfl dT) (nU rfl (kb 50 kR rfl dT) ?_)))))))))))));refine nU rfl (kb 50 kR rfl dT) (nU rfl (kb 50 kR rfl dT) (nU rfl (kb 50 kR rfl dT) (nU rfl (kb 50 kR rfl dT) (jl rfl (kC (vb rfl dT) rfl ?_)))));refine ja ?_;refine k9 rfl (rfl) ?_;refine ja ?_;have hgq2:U/D<g:=oO;have hg0:0<g:=bY (ax _) hgq2;have hg1:U/D<=g-1:=gN hgq2;refine V3 ?_;have hgd:(g-1)*kS kd D (n-1)+(r+kS kd D (n-1))=top:=by
    obtain⟨g',rfl⟩:∃g',g=g'+1:=⟨g-1,oO⟩;rw[bl,dG]at hinv;rw[ic];omega
   refine J4 ?_;refine jp (kF (i:=n-1) rfl rfl oO dO lr (jq (nS (k:=1) (i:=n-1) rfl kK hS rfl oO dO (jp (kJ rfl Tryz.underlying99 ⟨_,Tryz.underlying141⟩ (r:=((kS kd D (n-1):Nat):Int)) (by rw[hgd1];exact kZ _ ⟨rfl,oO,oO⟩) (jp (pe rfl rfl (r:=((r+kS kd D (n-1):Nat):Int)) (by exact kZ _ ⟨by push_cast;rfl,oO,oO⟩) ?_)))))));refine V3 ?_;by_cases hbrk:kd<=r+kS kd D (n-1)
   ·refine J1 ?_;refine jt ?_;have hgB:g-1<kd:=by
     rcases bH (g-1) kd with h|h
     ·exact h
     ·exfalso;have h1:kd*kS kd D (n-1)<=(g-1)*kS kd D (n-1):=aH _ h;have h2:=hkn.top_le;rw[<-htop,bF]at h2;omega
    have hgq:=hkn.rest (by rw[<-htop];exact hgd) oO hbrk;exact⟨_,rfl,g-1,hgB,hg1,oO,h0,h1,h5,vi rfl oO,hS⟩
   ·refine V1 ?_;refine⟨(g-1,r+kS kd D (n-1)),_,rfl,⟨hgd,hg1,by simp only;omega,h0,h1,h5,vi rfl (by simp only;omega),rfl,hS⟩,by simp only;omega⟩
  ·have hgd2':g*kS kd D (n-2)<=4294967295*4294967295:=fb oO c2;have hor2:r*2^32|||kS kd U (n-2)=r*4294967296+kS kd U (n-2):=by rw[gh,uu _ _ _ oO,dK]
   refine ja ?_;refine kE [jo 0,jo 1,jo 2,jo 3,jo 4,jo 5,jo 6,jo 7,ju 8,jo 9,jo 10,jo 11,jo 12,jo 13,jo 14,jo 15,jo 16,ju 17,jo 18,jo 19,jo 20,jo 21] kR kR hS ?_;intro wz4 hS hBz4;refine J3 ?_;refine kU rfl (j8 50 kR rfl dF) (ks h7 (kU rfl (j8 50 kR rfl dF) (ks h1 (kU rfl (j8 50 kR rfl dF) (ks h5 (kU rfl (j8 50 kR rfl dF) (sG rfl rfl (cx _ oO) (kU rfl (j8 50 kR rfl dF) (kF (i:=n-2) rfl rfl oO dO lr (nl rfl (j8 50 kR rfl dF) (nS (k:=1) (i:=n-2) rfl kK hS rfl oO dO (kU rfl (j8 50 kR rfl dF) (kJ rfl Tryz.underlying99 ⟨_,Tryz.underlying141⟩ (r:=((kS kd D (n-2):Nat):Int)) (by rw[hgd2];exact kZ _ ⟨rfl,oO,oO⟩) (kU rfl (j8 50 kR rfl dF) (ws rfl rfl (r:=((g*kS kd D (n-2):Nat):Int)) (by exact kZ _ ⟨by push_cast;rfl,oO,oO⟩) (kU rfl (j8 50 kR rfl dF) (ks h8 (kU rfl (j8 50 kR rfl dF) (uV rfl rfl oO (r:=((r*2^32:Nat):Int)) (by exact uW _ 32 _ dD (kZ _ ⟨rfl,oO,oO⟩)) (kU rfl (j8 50 kR rfl dF) (ks h0 (kU rfl (j8 50 kR rfl dF) (ks h5 (kU rfl (j8 50 kR rfl dF) (sG rfl rfl (cx _ oO) (kU rfl (j8 50 kR rfl dF) (kF (i:=n-2) rfl rfl oO dO lr ?_)))))))))))))))))))))))))));refine nl rfl (j8 50 kR rfl dF) (nS (k:=0) (i:=o+(n-2)) rfl kK hS rfl oO dO (kU rfl (j8 50 kR rfl dF) (kJ rfl Tryz.underlying99 ⟨_,Tryz.underlying141⟩ (r:=((kS kd U (n-2):Nat):Int)) (by rw[hgU U (n-2) oO];exact kZ _ ⟨rfl,oO,oO⟩) (kU rfl (j8 50 kR rfl dF) (zc rfl rfl (r:=((r*4294967296+kS kd U (n-2):Nat):Int)) (by rw[<-hor2];exact rM rfl _ _ (by show _<18446744073709551616;omega) (by show _<18446744073709551616;omega)) (kU rfl (j8 50 kR rfl dF) (uc rfl rfl (jl rfl (kC (vb rfl dF) rfl ?_)))))))));refine ja ?_;by_cases href:r*4294967296+kS kd U (n-2)<g*kS kd D (n-2)
   ·refine k9 rfl (ak (by exact_mod_cast href)) ?_;refine ja ?_;have hgq2:U/D<g:=hkn.refuted (by rw[<-htop];exact hinv) hgq href;have hg0:0<g:=bY (ax _) hgq2;have hg1:U/D<=g-1:=gN hgq2;refine V3 ?_;have hgd:(g-1)*kS kd D (n-1)+(r+kS kd D (n-1))=top:=by
     obtain⟨g',rfl⟩:∃g',g=g'+1:=⟨g-1,oO⟩;rw[bl,dG]at hinv;rw[ic];omega
    refine J4 ?_;refine jp (kF (i:=n-1) rfl rfl oO dO lr (jq (nS (k:=1) (i:=n-1) rfl kK hS rfl oO dO (jp (kJ rfl Tryz.underlying99 ⟨_,Tryz.underlying141⟩ (r:=((kS kd D (n-1):Nat):Int)) (by rw[hgd1];exact kZ _ ⟨rfl,oO,oO⟩) (jp (pe rfl rfl (r:=((r+kS kd D (n-1):Nat):Int)) (by exact kZ _ ⟨by push_cast;rfl,oO,oO⟩) ?_)))))));refine V3 ?_;by_cases hbrk:kd<=r+kS kd D (n-1)
    ·refine J1 ?_;refine jt ?_;have hgB:g-1<kd:=by
      rcases bH (g-1) kd with h|h
      ·exact h
      ·exfalso;have h1:kd*kS kd D (n-1)<=(g-1)*kS kd D (n-1):=aH _ h;have h2:=hkn.top_le;rw[<-htop,bF]at h2;omega
     have hgq:=hkn.rest (by rw[<-htop];exact hgd) oO hbrk;exact⟨_,rfl,g-1,hgB,hg1,oO,h0,h1,h5,vi rfl oO,hS⟩
    ·refine V1 ?_;refine⟨(g-1,r+kS kd D (n-1)),_,rfl,⟨hgd,hg1,by simp only;omega,h0,h1,h5,vi rfl (by simp only;omega),rfl,hS⟩,by simp only;omega⟩
   ·refine lx rfl (ae (by exact_mod_cast href)) ?_;refine jt ?_;have hnear:=hkn.near (by rw[<-htop];exact hinv) oO (iH href);exact⟨_,rfl,g,oO,hgq,hnear,h0,h1,h5,h7,hS⟩
 clear hS a0 a1 a2 c1 c2 hor htl htop2;rintro ρ w2 ⟨g,hgB,hq1,hq2,h0,h1,h5,h7,hS⟩;clear htop;refine J5 ?_;refine jb ?_;refine kz (λρ w'=>∃c bb X,c<=4294967295/\bb<=1/\X<kd^(n+1)/\X+g*D=U+kd^n*(c+bb)/\ρ 0= .slice (some ⟨bu,o,none⟩) (n+1) cap/\ρ 1= .slice (some ⟨bd,0,none⟩) n n/\ρ 5=iB n/\ρ 7= .int .u64 g/\ρ 9= .int .u64 (c:Nat)/\ρ 10= .int .u32 (bb:Nat)/\
   St w0 w' ((bu,141,Kr .u32 (pad kd (lo+kd^o*X) m1))::(bd,141,Kr .u32 (pad kd D n))::H)) ?_ ?_
 ·refine ja ?_;refine kx (σ:=Nat×Nat×Nat×Nat) (λs ρ w'=>s.1<=n/\s.2.1<=4294967295/\s.2.2.1<=1/\s.2.2.2<kd^(n+1)/\s.2.2.2+g*(D%kd^s.1)=U+kd^s.1*(s.2.1+s.2.2.1)/\ρ 0= .slice (some ⟨bu,o,none⟩) (n+1) cap/\ρ 1= .slice (some ⟨bd,0,none⟩) n n/\ρ 5=iB n/\ρ 7= .int .u64 g/\ρ 9= .int .u64 s.2.1/\ρ 10= .int .u32 s.2.2.1/\
    ρ 82= .slice (some ⟨bd,0,none⟩) n n/\ρ 83=iB n/\ρ 84=iB s.1/\
    St w0 w' ((bu,141,Kr .u32 (pad kd (lo+kd^o*s.2.2.2) m1))::(bd,141,Kr .u32 (pad kd D n))::H)) (λs=>n-s.1) (0,0,0,U)
   ⟨ax _,ax _,ax _,hU1,by simp[dX],h0,h1,h5,h7,rfl,rfl,rfl,rfl,rfl,hS⟩ ?_
  clear hS h0 h1 h5 h7;rintro⟨k,c,bb,X⟩ ρ w3 ⟨hk,hc,hbb,hX,hinv,h0,h1,h5,h7,h9,h10,h82,h83,h84,hS⟩;simp only at hk hc hbb hX hinv h0 h1 h5 h7 h9 h10 h82 h83 h84 hS;refine V1 ?_;by_cases hlt:k<n
  ·refine V1 ?_;have x1:=lY X k;have d1:=lY D k;have hgX:=hgU X k hk;obtain⟨u1,u2⟩:=yw g (kS kd D k) 0 c oO d1 oO hc;refine J1 ?_;refine jp (kF (i:=k) h82 h84 oO dO lr (jq (nS (k:=1) (i:=k) rfl kK hS rfl oO dO ?_)));refine V2 ?_;rw[hgD k hlt];refine J2 ?_;refine jp (kJ rfl Tryz.underlying99 ⟨_,Tryz.underlying141⟩ (r:=((kS kd D k:Nat):Int)) (by exact kZ _ ⟨rfl,oO,oO⟩) (jp (ws rfl rfl (r:=((g*kS kd D k:Nat):Int)) (by exact kZ _ ⟨by push_cast;rfl,oO,oO⟩) ?_)));refine J1 ?_;refine jp (pe rfl rfl (r:=((g*kS kd D k+c:Nat):Int)) (by exact kZ _ ⟨by push_cast;rfl,oO,oO⟩) ?_);refine V1 ?_;obtain⟨t,ht⟩:=jz (g*kS kd D k+c);rw[<-ht];have htl:t<=18446744073709551615:=oO;refine J1 ?_;refine jp (pX rfl rfl oO (r:=((t/4294967296:Nat):Int)) (by exact qp _ 32 dD) ?_);refine J5 ?_;refine jp (kF (i:=k) rfl rfl oO dO lr (jq (nS (k:=0) (i:=o+(k)) rfl kK hS rfl oO dO ?_)));refine J1 ?_;refine jp (kJ rfl Tryz.underlying141 ⟨_,Tryz.underlying99⟩ (ss _) ?_);refine J1 ?_;refine jh (j7 Tryz.call161 rfl (CU _ _ _ _ (by rw[hgX];omega) (bG _ dD) hbb) ?_);rintro v w4 ⟨rfl,rfl⟩;refine J3 ?_;refine jp (kF (i:=k) rfl rfl oO dO lr (jh (pj (k:=0) (i:=o+(k)) (a:=_) rfl rfl rfl kK hS rfl oO dO ?_)));intro wz5 hS;refine V1 ?_;obtain⟨u',hu'⟩:∃u',u'=(kS kd X k+2*kd-t%4294967296-bb)%kd:=⟨_,rfl⟩;obtain⟨b',hb'⟩:∃b',b'=if kS kd X k<t%4294967296+bb then 1 else 0:=⟨_,rfl⟩
   have hub:u'+t%4294967296+bb=kS kd X k+4294967296*b':=by
    rw[hu',hb'];exact Cn _ _ _ x1 oO hbb
   have hb1:b'<=1:=by rw[hb'];split<;>omega
   obtain⟨X',e1,e2,e3⟩:=po (b:=kd) (lo:=lo) (X:=X) (o:=o) (k:=k) (d:=u') (n:=m1) dD hlo (hu'▸bG _ dD) oO;rw[hgX,<-hu']at hS;rw[ec,e1]at hS;refine V2 ?_;refine⟨(k+1,t/4294967296,b',X'),_,rfl,⟨hlt,by simp only;omega,hb1,e3 _ oO hX,?_,h0,h1,h5,h7,rfl,vi rfl (by rw[hgX,hb']),h82,h83,vi rfl (by simp),hS⟩,by simp only;omega⟩;simp only;have f1:g*(D%kd^(k+1))=g*(D%kd^k)+kd^k*(g*kS kd D k):=by rw[mod_pow_succ,aW];congr 1;ac_rfl
   have f2:kd^(k+1)*(t/4294967296+b')=kd^k*(4294967296*(t/4294967296)+4294967296*b'):=by rw[bA,bf,<-aW]
   have f3:kS kd X k+(4294967296*(t/4294967296)+4294967296*b')=u'+(g*kS kd D k+c)+bb:=oO;have f4:kd^k*kS kd X k+kd^k*(4294967296*(t/4294967296)+4294967296*b')=kd^k*u'+kd^k*(g*kS kd D k)+kd^k*(c+bb):=by
    rw[<-aW,f3,<-aW,<-aW];congr 1;omega
   rw[f1,f2];omega
  ·refine J1 ?_;refine jt ?_;obtain rfl:k=n:=oO;rw[aZ hD]at hinv;exact⟨_,rfl,c,bb,X,hc,hbb,hX,hinv,h0,h1,h5,h7,h9,h10,hS⟩
 clear hS h0 h1 h5 h7;rintro ρ w3 ⟨c,bb,X,hc,hbb,hX,hinv,h0,h1,h5,h7,h9,h10,hS⟩;refine ja ?_;have x1:=lY X n;have hgX:=hgU X n (aB _);refine J4 ?_;refine jp (kF (i:=n) rfl rfl oO dO lr (jq (nS (k:=0) (i:=o+(n)) rfl kK hS rfl oO dO ?_)));refine J1 ?_;refine jp (kJ rfl Tryz.underlying141 ⟨_,Tryz.underlying99⟩ (r:=((c:Nat):Int)) (by exact pC _ ⟨rfl,oO,oO⟩) ?_);refine J1 ?_;refine jh (j7 Tryz.call161 rfl (CU _ _ _ _ (by rw[hgX];omega) oO hbb) ?_);rintro v w4 ⟨rfl,rfl⟩;refine J3 ?_;refine jp (kF (i:=n) rfl rfl oO dO lr (jh (pj (k:=0) (i:=o+(n)) (a:=_) rfl rfl rfl kK hS rfl oO dO ?_)));intro wz6 hS;refine V1 ?_;obtain⟨u',hu'⟩:∃u',u'=(kS kd X n+2*kd-c-bb)%kd:=⟨_,rfl⟩;obtain⟨b',hb'⟩:∃b',b'=if kS kd X n<c+bb then 1 else 0:=⟨_,rfl⟩
 have hub:u'+c+bb=kS kd X n+4294967296*b':=by
  rw[hu',hb'];exact Cn _ _ _ x1 hc hbb
 have hb1:b'<=1:=by rw[hb'];split<;>omega
 obtain⟨Y,e1,e2,e3⟩:=po (b:=kd) (lo:=lo) (X:=X) (o:=o) (k:=n) (d:=u') (n:=m1) dD hlo (hu'▸bG _ dD) oO;have hY:=e3 _ oO hX;rw[hgX,<-hu']at hS;rw[ec,e1]at hS;have hYU:Y+g*D=U+kd^(n+1)*b':=by
  have f2:kd^(n+1)*b'=kd^n*(4294967296*b'):=by rw[bA,bf]
  have f4:kd^n*kS kd X n+kd^n*(4294967296*b')=kd^n*u'+kd^n*(c+bb):=by
   rw[<-aW,<-aW];congr 1;omega
  omega
 have hbv:(if kS kd X n<c+bb then 1 else 0:Nat)=b':=hb'.symm;rw[hgX,hbv];clear e1 e2 e3 hub hu' hb' hbv hgX x1 hinv hX;refine V2 ?_;have hdm:=cH U D;have hDpos:0<D:=hkn.dpos;by_cases hb0:b'=0
 ·refine V1 ?_;rw[hb0,eP,d9]at hYU;have hg1:g<=U/D:=(dY hDpos).2 oO;have hgq:g=U/D:=oO;have hYm:Y=U%D:=by rw[hgq,bF]at hYU;omega
  rw[hYm]at hS;refine J1 ?_;refine jp (kJ rfl Tryz.underlying141 ⟨_,Tryz.underlying99⟩ (r:=((U/D:Nat):Int)) (by rw[hgq];exact pC _ ⟨rfl,fg _,by generalize U/D=z at hq⊢;omega⟩) ?_);refine J1 ?_;refine jt ?_;refine kD rfl rfl ?_;exact⟨rfl,hS⟩
 ·refine V1 ?_;obtain rfl:b'=1:=oO;have hgq:g=U/D+1:=by
   rcases bH (U/D) g with h|h
   ·omega
   ·exfalso;have:g*D<=U:=(dY hDpos).1 h;omega
  have hYR:Y+D=U%D+kd^(n+1):=by
   rw[hgq,bl,dG,bF]at hYU;omega
  refine J4 ?_;refine jb ?_;refine kz (λρ w'=>∃c Z,c<=1/\Z<kd^(n+1)/\Z+kd^n*c=Y+D/\ρ 0= .slice (some ⟨bu,o,none⟩) (n+1) cap/\ρ 5=iB n/\ρ 7= .int .u64 g/\ρ 14= .int .u32 (c:Nat)/\
    St w0 w' ((bu,141,Kr .u32 (pad kd (lo+kd^o*Z) m1))::(bd,141,Kr .u32 (pad kd D n))::H)) ?_ ?_
  ·refine ja ?_;refine kx (σ:=Nat×Nat×Nat) (λs ρ w'=>s.1<=n/\s.2.1<=1/\s.2.2<kd^(n+1)/\s.2.2+kd^s.1*s.2.1=Y+D%kd^s.1/\ρ 0= .slice (some ⟨bu,o,none⟩) (n+1) cap/\ρ 5=iB n/\ρ 7= .int .u64 g/\ρ 14= .int .u32 s.2.1/\
     ρ 130= .slice (some ⟨bd,0,none⟩) n n/\ρ 131=iB n/\ρ 132=iB s.1/\
     St w0 w' ((bu,141,Kr .u32 (pad kd (lo+kd^o*s.2.2) m1))::(bd,141,Kr .u32 (pad kd D n))::H)) (λs=>n-s.1) (0,0,Y)
    ⟨ax _,ax _,hY,by simp[dX],h0,h5,h7,rfl,rfl,rfl,rfl,hS⟩ ?_
   clear hS h0 h1 h5 h7 h9 h10;rintro⟨k,c,Z⟩ ρ w3 ⟨hk,hc,hZ,hinv,h0,h5,h7,h14,h130,h131,h132,hS⟩;simp only at hk hc hZ hinv h0 h5 h7 h14 h130 h131 h132 hS;refine V1 ?_;by_cases hlt:k<n
   ·refine V1 ?_;have x1:=lY Z k;have d1:=lY D k;have hgX:=hgU Z k hk;refine J1 ?_;refine jp (kF (i:=k) h130 h132 oO dO lr (jq (nS (k:=1) (i:=k) rfl kK hS rfl oO dO ?_)));refine V2 ?_;rw[hgD k hlt];refine J4 ?_;refine jp (kF (i:=k) rfl rfl oO dO lr (jq (nS (k:=0) (i:=o+(k)) rfl kK hS rfl oO dO ?_)));refine J2 ?_;refine jh (j7 Tryz.call117 rfl (H5 _ _ _ _ (by rw[hgX];omega) oO oO) ?_);rintro v w4 ⟨rfl,rfl⟩;refine J3 ?_;refine jp (kF (i:=k) rfl rfl oO dO lr (jh (pj (k:=0) (i:=o+(k)) (a:=_) rfl rfl rfl kK hS rfl oO dO ?_)));intro wz7 hS;refine V1 ?_;obtain⟨t,ht⟩:=jz (kS kd Z k+kS kd D k+c);obtain⟨Z',e1,e2,e3⟩:=po (b:=kd) (lo:=lo) (X:=Z) (o:=o) (k:=k) (d:=t%kd) (n:=m1) dD hlo (bG _ dD) oO;rw[hgX,<-ht]at hS;rw[ec,e1]at hS;refine V2 ?_;refine⟨(k+1,t/kd,Z'),_,rfl,⟨hlt,by simp only[hB];omega,e3 _ oO hZ,?_,h0,h5,h7,vi rfl (by rw[hgX,<-ht]),h130,h131,vi rfl (by simp),hS⟩,by simp only;omega⟩;simp only;have f2:kd^(k+1)*(t/kd)=kd^k*(kd*(t/kd)):=by rw[bA,bf]
    have f4:kd^k*(t%kd)+kd^k*(kd*(t/kd))=kd^k*kS kd Z k+kd^k*kS kd D k+kd^k*c:=by
     rw[<-aW,fk,ht,aW,aW]
    rw[mod_pow_succ,f2];omega
   ·refine J1 ?_;refine jt ?_;obtain rfl:k=n:=oO;rw[aZ hD]at hinv;exact⟨_,rfl,c,Z,hc,hZ,hinv,h0,h5,h7,h14,hS⟩
  clear hS h0 h1 h5 h7 h9 h10;rintro ρ w4 ⟨c,Z,hc,hZ,hinv,h0,h5,h7,h14,hS⟩;refine ja ?_;have x1:=lY Z n;have hgX:=hgU Z n (aB _);refine J2 ?_;refine jp (kF (i:=n) rfl rfl oO dO lr (jq (nS (k:=0) (i:=o+(n)) rfl kK hS rfl oO dO ?_)));refine J1 ?_;refine jp (pe rfl rfl (r:=(((kS kd Z n+c)%4294967296:Nat):Int)) (by rw[hgX,tJ];omega) (jp (kF (i:=n) rfl rfl oO dO lr (jh (pj (k:=0) (i:=o+(n)) (a:=_) rfl rfl rfl kK hS rfl oO dO ?_)))));intro wz8 hS;refine ja ?_;obtain⟨V,e1,e2,e3⟩:=po (b:=kd) (lo:=lo) (X:=Z) (o:=o) (k:=n) (d:=(kS kd Z n+c)%4294967296) (n:=m1) dD hlo (bG _ dD) oO;rw[ec,e1]at hS;have hV:V=U%D:=by
   have hR:U%D<kd^n:=iO (bG _ hDpos) hD;have hpos:0<kd^n:=cy dD;have htop:kS kd Z n=Z/kd^n:=rC dD hZ;have hdz:=cH Z (kd^n);have hmz:=bG Z hpos;have hsum:Z%kd^n+kd^n*(Z/kd^n+c)=U%D+kd^n*4294967296:=by
    have:kd^(n+1)=kd^n*4294967296:=bA ..;rw[aW];omega
   have hy:Z/kd^n+c=4294967296:=by
    have h1:(Z%kd^n+kd^n*(Z/kd^n+c))/kd^n=(U%D+kd^n*4294967296)/kd^n:=by rw[hsum]
    rwa[cU _ _ hpos,cU _ _ hpos,bS hmz,bS hR,bZ,bZ]at h1
   rw[htop,hy]at e2;rw[hy]at hsum;simp only[Nat.mod_self,eP,d9]at e2;omega
  rw[hV]at hS;refine J1 ?_;refine jp (sG rfl rfl (r:=((U/D:Nat):Int)) (by rw[hgq];exact kZ _ ⟨by push_cast;omega,fg _,by generalize U/D=z at hq⊢;omega⟩) (jp (kJ rfl Tryz.underlying141 ⟨_,Tryz.underlying99⟩ (r:=((U/D:Nat):Int)) (by exact pC _ ⟨rfl,fg _,by generalize U/D=z at hq⊢;omega⟩) ?_)));refine J1 ?_;refine jt ?_;refine kD rfl rfl ?_;exact⟨rfl,hS⟩
section
variable {P : Program} {N : Nat} {ρ : Nat → Value} {ops : Array Oper}
  {d : Option Tmp} {ty : TypeId} {pos : String} {aft : Array Edge} {g : Option (Nat × Bool)} {x y z : Operand} {t e : TypeId} {b o : Nat} {K : Value → Prop}
theorem Ul {size by_ n cap o' n' c':Nat} {zz:List Value} {lo hi:Nat} {kl kh:IntKind} {ml mh:Int} (hx:ev N ρ x= .slice (some ⟨b,o,none⟩) n cap) (hl:ev N ρ y= .int kl ml) (hh:ev N ρ z= .int kh mh)
  (hml:ml=(lo:Int)) (hmh:mh=(hi:Int)) (h1:lo<=hi) (h2:hi<=cap) (h3:lo<cap) (e1:o+lo*size=o') (e2:hi-lo=n') (e3:cap-lo=c') (ht:sinfo P t=some (e,size,by_,zz)) (h:K (.slice (some ⟨b,o',none⟩) n' c')):
  mb P N ρ ⟨d,.slice t x (some y) (some z) none,ty,pos,aft,g⟩ K:=by
 subst e1 e2 e3;exact U5 hx hl hh hml hmh h1 h2 h3 ht h
end
theorem Qo (b v:Nat) {n m:Nat} (h:n<=m):(pad b v m).take n=pad b v n:=by
 unfold pad;rw[<-List.map_take,List.take_range,gS h]
theorem yS {Y:Nat} (h:0<Y):0<(kL Y).length/\0<kS kd Y ((kL Y).length-1):=by
 have hl:0<(kL Y).length:=by
  rcases dh (kL Y).length with h0|h0
  ·have:=(Bb (b:=kd) (n:=Y) dD).1 (cB h0);omega
  ·exact h0
 refine⟨hl,?_⟩;have h1:=lQ Y;have h2:kd^((kL Y).length-1)<=Y:=rS dD (by show _<(kL Y).length;omega);rw[rC dD (by rw[eJ hl];exact h1)];exact iq h2 (cy dD)
theorem Ht {Y n c:Nat} (hn:0<n) (hY:Y<kd^n) (hc:c<32) (h1:kS kd Y (n-1)*2^c<kd) (h2:kd<=2*(kS kd Y (n-1)*2^c)):
  Y*2^c<kd^n/\kd^n<=2*(Y*2^c):=by
 obtain⟨x,hx⟩:=jz (kS kd Y (n-1));have hxt:x=Y/kd^(n-1):=by rw[hx];exact rC dD (by rw[eJ hn];exact hY)
 rw[<-hx]at h1 h2;have hp:0<kd^(n-1):=cy dD;have hB:kd^n=kd^(n-1)*kd:=by rw[<-bA];congr 1;omega
 have e1:=cH Y (kd^(n-1));have e2:=bG Y hp;rw[<-hxt]at e1;have h3:(x+1)*2^c<=kd:=by
  have hb:kd=2^(32-c)*2^c:=by rw[<-dy,eJ oO]
  rw[hb]at h1⊢;exact aH _ (Nat.lt_of_mul_lt_mul_right h1)
 have hpc:0<2^c:=cy dD;constructor
 ·rw[hB];have a1:Y<kd^(n-1)*(x+1):=by rw[aW];omega
  have a2:Y*2^c<kd^(n-1)*(x+1)*2^c:=db a1 hpc;have a3:kd^(n-1)*((x+1)*2^c)<=kd^(n-1)*kd:=bn _ h3;rw[<-bf]at a3;omega
 ·rw[hB];have a1:kd^(n-1)*x<=Y:=by rw[hxt];exact Nat.mul_div_le _ _
  have a2:kd^(n-1)*x*2^c<=Y*2^c:=aH _ a1;have a3:kd^(n-1)*kd<=kd^(n-1)*(2*(x*2^c)):=bn _ h2;have a4:kd^(n-1)*(2*(x*2^c))=2*(kd^(n-1)*x*2^c):=by rw[io,bf]
  omega
theorem yg {X Y Q V s : Nat} (hs : 0 < s) (h : X * s = Q * (Y * s) + V) (hV : V < Y * s) : X / Y = Q ∧ V = X % Y * s ∧ V / s = X % Y := by
  have hY : 0 < Y := by rcases dh Y with h0 | h0; · rw [h0] at hV; omega
                        · exact h0
  have h1 : X * s / (Y * s) = Q := by
    rw [h, dK, iW _ _ (dH hY hs), bS hV, bZ]
  have h2 : X * s % (Y * s) = V := by
    rw [h, ia, aZ hV]
  rw [Nat.mul_div_mul_right _ _ hs] at h1
  rw [iU] at h2
  refine ⟨h1, h2.symm, ?_⟩
  rw [← h2, Nat.mul_div_cancel _ hs]
theorem Ey (vx vy:Value) (X Y:Nat) (w:World) (hx:Sl (uk .u32) 1 w vx (kL X)) (hy:Sl (uk .u32) 1 w vy (kL Y)) (hY0:0<Y) (hmx:(kL X).length<=4398046511104) (hmy:(kL Y).length<=4398046511104):
  lW Tryz.prog 111 #[vx,vy] w λr w'=>(∃q s,r= .tuple #[q,s]/\Sl (uk .u32) 1 w' q (kL (X/Y))/\Sl (uk .u32) 1 w' s (kL (X%Y)))/\Below w.heap.size w w':=by
 have hB:kd=4294967296:=rfl;have hS:=St.init w;obtain⟨m,hm⟩:=jz ((kL X).length);obtain⟨n,hn⟩:=jz ((kL Y).length);have hXm:X<kd^m:=hm▸lQ X;have hYn:Y<kd^n:=hn▸lQ Y;obtain⟨M,hM⟩:=jz (m-n+1);obtain⟨hn0,htp⟩:=yS hY0;rw[<-hn]at hn0 htp;have htl:=lY Y (n-1);refine enter Tryz.func111 rfl Tryz.ntmps111 rfl ?_;refine J4 ?_;refine jh (j7 Tryz.call118 rfl (CL _ _ _ _ _ (hx.j5 hS.j5) (hy.j5 hS.j5)) ?_);rintro r w1 ⟨rfl,hB1⟩;replace hS:=hS.ko hB1;refine V1 ?_;by_cases hlt:X<Y
 ·refine k9 rfl (ak (by rw[ug hlt];decide)) ?_;refine jr ?_;refine jp (ks rfl (jp (ou rfl (jp (ou rfl ?_)))));refine jt ?_;refine rH rfl rfl rfl ?_;refine⟨⟨_,_,rfl,?_,?_⟩,hS.j5⟩
  ·rw[bS hlt,kL,nQ];exact Sl.nil _ _ _
  ·rw[aZ hlt];exact hx.j5 hS.j5
 ·have hge:Y<=X:=iH hlt;have hnm:n<=m:=by rw[hn,hm];exact nH dD hge
  have hcmp:¬sI X Y<0:=by
   rcases bH Y X with h|h
   ·rw[ul h];decide
   ·rw[show X=Y by omega,xF];decide
  refine lx rfl (ae hcmp) ?_;refine J1 ?_;refine jp (kj rfl (hy.j5 hS.j5) ⟨_,Tryz.underlying139⟩ ?_);refine V1 ?_;by_cases h1:n=1
  ·refine V1 ?_;have hg:(kL Y).getD 0 0=Y:=by
    rw[me,kS,cO,fu];rw[h1,i3]at hYn;exact aZ hYn
   have hYl:Y<=4294967295:=by rw[h1,i3]at hYn;omega
   refine J2 ?_;refine jp (kp (i:=0) rfl rfl (hy.j5 hS.j5) oO dO lr (jq (ky (i:=0) 0 rfl kK (hy.j5 hS.j5) dO rfl rfl (.inr rfl) ?_)));rw[hg];refine jh (j7 Tryz.call153 rfl (C7 _ _ _ _ (hx.j5 hS.j5) hY0 hYl oO) ?_);rintro r w2 ⟨⟨q,rfl,hq⟩,hB2⟩;replace hS:=hS.ko hB2;refine V5 ?_;have hml:X%Y<=4294967295:=by have:=bG X hY0;omega
   have hq0:Sl (uk .u32) 1 w2 q (kL (X/Y)):=hq;refine J2 ?_;refine jh (mO (vs:=[_]) rfl lr rfl dD dD dD (by simp[Value.cells]) rfl hS ?_);intro b1 wz2 hS hBz2;have hq1:=hq0.j5 hBz2;have hsl:=St.IS (L:=[X%Y]) hS (k:=0) rfl (n:=1) (cap:=1) (by simp) oO oO;refine jh (j7 Tryz.call112 rfl (xM _ _ _ hsl (by intro d hd;rw[aU (by simp)]at hd;rw[aQ.1 hd];omega)) ?_);rintro v w4 ⟨hv,rfl⟩;refine J2 ?_;refine jt ?_;refine rH rfl rfl rfl ?_;refine⟨⟨_,_,rfl,hq1,?_⟩,hS.j5⟩;have e:lB kd ([X%Y].take 1)=X%Y:=by simp[lB]
   rwa[e]at hv
  ·refine V1 ?_;have hgt:(kL Y).getD (n-1) 0=kS kd Y (n-1):=me Y (n-1);refine J2 ?_;refine jp (kj rfl (hy.j5 hS.j5) ⟨_,Tryz.underlying139⟩ ?_);refine J1 ?_;refine jp (kp (i:=n-1) rfl rfl (hy.j5 hS.j5) oO dO lr (jq (ky (i:=n-1) 0 rfl kK (hy.j5 hS.j5) dO rfl rfl (.inr rfl) ?_)));rw[hgt];refine jh (j7 Tryz.call154 rfl (zM _ _ htp oO) ?_);rintro r w2 ⟨⟨c,hc,hc1,hc2,rfl⟩,rfl⟩;obtain⟨hD,hD2⟩:=Ht hn0 hYn hc hc1 hc2;have hpc:0<2^c:=cy dD;have hpc2:2^c<=2^31:=bM dD oO;obtain⟨D,hDe⟩:=jz (Y*2^c);rw[<-hDe]at hD hD2;have hD0:0<D:=by rw[hDe];exact dH hY0 hpc
   have hUm:X*2^c<kd^(m+1):=by
    have h3:X*2^c<kd^m*2^c:=db hXm hpc;have h4:kd^m*2^c<=kd^m*kd:=bn _ oO;rw[bA];omega
   have hUD:X*2^c<D*kd^(m-n+1):=by
    have h3:X*2^c<kd^m*2^c:=db hXm hpc;have h4:kd^m*2^c<=kd^m*2^31:=bn _ hpc2;have h5:kd^n*kd^(m-n+1)=kd^m*kd:=by rw[<-dy,<-bA];congr 1;omega
    have h6:kd^n*kd^(m-n+1)<=2*D*kd^(m-n+1):=aH _ hD2;rw[bf]at h6;have h7:kd^m*kd=kd^m*4294967296:=rfl;omega
   refine J3 ?_;refine jp (kj rfl (hy.j5 hS.j5) ⟨_,Tryz.underlying139⟩ ?_);refine J4 ?_;refine jh (j7 Tryz.call155 rfl (Ih _ _ _ _ _ (hy.j5 hS.j5) hc (aB _) (by rw[<-hn,<-hDe];exact hD) oO) ?_);rintro r w3 ⟨⟨bd,rfl,hbd1,hbd2⟩,hB3⟩;replace hS:=hS.push hB3 hbd1 hbd2;refine J4 ?_;refine jp (kj rfl (hx.j5 hS.j5) ⟨_,Tryz.underlying139⟩ ?_);refine J1 ?_;have hs2:=Ih vx X c (m+1) w3 (hx.j5 hS.j5) hc oO hUm oO;refine jh (j7 Tryz.call155 rfl ((by rw[hm]at hs2;exact hs2)) ?_);rintro r w4 ⟨⟨bu,rfl,hbu1,hbu2⟩,hB4⟩;replace hS:=hS.push hB4 hbu1 hbu2;rw[<-hm,<-hn,<-hDe]at hS;refine J2 ?_;refine jp (kj rfl (hx.j5 hS.j5) ⟨_,Tryz.underlying139⟩ ?_);refine J3 ?_;refine jh (pV (n:=M) rfl rfl lr oO oO oO oO hS ?_);intro b3 wz4 hS hBz4;refine V1 ?_;replace hS:=hS.perm (H':=[(bu,141,Kr .u32 (pad kd (X*2^c) (m+1))),(bd,141,Kr .u32 (pad kd D n)),(b3,141,Kr .u32 (pad kd (kd^M*0) M))])
    (by rw[eP,oV];exact(List.Perm.swap _ _ _).trans ((List.Perm.swap _ _ _).cons _))
   refine V4 ?_;refine kx (σ:=Nat×Nat×Nat) (λs ρ w'=>s.1<=M/\X*2^c=s.2.1*D*kd^s.1+s.2.2/\s.2.2<D*kd^s.1/\ρ 8= .int .u64 c/\ρ 9=iB n/\ρ 10= .slice (some ⟨bd,0,none⟩) n n/\ρ 11= .slice (some ⟨bu,0,none⟩) (m+1) (m+1)/\ρ 12= .slice (some ⟨b3,0,none⟩) M M/\ρ 13=iB ((s.1:Int)-1)/\
     St w w' [(bu,141,Kr .u32 (pad kd s.2.2 (m+1))),(bd,141,Kr .u32 (pad kd D n)),(b3,141,Kr .u32 (pad kd (kd^s.1*s.2.1) M))]) (λs=>s.1) (M,0,X*2^c)
    ⟨aB _,by simp,by simp only;rw[hM];exact hUD,vi rfl oO,vi rfl (by rw[hn]),by rw[hn];rfl,by rw[hm];rfl,rfl,vi rfl oO,hS⟩ ?_
   clear hS;rintro⟨k,Q,V⟩ ρ w6 ⟨hk,hinv,hV,h8,h9,h10,h11,h12,h13,hS⟩;simp only at hk hinv hV h8 h9 h10 h11 h12 h13 hS;refine V2 ?_;by_cases hk0:0<k
   ·refine V1 ?_;have hpk:0<kd^(k-1):=cy dD;have hkk:kd^k=kd^(k-1)*kd:=by rw[<-bA];congr 1;omega
    have hVs:V%kd^(k-1)+kd^(k-1)*(V/kd^(k-1))=V:=fk _ _;have hU:V/kd^(k-1)<D*kd:=by
     refine dc ?_;rw[hkk]at hV;rw[io];exact hV
    have hlo:V%kd^(k-1)<kd^(k-1):=bG _ hpk;obtain⟨lo,hloe⟩:=jz (V%kd^(k-1));obtain⟨U,hUe⟩:=jz (V/kd^(k-1));rw[<-hloe,<-hUe]at hVs;rw[<-hUe]at hU;rw[<-hloe]at hlo;have hq0:U/D<kd:=dc hU;have hQ:kd^k*Q<kd^M:=by
     rcases bH (kd^k*Q) (kd^M)with h|h
     ·exact h
     ·exfalso;have h3:D*kd^M<=D*(kd^k*Q):=bn _ h;have h4:D*(kd^k*Q)=Q*D*kd^k:=by ac_rfl
      rw[<-hM]at hUD;omega
    obtain⟨e1,e2⟩:=ui (b:=kd) (q:=Q) (i:=k) (e:=U/D) (n:=M) dD hq0 hk0 hk hQ;rw[<-hVs]at hS;refine J8 ?_;refine jp (Ul (lo:=k-1) (hi:=k-1+n+1) (o':=k-1) (n':=n+1) (c':=m+1-(k-1)) rfl rfl rfl oO oO oO oO oO oO oO rfl lr ?_);refine J1 ?_;refine jh (j7 Tryz.call156 rfl (Su w w6 [(b3,141,Kr .u32 (pad kd (kd^k*Q) M))] bu bd (k-1) (m+1-(k-1)) n (m+1) lo U D hS hlo oO hD hD2 hU oO oO) ?_);rintro r w7 ⟨rfl,hS⟩;have hq1:U/D<=4294967295:=oO;refine jp (kF (i:=k-1) rfl rfl oO dO lr (jh (pj (k:=2) (i:=k-1) (a:=(U/D)) rfl rfl rfl kK hS rfl oO dO ?_)));intro wz5 hS;refine ja ?_;rw[show∀(a b c d:kV),[a,b,c].set 2 d=[a,b,d]from λ_ _ _ _=>rfl,e1]at hS;refine V3 ?_;refine⟨(k-1,kd*Q+U/D,lo+kd^(k-1)*(U%D)),_,rfl,⟨by simp only;omega,?_,?_,h8,h9,h10,h11,h12,vi rfl (by simp only;omega),hS⟩,by simp only;omega⟩
    ·simp only;have g1:=cH U D;have g2:kd^(k-1)*U=kd^(k-1)*(D*(U/D))+kd^(k-1)*(U%D):=by rw[<-aW,g1]
     have g3:(kd*Q+U/D)*D*kd^(k-1)=Q*D*kd^k+kd^(k-1)*(D*(U/D)):=by
      rw[hkk,bl,bl];congr 1<;>ac_rfl
     rw[g3,hinv,<-hVs,g2];omega
    ·simp only;have g1:U%D+1<=D:=bG _ hD0;have g2:kd^(k-1)*(U%D+1)<=kd^(k-1)*D:=bn _ g1;rw[bF D,aW]at*;omega
   ·refine J1 ?_;refine jt ?_;obtain rfl:k=0:=oO;rw[cO,eC]at hinv hV;rw[cO,dG]at hS;rw[hDe]at hinv hV;obtain⟨f1,f2,f3⟩:=yg hpc hinv hV;rw[<-hDe]at hinv hV;have hQM:Q<kd^M:=by
     rcases bH Q (kd^M)with h|h
     ·exact h
     ·exfalso;have h3:D*kd^M<=D*Q:=bn _ h;rw[bF D Q]at h3;rw[<-hM]at hUD;omega
    refine ja ?_;refine kE [jo 0,jo 2,jo 3,jo 4,jo 5,jv 1,jv 6,jo 7,jo 8] kR kR hS ?_;intro wz6 hS hBz6;refine J3 ?_;refine jl rfl (FQ (hi:=n) rfl rfl rfl oO lr ?_);refine J1 ?_;have hslq:=hS.IS (k:=2) rfl (n:=M) (cap:=M) (by simp) (aB _) oO;rw[aU (by simp)]at hslq;refine jn rfl (j7 Tryz.call112 rfl (xM _ _ _ hslq (ti dD _ _)) ?_);rintro q w8 ⟨hq,rfl⟩;refine⟨(Below.refl _ _),?_⟩;have hslu:=hS.IS (k:=0) rfl (n:=n) (cap:=m+1) (by simp;omega) oO oO;rw[Qo _ _ oO]at hslu;refine jn rfl (j7 Tryz.call157 rfl (Ja _ V c n _ hslu hc oO oO) ?_);rintro s w9 ⟨hs,hB9⟩;refine⟨hB9,?_⟩;refine J2 ?_;refine jt ?_;refine rH rfl rfl rfl ?_;rw[mR hQM,<-f1]at hq;rw[f3]at hs;exact⟨⟨_,_,rfl,hq.j5 hB9,hs⟩,hS.j5.trans (hB9.mono hS.j5.size)⟩
theorem o4 {m n:Nat} (h:m<=n):(kL m).length<=(kL n).length:=nH dD h
theorem rF {n:Nat}:(kL n).length=0↔n=0:=by
 rw[gi];exact Bb dD
theorem NI (a b:ByteArray) (w:World) (ha:a.size<=4398046511104) (hb:b.size<=4398046511104) (h0:val b≠0):
  lW Tryz.prog 68 #[.string a,.string b] w λr w'=>r= .tuple #[.string (kG (val a/val b)),.string (kG (val a%val b)),.bool true]/\Below w.heap.size w w':=by
 have hla:=mU a;have hlb:=mU b;have hne:(kL (val b)).length≠0:=λh=>h0 (rF.1 h);have hS:=St.init w;refine enter Tryz.func68 rfl Tryz.ntmps68 rfl ?_;refine J4 ?_;refine jh (j7 Tryz.call69 rfl (qB _ _ oO) ?_);rintro vy w1 ⟨hy,hB1⟩;replace hS:=hS.ko hB1;refine J2 ?_;refine jp (kj rfl hy ⟨_,Tryz.underlying139⟩ ?_);refine J3 ?_;refine jh (j7 Tryz.call69 rfl (qB _ _ oO) ?_);rintro vx w2 ⟨hx,hB2⟩;replace hS:=hS.ko hB2;refine J1 ?_;refine jh (j7 Tryz.call111 rfl (Ey _ _ _ _ _ hx (hy.j5 hB2) oO oO oO) ?_);rintro r w3 ⟨⟨q,s,rfl,hq,hs⟩,hB3⟩;replace hS:=hS.ko hB3;refine V5 ?_;have hlq:=o4 (dz (val a) (val b));have hls:=o4 (Nat.mod_le (val a) (val b));refine J1 ?_;refine jh (j7 Tryz.call70 rfl (vJ _ _ _ hq (xR _) oO) ?_);rintro r w4 ⟨rfl,hB4⟩;replace hS:=hS.ko hB4;refine J1 ?_;refine jh (j7 Tryz.call70 rfl (vJ _ _ _ (hs.j5 hB4) (xR _) oO) ?_);rintro r w5 ⟨rfl,hB5⟩;replace hS:=hS.ko hB5;refine J3 ?_;refine jt ?_;refine Gz rfl rfl rfl rfl ?_;refine⟨?_,hS.j5⟩;rw[qS,qS];rfl
theorem QD (a b:ByteArray) (w:World) (ha:a.size<=4398046511104) (hb:b.size<=4398046511104):
  lW Tryz.prog 67 #[.string a,.string b] w λr w'=>r= .string (kG (Nat.gcd (val a) (val b)))/\Below w.heap.size w w':=by
 have hla:=mU a;have hlb:=mU b;have hS:=St.init w;refine enter Tryz.func67 rfl Tryz.ntmps67 rfl ?_;refine J2 ?_;refine jh (j7 Tryz.call69 rfl (qB _ _ oO) ?_);rintro vx w1 ⟨hx,hB1⟩;replace hS:=hS.ko hB1;refine J1 ?_;refine jh (j7 Tryz.call69 rfl (qB _ _ oO) ?_);rintro vy w2 ⟨hy,hB2⟩;replace hS:=hS.ko hB2;refine V2 ?_;refine kx (σ:=Nat×Nat) (λs ρ w'=>Nat.gcd s.1 s.2=Nat.gcd (val a) (val b)/\(kL s.1).length<=4398046511104/\(kL s.2).length<=4398046511104/\(∃vx vy,ρ 5=vx/\ρ 6=vy/\Sl (uk .u32) 1 w' vx (kL s.1)/\Sl (uk .u32) 1 w' vy (kL s.2))/\St w w' []) (λs=>s.2) (val a,val b)
  ⟨rfl,by simp only;omega,by simp only;omega,⟨_,_,rfl,rfl,hx.j5 hB2,hy⟩,hS⟩ ?_
 clear hS hx hy;rintro⟨X,Y⟩ ρ w3 ⟨hg,hX,hY,⟨vx,vy,h5,h6,hx,hy⟩,hS⟩;simp only at hg hX hY hx hy;refine J1 ?_;refine jp (kj rfl hy ⟨_,Tryz.underlying139⟩ ?_);refine V1 ?_;have hyn:(kL Y).length=0↔Y=0:=rF;by_cases hY0:Y=0
 ·refine J2 ?_;refine jh (j7 Tryz.call70 rfl (vJ _ _ _ hx (xR _) oO) ?_);rintro r w4 ⟨rfl,hB4⟩;refine J1 ?_;refine jt ?_;refine kD rfl rfl ?_;rw[qS];rw[hY0,Nat.gcd_zero_right]at hg;rw[hg];exact⟨rfl,hS.j5.trans (hB4.mono hS.j5.size)⟩
 ·refine V1 ?_;have hlt:X%Y<Y:=bG _ oO;have hls:=o4 (fP hlt);refine J2 ?_;refine jh (j7 Tryz.call111 rfl (Ey _ _ _ _ _ hx hy oO oO oO) ?_);rintro r w4 ⟨⟨q,s,rfl,hq,hs⟩,hB4⟩;refine V9 ?_;refine⟨(Y,X%Y),_,rfl,⟨?_,hY,by simp only;omega,⟨vy,s,rfl,rfl,hy.j5 hB4,hs⟩,hS.ko hB4⟩,hlt⟩;simp only;rw[<-hg,jK Y,<-Nat.gcd_rec,jK]
abbrev MX:Nat:=1099511627776
theorem S7 (m n:Nat) (w:World) (hm:(kG m).size<=4398046511104) (hn:(kG n).size<=4398046511104):
  lW Tryz.prog 67 #[.string (kG m),.string (kG n)] w λr w'=>r= .string (kG (Nat.gcd m n))/\Below w.heap.size w w':=by
 have h:=QD (kG m) (kG n) w hm hn;rwa[li,li]at h
theorem Is (m n:Nat) (w:World) (hm:(kG m).size<=4398046511104) (hn:(kG n).size<=4398046511104) (h0:n≠0):
  lW Tryz.prog 68 #[.string (kG m),.string (kG n)] w λr w'=>r= .tuple #[.string (kG (m/n)),.string (kG (m%n)),.bool true]/\Below w.heap.size w w':=by
 have h:=NI (kG m) (kG n) w hm hn (by rwa[li]);rwa[li,li]at h
theorem wB (m n:Nat) (w:World) (hm:(kG m).size<=4398046511104) (hn:(kG n).size<=4398046511104):
  lW Tryz.prog 30 #[.string (kG m),.string (kG n)] w λr w'=>r= .string (kG (m*n))/\Below w.heap.size w w':=by
 have h:=Ic (kG m) (kG n) w hm hn;rwa[li,li]at h
theorem SR (m n:Nat) (w:World) (hm:(kG m).size<=4398046511104) (hn:(kG n).size<=4398046511104):
  lW Tryz.prog 74 #[.string (kG m),.string (kG n)] w λr w'=>r= .string (kG (m+n))/\Below w.heap.size w w':=by
 have h:=Ut (kG m) (kG n) w hm hn;rwa[li,li]at h
theorem VP (m n:Nat) (w:World) (hm:(kG m).size<=4398046511104) (hn:(kG n).size<=4398046511104):
  lW Tryz.prog 90 #[.string (kG m),.string (kG n)] w λr w'=>r= .int .i64 (sI m n)/\w'=w:=by
 have h:=Kd (kG m) (kG n) w oO oO;rwa[li,li]at h
theorem Kv (m n:Nat) (w:World) (hm:(kG m).size<=4398046511104) (hn:(kG n).size<=4398046511104) (hle:n<=m):
  lW Tryz.prog 75 #[.string (kG m),.string (kG n)] w λr w'=>r= .tuple #[.string (kG (m-n)),.bool true]/\Below w.heap.size w w':=by
 have h:=AW (kG m) (kG n) w hm hn;rw[li,li]at h;exact h.mono λ_ _ g=>by rwa[aj hle]at g
theorem IA (m n:Nat) (w:World) (hm:(kG m).size<=4398046511104) (hn:(kG n).size<=4398046511104) (hlt:m<n):
  lW Tryz.prog 75 #[.string (kG m),.string (kG n)] w λr w'=>r= .tuple #[.string ⟨#[]⟩,.bool false]/\Below w.heap.size w w':=by
 have h:=AW (kG m) (kG n) w hm hn;rw[li,li]at h;exact h.mono λ_ _ g=>by rwa[ah (Nat.not_le_of_gt hlt)]at g
theorem Xo (s:ByteArray) {k:Nat} (h:s.size<=k):(kG (val s)).size<=k:=dt (ql s) h
theorem Cs {n:Nat}:kG n=⟨#[1]⟩↔n=1:=by rw[<-wW];exact⟨λh=>Cz h,λh=>by rw[h]⟩
theorem AB {n:Nat} (h:n=1):kG n=⟨#[1]⟩:=Cs.2 h
theorem HU (r:RR) (w:World) (hr:Lr r<=MX):
  lW Tryz.prog 65 #[lu r] w λv w'=>v= .bool (decide (L4 r))/\Below w.heap.size w w':=by
 have hM:MX=1099511627776:=rfl;have hn:=G6 r;have hd:=HQ r;have hV:=RH r;have hS:=St.init w;refine enter Tryz.func65 rfl Tryz.ntmps65 rfl ?_;refine jr ?_;refine jh (lj (new:=j6 r) rfl rfl hS ?_);intro b1 wz2 hS hBz2;refine V1 ?_;by_cases h1:kG (val r.num)=r.num
 ·by_cases h2:kG (val r.den)=r.den
  ·refine ja ?_;refine kE [jo 0,ju 1,jo 3,ju 4,jv 2,jo 5,jo 6,jo 7,ju 8,jo 10,ju 11,jv 9,jo 12,jo 13] kR kR hS ?_;intro wz3 hS hBz3;refine J4 ?_;refine jn rfl (j7 Tryz.call66 rfl (nk _ _ (show r.num.size<=_ by omega)) ?_);rintro _ wq4 ⟨rfl,hq4⟩;replace hq4:=hq4.symm;subst hq4;refine⟨Below.refl _ _,?_⟩;refine jl rfl (wv rfl rfl ?_);refine J1 ?_;refine kU rfl (j8 9 kR rfl (ae (by exact ca h1))) (lI rfl ry (nl rfl (j8 9 kR rfl (ae (by exact ca h1))) (kX (k:=0) rfl t9 hS rfl rfl rfl (.inr rfl) (kU rfl (j8 9 kR rfl (ae (by exact ca h1))) (lI rfl ry (nl rfl (j8 9 kR rfl (ae (by exact ca h1))) (kX (k:=0) rfl t9 hS rfl rfl rfl (.inr rfl) (Ac rfl (j8 9 kR rfl (ae (ca h1))) (j7 Tryz.call66 rfl (nk _ _ (show r.den.size<=_ by omega)) ?_)))))))));rintro _ wq5 ⟨rfl,hq5⟩;replace hq5:=hq5.symm;subst hq5;refine⟨Below.refl _ _,?_⟩;refine kU rfl (j8 9 kR rfl (ae (by exact ca h1))) (wv rfl rfl (jl rfl (kC (vb rfl (ae (by exact ca h1))) rfl ?_)));refine ja ?_;refine lx rfl (ae (ca h2)) ?_;refine J2 ?_;refine jp (tr rfl rfl ?_);refine ja ?_;by_cases h3:r.num=⟨#[]⟩
   ·refine k9 rfl (ak h3) ?_;refine ja ?_;by_cases h4:r.neg=false
    ·refine J4 ?_;refine kf (j8 23 kR rfl (by show(!r.neg)=true;rw[h4];rfl)) (lI rfl ry (lD (j8 23 kR rfl (by show(!r.neg)=true;rw[h4];rfl)) (kX (k:=0) rfl t9 hS rfl rfl rfl (.inr rfl) (kf (j8 23 kR rfl (by show(!r.neg)=true;rw[h4];rfl)) (tr rfl rfl (jp (kC (vb rfl (by show(!r.neg)=true;rw[h4];rfl)) rfl ?_)))))));refine J1 ?_;refine jt ?_;refine kD rfl rfl ?_;refine⟨bI Value.bool ?_,hS.j5⟩;rw[dP,hV];exact⟨λh=>⟨h1,h2,λ_=>⟨h4,h⟩,λh=>absurd h3 h⟩,λh=>(h.2.2.1 h3).2⟩
    ·refine J4 ?_;refine kN (kb 23 kR rfl (by show(!r.neg)=false;rw[iy]at h4;rw[h4];rfl)) (kN (kb 23 kR rfl (by show(!r.neg)=false;rw[iy]at h4;rw[h4];rfl)) (kN (kb 23 kR rfl (by show(!r.neg)=false;rw[iy]at h4;rw[h4];rfl)) (jp (kC (vb rfl (by show(!r.neg)=false;rw[iy]at h4;rw[h4];rfl)) rfl ?_))));refine J1 ?_;refine jt ?_;refine kD rfl rfl ?_;refine⟨bI Value.bool ?_,hS.j5⟩;symm;rw[ef,hV]
     exact λh=>h4 (h.2.2.1 h3).1
   ·refine lx rfl (ae h3) ?_;refine ja ?_;by_cases h4:r.den=⟨#[]⟩
    ·refine J2 ?_;refine jp (tr rfl rfl ?_);refine J1 ?_;refine kN (kb 31 kR rfl (ak h4)) (kN (kb 31 kR rfl (ak h4)) (kN (kb 31 kR rfl (ak h4)) (kN (kb 31 kR rfl (ak h4)) (kN (qP 35 kR rfl) (kN (qP 35 kR rfl) (kN (qP 35 kR rfl) (kN (qP 35 kR rfl) (kN (qP 35 kR rfl) (kN (qP 35 kR rfl) (kN (kb 31 kR rfl (ak h4)) (jp (kC (vb rfl (ak h4)) rfl ?_))))))))))));refine J1 ?_;refine jt ?_;refine kD rfl rfl ?_;refine⟨bI Value.bool ?_,hS.j5⟩;symm;rw[fF,hV]
     exact⟨h1,h2,λh=>absurd h h3,λ_=> .inl h4⟩
    ·by_cases h5:r.den=⟨#[1]⟩
     ·refine J2 ?_;refine jp (tr rfl rfl ?_);refine J1 ?_;refine kf (j8 31 kR rfl (ae h4)) (lI rfl ry (lD (j8 31 kR rfl (ae h4)) (kX (k:=0) rfl t9 hS rfl rfl rfl (.inr rfl) (kf (j8 31 kR rfl (ae h4)) (wv rfl rfl (kf (j8 31 kR rfl (ae h4)) (ks rfl (kN (kb 35 kR rfl (ae (ca h5))) (kN (kb 35 kR rfl (ae (ca h5))) (kN (kb 35 kR rfl (ae (ca h5))) (kN (kb 35 kR rfl (ae (ca h5))) (kN (kb 35 kR rfl (ae (ca h5))) (kN (kb 35 kR rfl (ae (ca h5))) (kf (j8 31 kR rfl (ae h4)) (kC (vb rfl (ae (ca h5))) rfl (jp (kC (vb rfl (ae h4)) rfl ?_)))))))))))))))));refine J1 ?_;refine jt ?_;refine kD rfl rfl ?_;refine⟨bI Value.bool ?_,hS.j5⟩;symm;rw[ef,hV]
      exact λh=>(h.2.2.2 h3).elim h4 (λg=>g.1 h5)
     ·refine J2 ?_;refine jp (tr rfl rfl ?_);refine J1 ?_;refine kf (j8 31 kR rfl (ae h4)) (lI rfl ry (lD (j8 31 kR rfl (ae h4)) (kX (k:=0) rfl t9 hS rfl rfl rfl (.inr rfl) (kf (j8 31 kR rfl (ae h4)) (wv rfl rfl (kf (j8 31 kR rfl (ae h4)) (ks rfl (kf (j8 35 kR rfl (ak h5)) (lI rfl BZ (lD (j8 35 kR rfl (ak h5)) (kX (k:=0) rfl t9 hS rfl rfl rfl (.inr rfl) (kf (j8 35 kR rfl (ak h5)) (lI rfl ry (lD (j8 35 kR rfl (ak h5)) (kX (k:=0) rfl t9 hS rfl rfl rfl (.inr rfl) (oS (j8 35 kR rfl (ak h5)) (j7 Tryz.call67 rfl (QD _ _ _ (show r.num.size<=_ by omega) (show r.den.size<=_ by omega)) ?_)))))))))))))))));rintro _ wc6 ⟨rfl,hBc6⟩;replace hS:=hS.ko hBc6;refine kf (j8 35 kR rfl (ak h5)) (tr rfl rfl (kf (j8 31 kR rfl (ae h4)) (kC (vb rfl (ak h5)) rfl (jp (kC (vb rfl (ae h4)) rfl ?_)))));refine J1 ?_;refine jt ?_;refine kD rfl rfl ?_;refine⟨bI Value.bool ?_,hS.j5⟩;rw[dP,hV,Cs];exact⟨λh=>⟨h1,h2,λh=>absurd h h3,λ_=> .inr ⟨h5,h⟩⟩,λh=>(h.2.2.2 h3).elim (λg=>absurd g h4) (λg=>g.2)⟩
  ·refine ja ?_;refine kE [jo 0,ju 1,jo 3,ju 4,jv 2,jo 5,jo 6,jo 7,ju 8,jo 10,ju 11,jv 9,jo 12,jo 13] kR kR hS ?_;intro wz7 hS hBz7;refine J4 ?_;refine jn rfl (j7 Tryz.call66 rfl (nk _ _ (show r.num.size<=_ by omega)) ?_);rintro _ wq8 ⟨rfl,hq8⟩;replace hq8:=hq8.symm;subst hq8;refine⟨Below.refl _ _,?_⟩;refine jl rfl (wv rfl rfl ?_);refine J1 ?_;refine kU rfl (j8 9 kR rfl (ae (by exact ca h1))) (lI rfl ry (nl rfl (j8 9 kR rfl (ae (by exact ca h1))) (kX (k:=0) rfl t9 hS rfl rfl rfl (.inr rfl) (kU rfl (j8 9 kR rfl (ae (by exact ca h1))) (lI rfl ry (nl rfl (j8 9 kR rfl (ae (by exact ca h1))) (kX (k:=0) rfl t9 hS rfl rfl rfl (.inr rfl) (Ac rfl (j8 9 kR rfl (ae (ca h1))) (j7 Tryz.call66 rfl (nk _ _ (show r.den.size<=_ by omega)) ?_)))))))));rintro _ wq9 ⟨rfl,hq9⟩;replace hq9:=hq9.symm;subst hq9;refine⟨Below.refl _ _,?_⟩;refine kU rfl (j8 9 kR rfl (ae (by exact ca h1))) (wv rfl rfl (jl rfl (kC (vb rfl (ae (by exact ca h1))) rfl ?_)));refine ja ?_;refine k9 rfl (ak h2) ?_;refine J1 ?_;refine jt ?_;refine kD rfl rfl ?_;refine⟨bI Value.bool ?_,hS.j5⟩;symm;rw[ef,hV]
   exact λh=>h2 h.2.1
 ·refine ja ?_;refine kE [jo 0,ju 1,jo 3,ju 4,jv 2,jo 5,jo 6,jo 7,ju 8,jo 10,ju 11,jv 9,jo 12,jo 13] kR kR hS ?_;intro wz10 hS hBz10;refine J4 ?_;refine jn rfl (j7 Tryz.call66 rfl (nk _ _ (show r.num.size<=_ by omega)) ?_);rintro _ wq11 ⟨rfl,hq11⟩;replace hq11:=hq11.symm;subst hq11;refine⟨Below.refl _ _,?_⟩;refine jl rfl (wv rfl rfl ?_);refine J1 ?_;refine nU rfl (kb 9 kR rfl (ak h1)) (nU rfl (kb 9 kR rfl (ak h1)) (nU rfl (kb 9 kR rfl (ak h1)) (nU rfl (kb 9 kR rfl (ak h1)) (nU rfl (kb 9 kR rfl (ak h1)) (nU rfl (kb 9 kR rfl (ak h1)) (jl rfl (kC (vb rfl (ak h1)) rfl ?_)))))));refine ja ?_;refine k9 rfl (rfl) ?_;refine J1 ?_;refine jt ?_;refine kD rfl rfl ?_;refine⟨bI Value.bool ?_,hS.j5⟩;symm;rw[ef,hV]
  exact λh=>h1 h.1
theorem nX (r:RR) (w:World) (hr:Lr r<=MX):
  lW Tryz.prog 28 #[lu r] w λv w'=>v=lu (fx r)/\Below w.heap.size w w':=by
 have hS:=St.init w;refine enter Tryz.func28 rfl Tryz.ntmps28 rfl ?_;refine jr ?_;refine jh (lj (new:=j6 r) rfl rfl hS ?_);intro b1 wz2 hS hBz2;refine J1 ?_;intro b3 wz4 hS hBz4;refine J1 ?_;refine jh (j7 Tryz.call65 rfl (HU r _ hr) ?_);rintro _ wc5 ⟨rfl,hBc5⟩;replace hS:=hS.ko hBc5;refine V1 ?_;by_cases h:L4 r
 ·refine lx rfl (by rw[ak h];rfl) ?_;refine J2 ?_;intro wz6 hS;refine jt ?_;refine mq (k:=0) rfl rfl ki hS rfl rfl ?_;rw[Um h];exact⟨rfl,hS.j5⟩
 ·refine k9 rfl (by rw[ae h];rfl) ?_;refine jr ?_;refine jp (kQ rfl pI ?_);refine J1 ?_;intro wz7 hS;refine jt ?_;refine mq (k:=0) rfl rfl ki hS rfl rfl ?_;rw[UR h];exact⟨rfl,hS.j5⟩
theorem Sr (q:Rat):(j9 q).den=if q.den=1 then⟨#[]⟩else kG q.den:=rfl
theorem Ug (q:Rat):(if(j9 q).den=⟨#[]⟩then(⟨#[1]⟩:ByteArray)else(j9 q).den)=kG q.den:=by
 rw[Sr];by_cases h:q.den=1
 ·simp only[h,gX];exact wW.symm
 ·have h1:kG q.den≠⟨#[]⟩:=λh0=>q.den_nz (ob.1 h0);simp only[h,jG,h1]
theorem tT (q:Rat) (w:World):
  lW Tryz.prog 31 #[lu (j9 q)] w λv w'=>v= .string (kG q.den)/\Below w.heap.size w w':=by
 have hS:=St.init w;have hq:=Ug q;refine enter Tryz.func31 rfl Tryz.ntmps31 rfl ?_;refine jr ?_;refine jh (lj (new:=j6 (j9 q)) rfl rfl hS ?_);intro b1 wz2 hS hBz2;refine J3 ?_;refine jp (tr rfl rfl ?_);refine ja ?_;by_cases h:(j9 q).den=⟨#[]⟩
 ·refine k9 rfl (ak h) ?_;refine J1 ?_;refine jt ?_;refine kD rfl rfl ?_;rw[aj h]at hq;exact⟨bI Value.string hq,hS.j5⟩
 ·refine lx rfl (ae h) ?_;refine J3 ?_;refine jt ?_;refine kD rfl rfl ?_;rw[ah h]at hq;exact⟨bI Value.string hq,hS.j5⟩
theorem Xb {n m k:Nat} (h:m<=n) (hk:(kG n).size<=k):(kG m).size<=k:=dt (lT h) hk
theorem Mz (b:Bool) (s d:ByteArray):Tryz.prog.built 32 [(0,.bool b),(1,.string s),(2,.string d)]=some #[.bool b,.string s,.string d]:=by kernel_rfl
theorem rX (b:Bool) (num den:ByteArray) (w:World) (hn:num.size<=2*MX) (hd:den.size<=2*MX) (h0:val den≠0):
  lW Tryz.prog 29 #[.bool b,.string num,.string den] w λv w'=>v=lu (j9 (mkRat (sg b (val num)) (val den)))/\Below w.heap.size w w':=by
 have hM:MX=1099511627776:=rfl;have h1:=Xo num hn;have h2:=Xo den hd;have hS:=St.init w;refine enter Tryz.func29 rfl Tryz.ntmps29 rfl ?_;refine J1 ?_;intro b1 wz2 hS hBz2;refine J1 ?_;refine jh (j7 Tryz.call66 rfl (nk _ _ (show num.size<=_ by omega)) ?_);rintro _ wq3 ⟨rfl,hq3⟩;replace hq3:=hq3.symm;subst hq3;refine J1 ?_;refine jh (j7 Tryz.call66 rfl (nk _ _ (show den.size<=_ by omega)) ?_);rintro _ wq4 ⟨rfl,hq4⟩;replace hq4:=hq4.symm;subst hq4;refine V2 ?_;obtain⟨n,hnn⟩:=jz (val num);obtain⟨d,hdd⟩:=jz (val den);rw[<-hnn,<-hdd];rw[<-hnn]at h1;rw[<-hdd]at h0 h2;refine J1 ?_;refine jp (tr rfl rfl ?_);refine ja ?_;by_cases hz:n=0
 ·refine k9 rfl (ak (ob.2 hz)) ?_;refine jr ?_;refine jp (kQ rfl pI ?_);refine J1 ?_;intro wz5 hS;refine jt ?_;refine mq (k:=0) rfl rfl ki hS rfl rfl ?_;refine⟨?_,hS.j5⟩;have:mkRat (sg b 0) d=0:=by cases b<;>simp[sg]
  rw[hz,this,oC];rfl
 ·refine lx rfl (ae (λh=>hz (ob.1 h))) ?_;refine J1 ?_;refine jp (wv rfl rfl ?_);refine ja ?_;refine kz (λρ w'=>∃n' d':Nat,0<n'/\d'≠0/\Nat.gcd n' d'=1/\mkRat (sg b n) d=mkRat (sg b n') d'/\ρ 0= .bool b/\ρ 1= .string (kG n')/\ρ 2= .string (kG d')/\ρ 6=pB b1/\St w w' [(b1,32,j6 ⟨false,⟨#[]⟩,⟨#[]⟩⟩)]) ?_ ?_
  ·refine ja ?_;by_cases hd1:d=1
   ·refine lx rfl (ae (ca (AB hd1))) ?_;refine ja ?_;exact⟨_,rfl,n,d,oO,h0,by rw[hd1];exact jJ _,rfl,rfl,rfl,rfl,rfl,hS⟩
   ·refine k9 rfl (ak (λh=>hd1 (Cs.1 h))) ?_;refine J2 ?_;refine jh (j7 Tryz.call67 rfl (S7 _ _ _ (show(kG n).size<=_ by omega) (show(kG d).size<=_ by omega)) ?_);rintro _ wc6 ⟨rfl,hBc6⟩;replace hS:=hS.ko hBc6;refine J2 ?_;refine jp (wv rfl rfl ?_);refine ja ?_;have hgp:0<Nat.gcd n d:=iA _ oO;by_cases hg:Nat.gcd n d=1
    ·refine lx rfl (ae (ca (AB hg))) ?_;refine ja ?_;exact⟨_,rfl,n,d,oO,h0,hg,rfl,rfl,rfl,rfl,rfl,hS⟩
    ·refine k9 rfl (ak (λh=>hg (Cs.1 h))) ?_;refine ja ?_;have hgn:Nat.gcd n d<=n:=Nat.gcd_le_left _ oO;have hgs:=Xb hgn h1;have hnp:0<n/Nat.gcd n d:=iq hgn hgp;have hdp:0<d/Nat.gcd n d:=iq (Nat.gcd_le_right _ oO) hgp;refine J2 ?_;refine jh (j7 Tryz.call68 rfl (Is n (Nat.gcd n d) _ (show(kG n).size<=_ by omega) (show(kG (Nat.gcd n d)).size<=_ by omega) oO) ?_);rintro _ wc7 ⟨rfl,hBc7⟩;replace hS:=hS.ko hBc7;refine J7 ?_;refine jh (j7 Tryz.call68 rfl (Is d (Nat.gcd n d) _ (show(kG d).size<=_ by omega) (show(kG (Nat.gcd n d)).size<=_ by omega) oO) ?_);rintro _ wc8 ⟨rfl,hBc8⟩;replace hS:=hS.ko hBc8;refine V5 ?_;exact⟨_,rfl,n/Nat.gcd n d,d/Nat.gcd n d,hnp,oO,(by rw[Nat.gcd_div (iI _ _) (ft _ _),Nat.div_self hgp]),EQ h0 rfl,rfl,rfl,rfl,rfl,hS⟩
  clear hS;rintro ρ w' ⟨n',d',hn',hd',hc,he,g0,g1,g2,g6,hS⟩;rw[he,De hn' hd' hc];refine jr ?_;refine jp (ks g2 (jp (tr rfl rfl ?_)));refine ja ?_;refine kz (λρ w'=>ρ 0= .bool b/\ρ 1= .string (kG n')/\ρ 2= .string (if d'=1 then⟨#[]⟩else kG d')/\ρ 6=pB b1/\St w w' [(b1,32,j6 ⟨false,⟨#[]⟩,⟨#[]⟩⟩)]) ?_ ?_
  ·refine ja ?_;by_cases hd1:d'=1
   ·refine k9 rfl (ak (AB hd1)) ?_;refine V1 ?_;exact⟨_,rfl,g0,g1,bI Value.string (by rw[aj hd1]),g6,hS⟩
   ·refine lx rfl (ae (λh=>hd1 (Cs.1 h))) ?_;refine ja ?_;exact⟨_,rfl,g0,g1,g2.trans (bI Value.string (by rw[ah hd1])),g6,hS⟩
  clear hS g0 g1 g2 g6;rintro ρ w' ⟨g0,g1,g2,g6,hS⟩;refine jr ?_;refine jp (ks g0 (jp (ks g1 (jp (ks g2 (jp (kQ rfl (Mz _ _ _) (jh (lG (k:=0) g6 rfl ki hS rfl rfl rfl dM rfl ?_)))))))));intro wz9 hS;refine jt ?_;refine mq (k:=0) rfl g6 ki hS rfl rfl ?_;exact⟨rfl,hS.j5⟩
theorem R6 {p q:Rat} (h:sj p=sj q):(if decide (p.num<0)=true then-sI (p.num.natAbs*q.den) (q.num.natAbs*p.den)else sI (p.num.natAbs*q.den) (q.num.natAbs*p.den))=tf p q:=by
 have hp:=CJ p;have hq:=CJ q;have l1:=Rat.lt_iff p q;have l2:=Rat.lt_iff q p;unfold sj at h;rw[<-hp,<-hq]at l1 l2;have e1:((p.num.natAbs*q.den:Nat):Int)=(p.num.natAbs:Int)*q.den:=by push_cast;rfl
 have e2:((q.num.natAbs*p.den:Nat):Int)=(q.num.natAbs:Int)*p.den:=by push_cast;rfl
 by_cases h1:p.num<0
 ·have h2:q.num<0:=by
   rw[ah oO,aj h1]at h;by_cases g:q.num<0
   ·exact g
   ·exfalso;split at h<;>(try rw[ah g]at h)<;>omega
  rw[aj (by simpa using h1)];simp only[ak h1,ak h2,sg,gX,jW,<-e1,<-e2]at l1 l2;unfold sI tf;split
  ·rw[ah (by rw[l1];omega),aj (by rw[l2];omega)];rfl
  ·split
   ·rw[aj (by rw[l1];omega)]
   ·rw[ah (by rw[l1];omega),ah (by rw[l2];omega)];rfl
 ·have h2:¬q.num<0:=by
   intro g;rw[ah (show¬q.num=0 by omega),aj g]at h;split at h<;>(try rw[ah h1]at h)<;>omega
  rw[ah (by simpa using h1)];simp only[ae h1,ae h2,sg,<-e1,<-e2,jE,jG]at l1 l2;unfold sI tf;split
  ·rw[aj (by rw[l1];omega)]
  ·split
   ·rw[ah (by rw[l1];omega),aj (by rw[l2];omega)]
   ·rw[ah (by rw[l1];omega),ah (by rw[l2];omega)]
theorem RJ {p q:Rat} (h:sj p≠sj q):tf p q=if sj p<sj q then-1 else 1:=by
 have a1:=za (q:=p);have a2:=xy (q:=p);have a3:=nB (q:=p);have b1:=za (q:=q);have b2:=xy (q:=q);have b3:=nB (q:=q);rcases Cc p with e|e|e<;>rcases Cc q with f|f|f<;>rw[e,f]at h⊢<;>rw[e]at a1 a2 a3<;>rw[f]at b1 b2 b3<;>simp at h a1 a2 a3 b1 b2 b3⊢<;>first|(refine KT ?_;grind)|(refine KN ?_;grind)
theorem AD (q:Rat) (w:World):
  lW Tryz.prog 89 #[lu (j9 q)] w λv w'=>v= .int .i64 (sj q)/\Below w.heap.size w w':=by
 have hS:=St.init w;refine enter Tryz.func89 rfl Tryz.ntmps89 rfl ?_;refine jr ?_;refine jh (lj (new:=j6 (j9 q)) rfl rfl hS ?_);intro b1 wz2 hS hBz2;refine J3 ?_;refine jp (tr rfl rfl ?_);refine V1 ?_;by_cases h:q=0
 ·refine k9 rfl (ak (sR.2 h)) ?_;refine J1 ?_;refine jt ?_;refine kD rfl rfl ?_;exact⟨vi rfl (xy.2 h).symm,hS.j5⟩
 ·refine lx rfl (ae (λg=>h (sR.1 g))) ?_;refine V3 ?_;have hn:q.num≠0:=λg=>h (fG.1 g);by_cases h2:q.num<0
  ·refine k9 rfl (ak h2) ?_;refine J1 ?_;refine jt ?_;refine kD rfl rfl ?_;exact⟨vi rfl (by unfold sj;rw[ah hn,aj h2]),hS.j5⟩
  ·refine lx rfl (ae h2) ?_;refine J1 ?_;refine jt ?_;refine kD rfl rfl ?_;exact⟨vi rfl (by unfold sj;rw[ah hn,ah h2]),hS.j5⟩
theorem st (r:RR) (w:World) (hr:Lr r<=MX):
  lW Tryz.prog 80 #[lu r] w λv w'=>v= .int .i64 (sj (toQ r))/\Below w.heap.size w w':=by
 have hS:=St.init w;refine enter Tryz.func80 rfl Tryz.ntmps80 rfl ?_;refine jr ?_;refine jh (lj (new:=j6 r) rfl rfl hS ?_);intro b1 wz2 hS hBz2;refine J2 ?_;refine jh (j7 Tryz.call28 rfl (nX r _ hr) ?_);rintro _ wc3 ⟨rfl,hBc3⟩;replace hS:=hS.ko hBc3;refine jh (j7 Tryz.call89 rfl (AD (toQ r) _) ?_);rintro _ wc4 ⟨rfl,hBc4⟩;replace hS:=hS.ko hBc4;refine J1 ?_;refine jt ?_;refine kD rfl rfl ?_;exact⟨rfl,hS.j5⟩
theorem JI (q:Rat):(⟨!decide (q.num<0)&&decide ((j9 q).num≠⟨#[]⟩),(j9 q).num,(j9 q).den⟩:RR)=j9 (-q):=by
 have h1:(j9 (-q)).num=(j9 q).num:=by show kG (-q).num.natAbs=kG q.num.natAbs;rw[Rat.neg_num,Int.natAbs_neg]
 have h2:(j9 (-q)).den=(j9 q).den:=by show(if(-q).den=1 then _ else kG (-q).den)=_;rw[Rat.neg_den];rfl
 have h3:(j9 (-q)).neg=decide ((-q).num<0):=rfl;have h4:(!decide (q.num<0)&&decide ((j9 q).num≠⟨#[]⟩))=decide ((-q).num<0):=by
  have:(j9 q).num=⟨#[]⟩↔q.num=0:=by rw[sR,fG]
  rw[Rat.neg_num,fZ];simp only[bj,fL,ef,fJ,ne_eq,this];omega
 rw[h4,<-h1,<-h2,<-h3]
theorem ED (q:Rat) (w:World):
  lW Tryz.prog 37 #[lu (j9 q)] w λv w'=>v=lu (j9 (-q))/\Below w.heap.size w w':=by
 have hS:=St.init w;have he:=JI q;refine enter Tryz.func37 rfl Tryz.ntmps37 rfl ?_;refine jr ?_;refine jh (lj (new:=j6 (j9 q)) rfl rfl hS ?_);intro b1 wz2 hS hBz2;refine J1 ?_;intro b3 wz4 hS hBz4;refine ja ?_;by_cases h:q.num<0
 ·refine J4 ?_;refine kN (kb 6 kR rfl (by show(!decide (q.num<0))=false;rw[ak h];rfl)) (kN (kb 6 kR rfl (by show(!decide (q.num<0))=false;rw[ak h];rfl)) (kN (kb 6 kR rfl (by show(!decide (q.num<0))=false;rw[ak h];rfl)) (jp (kC (vb rfl (by show(!decide (q.num<0))=false;rw[ak h];rfl)) rfl ?_))));refine J1 ?_;refine jh (nW (k:=1) rfl rfl qn hS rfl dM rfl ?_);intro wz5 hS;refine J2 ?_;intro wz6 hS;refine jt ?_;refine mq (k:=0) rfl rfl ki hS rfl rfl ?_;rw[<-he,ak h];exact⟨rfl,hS.j5⟩
 ·refine J4 ?_;refine kf (j8 6 kR rfl (by show(!decide (q.num<0))=true;rw[ae h];rfl)) (lI rfl BZ (lD (j8 6 kR rfl (by show(!decide (q.num<0))=true;rw[ae h];rfl)) (kX (k:=1) rfl t9 hS rfl rfl rfl (.inr rfl) (kf (j8 6 kR rfl (by show(!decide (q.num<0))=true;rw[ae h];rfl)) (wv rfl rfl (jp (kC (vb rfl (by show(!decide (q.num<0))=true;rw[ae h];rfl)) rfl ?_)))))));refine J1 ?_;refine jh (nW (k:=1) rfl rfl qn hS rfl dM rfl ?_);intro wz7 hS;refine J2 ?_;intro wz8 hS;refine jt ?_;refine mq (k:=0) rfl rfl ki hS rfl rfl ?_;rw[<-he,ae h];exact⟨rfl,hS.j5⟩
end Go.Proofs.YtoeiejliehgopaaGreatDoor
