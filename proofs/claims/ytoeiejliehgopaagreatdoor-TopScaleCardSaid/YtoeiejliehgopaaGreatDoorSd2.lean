import Derived.Test.YtoeiejliehgopaaGreatDoorSd1
set_option maxRecDepth 20000
set_option maxHeartbeats 8000000
namespace Go.Proofs.YtoeiejliehgopaaGreatDoor
open Go Go.RowKit Go.Sx
theorem bt {a b c:World} (h:Below a.heap.size a b) (k:Below b.heap.size b c):Below a.heap.size a c:=h.trans (k.mono h.size)
theorem xo {b r i d n:Nat} (hb:2<=b) (hr:r<b^i) (hd:d<b):(pad b r n).set i d=pad b (r+b^i*d) n/\r+b^i*d<b^(i+1):=by
 have h1:b^(i+1)=b^i*b:=bC ..;have h2:b^i*(d+1)<=b^i*b:=bB _ hd;rw[ba]at h2;have h3:r+b^i*d<b^(i+1):=oO;have h4:b^i<=b^(i+1):=bM oO oO;have h:=zD (b:=b) (v:=r) (n:=n) (k:=i) (x:=d) hb oO h3;rw[uc hr,bZ]at h;exact⟨h,h3⟩
theorem BQ (u:Nat):lA kb [u%4294967296,u/4294967296]=u:=by
 simp only[lA,kb];omega
theorem lN (v:Nat):v<kb^(kJ v).length:=mT dD v
theorem wy {v k:Nat} (h:v<kb^k):(kJ v).length<=k:=pS dD k v h
theorem mS (s:ByteArray):(kJ (val s)).length<=s.size:=by
 refine wy (dw (E7 s) ?_);exact Nat.pow_le_pow_left dD _
theorem sj (u:Nat) (w:World) (hu:u<18446744073709551616):
  lU Tryz.prog 113 #[.int .u64 u] w λr w'=>r= .string (kG u)/\Below w.heap.size w w':=by
 have hS:=St.init w;refine enter Tryz.func113 rfl Tryz.ntmps113 rfl ?_;refine J2 ?_;refine jp (kH rfl Tryz.underlying141 ⟨_,Tryz.underlying99⟩ (r7 _) ?_);refine J1 ?_;refine jp (pW rfl rfl oO (r:=((u/4294967296:Nat):Int)) (by exact qg _ 32 dD) (jp (kH rfl Tryz.underlying141 ⟨_,Tryz.underlying99⟩ (r:=((u/4294967296:Nat):Int)) (by exact pm _ oO) (jh (mD (vs:=[_,_]) rfl li rfl dD dD dD (by simp[Value.cells]) rfl hS ?_)))));intro b1 wz2 hS hBz2;have hsl:=St.Iu (L:=[u%4294967296,u/4294967296]) hS (k:=0) rfl (n:=2) (cap:=2) (by simp) oO oO;have hd:∀d∈[u%4294967296,u/4294967296],d<kb:=by
  intro d hd;simp only[bJ,df,fM]at hd;unfold kb;omega
 refine jh (j6 Tryz.call70 rfl (u7 _ _ _ hsl hd (by simp)) ?_);rintro r w3 ⟨rfl,hB3⟩;refine J1 ?_;refine jt ?_;refine kB rfl rfl ?_;exact⟨vs rfl (bQ kG (BQ u)),bt hS.j4 hB3⟩
theorem UG (a b:ByteArray) (w:World) (ha:a.size<=4398046511104) (hb:b.size<=4398046511104):
  lU Tryz.prog 74 #[.string a,.string b] w λr w'=>r= .string (kG (val a+val b))/\Below w.heap.size w w':=by
 have hla:=mS a;have hlb:=mS b;have hS:=St.init w;refine enter Tryz.func74 rfl Tryz.ntmps74 rfl ?_;refine J2 ?_;refine jh (j6 Tryz.call69 rfl (qo _ _ oO) ?_);rintro vx w1 ⟨hx,hB1⟩;refine J1 ?_;refine jh (j6 Tryz.call69 rfl (qo _ _ oO) ?_);rintro vy w2 ⟨hy,hB2⟩;refine V2 ?_;have hx:=hx.j4 hB2;have hB2:=bt hB1 hB2;clear hS hB1;have hS:=St.init w2;refine J1 ?_;refine jp (ki rfl (hx.j4 hS.j4) ⟨_,Tryz.underlying139⟩ ?_);refine J1 ?_;refine jp (ki rfl (hy.j4 hS.j4) ⟨_,Tryz.underlying139⟩ ?_);refine V1 ?_;refine kx (λρ w'=>∃v u m n,m+n=val a+val b/\ρ 5=v/\ρ 6=u/\Sl (uk .u32) 1 w2 v (kJ m)/\Sl (uk .u32) 1 w2 u (kJ n)/\(kJ n).length<=(kJ m).length/\(kJ m).length<=4398046511104/\w2=w') ?_ ?_
 ·by_cases hlt:(kJ (val a)).length<(kJ (val b)).length
  ·refine V5 ?_;exact⟨_,rfl,vy,vx,val b,val a,fa ..,rfl,rfl,hy,hx,oO,oO,rfl⟩
  ·refine V1 ?_;exact⟨_,rfl,vx,vy,val a,val b,rfl,rfl,rfl,hx,hy,oO,oO,rfl⟩
 clear hx hy hla hlb;rintro ρ w' ⟨vx,vy,X,Y,hsum,h5,h6,hx,hy,hle,hmx,rfl⟩;rw[<-hsum];clear hsum;obtain⟨n,hn⟩:=jz ((kJ X).length);refine J1 ?_;refine jp (ki rfl (hx.j4 hS.j4) ⟨_,Tryz.underlying139⟩ ?_);refine J1 ?_;refine jh (pN (n:=(kJ X).length+1) rfl rfl li oO oO oO oO hS ?_);intro b1 wz2 hS hBz2;refine J3 ?_;refine jp (ki rfl (hx.j4 hS.j4) ⟨_,Tryz.underlying139⟩ ?_);refine V1 ?_;have hXn:X<kb^n:=hn▸lN X;have hYn:Y<kb^n:=dw (lN Y) (bM dD oO);rw[<-hn,<-oJ kb (n+1)]at hS;refine ku (σ:=Nat×Nat×Nat) (λs ρ w'=>s.1<=n/\s.2.1<kb^s.1/\s.2.2<=1/\s.2.1+kb^s.1*s.2.2=X%kb^s.1+Y%kb^s.1/\ρ 5=vx/\ρ 6=vy/\ρ 7= .slice (some ⟨b1,0,none⟩) (n+1) (n+1)/\ρ 8= .int .u32 s.2.2/\ρ 27=iB n/\ρ 28=iB s.1/\St w2 w' [(b1,141,Kr .u32 (pad kb s.2.1 (n+1)))]) (λs=>n-s.1) (0,0,0)
  ⟨aB _,dD,dD,by simp[dZ],h5,h6,by rw[hn];rfl,rfl,vi rfl (by rw[hn]),rfl,hS⟩ ?_
 clear hS h5 h6;rintro⟨i,r,c⟩ ρ w3 ⟨hi,hr,hc,hinv,h5,h6,h7,h8,h27,h28,hS⟩;simp only at hi hr hc hinv h5 h6 h7 h8 h27 h28 hS;refine V1 ?_;by_cases hlt:i<n
 ·refine J6 ?_;refine jp (ki rfl (hy.j4 hS.j4) ⟨_,Tryz.underlying139⟩ ?_);refine V1 ?_;refine kx (λρ w'=>ρ 5=vx/\ρ 6=vy/\ρ 7= .slice (some ⟨b1,0,none⟩) (n+1) (n+1)/\ρ 8= .int .u32 c/\ρ 9=iB i/\ρ 10= .int .u32 (kS kb Y i:Nat)/\ρ 27=iB n/\ρ 28=iB i/\w3=w') ?_ ?_
  ·by_cases hlt2:i<(kJ Y).length
   ·refine J3 ?_;refine jp (kj (i:=i) rfl rfl (hy.j4 hS.j4) oO dO li (jq (kt (i:=i) 0 rfl kI (hy.j4 hS.j4) dO rfl rfl (.inr rfl) ?_)));refine V1 ?_;exact⟨_,rfl,h5,h6,h7,h8,rfl,vi rfl (by rw[l9]),h27,h28,rfl⟩
   ·refine V1 ?_;exact⟨_,rfl,h5,h6,h7,h8,rfl,vi rfl (by rw[uc (dw (lN Y) (bM dD oO))];rfl),h27,h28,rfl⟩
  clear h5 h6 h7 h8 h27 h28;rintro ρ w' ⟨h5,h6,h7,h8,h9,h10,h27,h28,rfl⟩;have hx1:kS kb X i<kb:=qF dD X i;have hy1:kS kb Y i<kb:=qF dD Y i;have hgx:(kJ X).getD i 0=kS kb X i:=l9 X i;have hil:i<(kJ X).length:=oO;refine J4 ?_;refine jp (kj (i:=i) rfl rfl (hx.j4 hS.j4) oO dO li (jq (kt (i:=i) 0 rfl kI (hx.j4 hS.j4) dO rfl rfl (.inr rfl) ?_)));refine J2 ?_;refine jh (j6 Tryz.call117 rfl (HU _ _ _ _ (by rw[hgx];exact hx1) hy1 (by unfold kb;omega)) ?_);rintro v w' ⟨rfl,rfl⟩;refine J3 ?_;refine jp (kD (i:=i) rfl rfl oO dO li (jh (pf (k:=0) (i:=i) (a:=_) rfl rfl rfl kI hS rfl oO dO ?_)));intro wz3 hS;refine V1 ?_;obtain⟨e1,e2⟩:=xo (b:=kb) (r:=r) (i:=i) (d:=(kS kb X i+kS kb Y i+c)%kb) (n:=n+1) dD hr (bG _ dD);rw[hgx,e1]at hS;refine V2 ?_;refine⟨(i+1,r+kb^i*((kS kb X i+kS kb Y i+c)%kb),(kS kb X i+kS kb Y i+c)/kb),_,rfl,⟨hlt,e2,?_,?_,h5,h6,h7,vi rfl (by rw[hgx]),h27,vi rfl (by simp),hS⟩,by simp only;omega⟩
  ·simp only;unfold kb at*;omega
  ·simp only;rw[mod_pow_succ,mod_pow_succ,bC,dU,bk,<-ba,fo,ba,ba];omega
 ·refine J1 ?_;refine jt ?_;obtain rfl:i=n:=oO;rw[bh hXn,bh hYn]at hinv;refine J2 ?_;refine jp (ki rfl (hx.j4 hS.j4) ⟨_,Tryz.underlying139⟩ ?_);refine J1 ?_;refine jp (kD (i:=i) rfl rfl oO dO li (jh (pf (k:=0) (i:=i) (a:=_) rfl rfl rfl kI hS rfl oO dO ?_)));intro wz4 hS;refine ja ?_;obtain⟨e1,e2⟩:=xo (b:=kb) (r:=r) (i:=i) (d:=c) (n:=i+1) dD hr (by unfold kb;omega);rw[hn,<-hn,e1,hinv]at hS;rw[hinv]at e2;have hsl:=hS.Iu (k:=0) rfl (n:=i+1) (cap:=i+1) (by simp) (aH _) oO;rw[aV (by simp)]at hsl;refine J1 ?_;refine jh (j6 Tryz.call70 rfl (u7 _ _ _ hsl (sP dD _ _) (by simp;omega)) ?_);rintro r w4 ⟨rfl,hB4⟩;refine J1 ?_;refine jt ?_;refine kB rfl rfl ?_;rw[mP e2];exact⟨rfl,bt hB2 (bt hS.j4 hB4)⟩
theorem G4 (vx vy:Value) (X Y:Nat) (w:World) (hx:Sl (uk .u32) 1 w vx (kJ X)) (hy:Sl (uk .u32) 1 w vy (kJ Y)) (hYX:Y<=X) (hmx:(kJ X).length<=17592186044416):
  lU Tryz.prog 119 #[vx,vy] w λr w'=>Sl (uk .u32) 1 w' r (kJ (X-Y))/\Below w.heap.size w w':=by
 have hS:=St.init w;obtain⟨n,hn⟩:=jz ((kJ X).length);have hle:(kJ Y).length<=n:=hn▸nH dD hYX;refine enter Tryz.func119 rfl Tryz.ntmps119 rfl ?_;refine J2 ?_;refine jp (ki rfl (hx.j4 hS.j4) ⟨_,Tryz.underlying139⟩ (jh (pN (n:=(kJ X).length) rfl rfl li oO oO oO oO hS ?_)));intro b1 wz2 hS hBz2;refine J3 ?_;refine jp (ki rfl (hx.j4 hS.j4) ⟨_,Tryz.underlying139⟩ ?_);refine V1 ?_;have hXn:X<kb^n:=hn▸lN X;have hYn:Y<kb^n:=dw (lN Y) (bM dD oO);rw[<-hn,<-oJ kb n]at hS;refine ku (σ:=Nat×Nat×Nat) (λs ρ w'=>s.1<=n/\s.2.1<kb^s.1/\s.2.2<=1/\s.2.1+Y%kb^s.1=X%kb^s.1+kb^s.1*s.2.2/\ρ 0=vx/\ρ 1=vy/\ρ 5= .slice (some ⟨b1,0,none⟩) n n/\ρ 6= .int .u32 s.2.2/\ρ 13=iB n/\ρ 14=iB s.1/\St w w' [(b1,141,Kr .u32 (pad kb s.2.1 n))]) (λs=>n-s.1) (0,0,0)
  ⟨aB _,dD,dD,by simp[dZ],rfl,rfl,by rw[hn];rfl,rfl,vi rfl (by rw[hn]),rfl,hS⟩ ?_
 clear hS;rintro⟨i,r,c⟩ ρ w3 ⟨hi,hr,hc,hinv,h0,h1,h5,h6,h13,h14,hS⟩;simp only at hi hr hc hinv h0 h1 h5 h6 h13 h14 hS;refine V1 ?_;by_cases hlt:i<n
 ·refine J6 ?_;refine jp (ki rfl (hy.j4 hS.j4) ⟨_,Tryz.underlying139⟩ ?_);refine V1 ?_;refine kx (λρ w'=>ρ 0=vx/\ρ 1=vy/\ρ 5= .slice (some ⟨b1,0,none⟩) n n/\ρ 6= .int .u32 c/\ρ 7=iB i/\ρ 8= .int .u32 (kS kb Y i:Nat)/\ρ 13=iB n/\ρ 14=iB i/\w3=w') ?_ ?_
  ·by_cases hlt2:i<(kJ Y).length
   ·refine J3 ?_;refine jp (kj (i:=i) rfl rfl (hy.j4 hS.j4) oO dO li (jq (kt (i:=i) 0 rfl kI (hy.j4 hS.j4) dO rfl rfl (.inr rfl) ?_)));refine V1 ?_;exact⟨_,rfl,h0,h1,h5,h6,rfl,vi rfl (by rw[l9]),h13,h14,rfl⟩
   ·refine V1 ?_;exact⟨_,rfl,h0,h1,h5,h6,rfl,vi rfl (by rw[uc (dw (lN Y) (bM dD oO))];rfl),h13,h14,rfl⟩
  clear h0 h1 h5 h6 h13 h14;rintro ρ w' ⟨h0,h1,h5,h6,h7,h8,h13,h14,rfl⟩;have hx1:kS kb X i<kb:=qF dD X i;have hy1:kS kb Y i<kb:=qF dD Y i;have hgx:(kJ X).getD i 0=kS kb X i:=l9 X i;have hil:i<(kJ X).length:=oO;refine J4 ?_;refine jp (kj (i:=i) rfl rfl (hx.j4 hS.j4) oO dO li (jq (kt (i:=i) 0 rfl kI (hx.j4 hS.j4) dO rfl rfl (.inr rfl) ?_)));refine J2 ?_;refine jh (j6 Tryz.call161 rfl (C0 _ _ _ _ (by rw[hgx];exact hx1) hy1 hc) ?_);rintro v w' ⟨rfl,rfl⟩;refine J3 ?_;refine jp (kD (i:=i) rfl rfl oO dO li (jh (pf (k:=0) (i:=i) (a:=_) rfl rfl rfl kI hS rfl oO dO ?_)));intro wz3 hS;refine V1 ?_;obtain⟨d,hd⟩:=jz ((kS kb X i+2*kb-kS kb Y i-c)%kb);obtain⟨c',hc'⟩:∃c',c'=if kS kb X i<kS kb Y i+c then 1 else 0:=⟨_,rfl⟩
  have hdc:d+kS kb Y i+c=kS kb X i+kb*c':=by
   rw[hd,hc'];unfold kb at*;split<;>omega
  have hc1:c'<=1:=by rw[hc'];split<;>omega
  obtain⟨e1,e2⟩:=xo (b:=kb) (r:=r) (i:=i) (d:=d) (n:=n) dD hr (hd▸bG _ dD);rw[hgx,<-hd,e1]at hS;refine V2 ?_;refine⟨(i+1,r+kb^i*d,c'),_,rfl,⟨hlt,e2,hc1,?_,h0,h1,h5,vi rfl (by rw[hgx,hc']),h13,vi rfl (by simp),hS⟩,by simp only;omega⟩;simp only;have h9:kb^i*d+kb^i*kS kb Y i+kb^i*c=kb^i*kS kb X i+kb^i*(kb*c'):=by rw[<-ba,<-ba,hdc,ba]
  rw[mod_pow_succ,mod_pow_succ,bC,bk];omega
 ·refine J1 ?_;refine jt ?_;obtain rfl:i=n:=oO;rw[bh hXn,bh hYn]at hinv;have hc0:c=0:=by
   rcases bI c 1 with h|h
   ·omega
   ·obtain rfl:c=1:=oO;omega
  subst hc0;have hr2:r=X-Y:=oO;have hsl:=hS.Iu (k:=0) rfl (n:=i) (cap:=i) (by simp) (aH _) oO;rw[aV (by simp)]at hsl;refine J1 ?_;refine jh (j6 Tryz.call112 rfl (xz _ _ _ hsl (sP dD _ _)) ?_);rintro v w3 ⟨hv,rfl⟩;refine J1 ?_;refine jt ?_;refine kB rfl rfl ?_;rw[mP hr,hr2]at hv;exact⟨hv,hS.j4⟩
theorem AN (a b:ByteArray) (w:World) (ha:a.size<=4398046511104) (hb:b.size<=4398046511104):
  lU Tryz.prog 75 #[.string a,.string b] w λr w'=>
   (if val b<=val a then r= .tuple #[.string (kG (val a-val b)),.bool true]else r= .tuple #[.string ⟨#[]⟩,.bool false])/\Below w.heap.size w w':=by
 have hla:=mS a;have hlb:=mS b;refine enter Tryz.func75 rfl Tryz.ntmps75 rfl ?_;refine J3 ?_;refine jh (j6 Tryz.call69 rfl (qo _ _ oO) ?_);rintro vx w1 ⟨hx,hB1⟩;refine J1 ?_;refine jh (j6 Tryz.call69 rfl (qo _ _ oO) ?_);rintro vy w2 ⟨hy,hB2⟩;refine V2 ?_;have hx:=hx.j4 hB2;have hB2:=bt hB1 hB2;refine J2 ?_;refine jh (j6 Tryz.call118 rfl (BK _ _ _ _ _ hx hy) ?_);rintro v w3 ⟨rfl,hB3⟩;refine V1 ?_;have hx:=hx.j4 hB3;have hy:=hy.j4 hB3;have hB3:=bt hB2 hB3;by_cases h:val b<=val a
 ·refine lx rfl (ae (by unfold sn;split<;>(try split)<;>omega)) ?_;refine J2 ?_;refine jh (j6 Tryz.call119 rfl (G4 _ _ _ _ _ hx hy h oO) ?_);rintro v w4 ⟨hv,hB4⟩;have hlv:(kJ (val a-val b)).length<=(kJ (val a)).length:=nH dD oO;refine jh (j6 Tryz.call70 rfl (u7 _ _ _ hv (xG _) oO) ?_);rintro r w5 ⟨rfl,hB5⟩;refine J2 ?_;refine jt ?_;refine rD rfl rfl rfl ?_;rw[aj h,qH];exact⟨rfl,bt hB3 (bt hB4 hB5)⟩
 ·refine k9 rfl (ao (by unfold sn;rw[aj oO];decide)) ?_;refine J2 ?_;refine jt ?_;refine rD rfl rfl rfl ?_;rw[ah h];exact⟨rfl,hB3⟩
theorem Eu (b v k:Nat):v=v%b^k+b^k*(kS b v k+b*(v/b^(k+1))):=by
 have h1:=oZ b v k;have h2:=fo v (b^k);rw[h1]at h2;rw[fa (kS b v k)];exact h2.symm
theorem FQ {b v k d n:Nat} (hb:2<=b) (hd:d<b) (hk:k<n):∃v',(pad b v n).set k d=pad b v' n/\v'+b^k*kS b v k=v+b^k*d/\(∀m,k<m->v<b^m->v'<b^m):=by
 have hb':0<b:=oO;have hs:=Eu b v k;have hlo:v%b^k<b^k:=rO hb' v k;have hdv:=qF hb' v k;refine⟨v%b^k+b^k*(d+b*(v/b^(k+1))),?_,?_,?_⟩
 ·rw[Nz (b:=b) (v:=v%b^k+b^k*(d+b*(v/b^(k+1)))) (L:=(pad b v n).set k d) ?_]
  ·simp
  ·intro j hj;have hj':j<n:=by simpa using hj
   rw[ap,fu];split
   ·rename_i h;subst h;rw[aj (by simpa using hk),fc,Ju hb',bV hlo,bZ,eJ,bh hd]
   ·rename_i h;rw[<-ap,nS b v hj'];rcases bI j k with h1|h1
    ·rw[yk hb' _ _ h1];conv=>lhs;rw[hs]
     rw[yk hb' _ _ h1]
    ·have hdiv:∀e,e<b->(v%b^k+b^k*(e+b*(v/b^(k+1))))/b^j=v/b^(k+1)/b^(j-(k+1)):=by
      intro e he;have:b^j=b^k*b*b^(j-(k+1)):=by rw[<-bC,<-dB];congr 1;omega
      rw[this,<-cV,<-cV,da _ _ (cG hb'),bV hlo,bZ,da _ _ hb',bV he,bZ]
     unfold kS at*;rw[hdiv d hd];conv=>lhs;rw[hs,hdiv _ hdv]
 ·have hL:v%b^k+b^k*kS b v k+b^k*(b*(v/b^(k+1)))=v:=by rw[dU,<-ba];exact hs.symm
  rw[ba];omega
 ·intro m hm hv;have hm2:b^m=b^(k+1)*b^(m-(k+1)):=by rw[<-dB];congr 1;omega
  have h1:v/b^(k+1)<b^(m-(k+1)):=by rw[hm2]at hv;exact di hv
  have h2:v%b^k+b^k*(d+b*(v/b^(k+1)))<b^k*b*(v/b^(k+1)+1):=by
   have:b^k*(d+1)<=b^k*b:=bB _ hd;rw[ba]at this;rw[ba,ba,<-bk];omega
  have h3:b^k*b*(v/b^(k+1)+1)<=b^m:=by rw[hm2,bC];exact bB _ h1
  omega
theorem lV (v j:Nat):kS kb v j<=4294967295:=by
 have h1:=qF (b:=kb) dD v j;have h2:kb=4294967296:=rfl;omega
theorem yp (x y q c:Nat) (hx:x<=4294967295) (hy:y<=4294967295) (hq:q<=4294967295) (hc:c<=4294967295):x*y<=18446744065119617025/\x*y+q+c<=18446744073709551615:=by
 have:x*y<=4294967295*4294967295:=fg hx hy;omega
theorem HV (a b:ByteArray) (w:World) (ha:a.size<=4398046511104) (hb:b.size<=4398046511104):
  lU Tryz.prog 30 #[.string a,.string b] w λr w'=>r= .string (kG (val a*val b))/\Below w.heap.size w w':=by
 have hla:=mS a;have hlb:=mS b;refine enter Tryz.func30 rfl Tryz.ntmps30 rfl ?_;refine J2 ?_;refine jh (j6 Tryz.call69 rfl (qo _ _ oO) ?_);rintro vx w1 ⟨hx,hB1⟩;refine J1 ?_;refine jh (j6 Tryz.call69 rfl (qo _ _ oO) ?_);rintro vy w2 ⟨hy,hB2⟩;refine V2 ?_;have hx:=hx.j4 hB2;have hB2:=bt hB1 hB2;clear hB1;have hS:=St.init w2;generalize val a=X at*;generalize val b=Y at*;obtain⟨m,hm⟩:=jz ((kJ X).length);obtain⟨n,hn⟩:=jz ((kJ Y).length);have hXm:X<kb^m:=hm▸lN X;have hYn:Y<kb^n:=hn▸lN Y;refine J1 ?_;refine jp (ki rfl (hx.j4 hS.j4) ⟨_,Tryz.underlying139⟩ ?_);refine J1 ?_;refine jp (ki rfl (hy.j4 hS.j4) ⟨_,Tryz.underlying139⟩ ?_);refine J1 ?_;refine jh (pN (n:=m+n) rfl rfl li oO oO oO oO hS ?_);intro b1 wz2 hS hBz2;refine J2 ?_;refine jp (ki rfl (hx.j4 hS.j4) ⟨_,Tryz.underlying139⟩ ?_);refine V1 ?_;rw[<-oJ kb (m+n)]at hS;refine ku (σ:=Nat) (λi ρ w'=>i<=m/\ρ 6=vy/\ρ 7= .slice (some ⟨b1,0,none⟩) (m+n) (m+n)/\ρ 24=vx/\ρ 25=iB m/\ρ 26=iB i/\St w2 w' [(b1,141,Kr .u32 (pad kb (X%kb^i*Y) (m+n)))]) (λi=>m-i) 0
  ⟨aB _,rfl,rfl,rfl,vi rfl (by rw[hm]),rfl,by rw[cU,dZ,fp];exact hS⟩ ?_
 clear hS;rintro i ρ w3 ⟨hi,h6,h7,h24,h25,h26,hS⟩;refine V1 ?_;by_cases hlt:i<m
 ·refine V1 ?_;have him:i<(kJ X).length:=oO;refine J1 ?_;refine jp (kj (i:=i) h24 h26 (hx.j4 hS.j4) oO dO li (jq (kt (i:=i) 0 rfl kI (hx.j4 hS.j4) dO rfl rfl (.inr rfl) ?_)));refine J4 ?_;refine jp (ki rfl (hy.j4 hS.j4) ⟨_,Tryz.underlying139⟩ ?_);refine V1 ?_;have hP0:X%kb^i*Y<kb^(i+n):=by
   rw[dB];exact ib (rO dD X i) (fS hYn) (cG dD)
  refine ku (σ:=Nat×Nat×Nat) (λs ρ w'=>s.1<=n/\s.2.1<kb^(i+n)/\s.2.2<=4294967295/\s.2.1+kb^(i+s.1)*s.2.2=X%kb^i*Y+kb^i*(kS kb X i*(Y%kb^s.1))/\ρ 6=vy/\ρ 7= .slice (some ⟨b1,0,none⟩) (m+n) (m+n)/\ρ 8=iB i/\ρ 9= .int .u32 (kS kb X i:Nat)/\ρ 10= .int .u64 s.2.2/\ρ 24=vx/\ρ 25=iB m/\ρ 26=iB i/\ρ 31=vy/\ρ 32=iB n/\ρ 33=iB s.1/\St w2 w' [(b1,141,Kr .u32 (pad kb s.2.1 (m+n)))]) (λs=>n-s.1) (0,X%kb^i*Y,0)
   ⟨aB _,hP0,aB _,by simp[dZ],h6,h7,rfl,vi rfl (by rw[l9]),rfl,h24,h25,h26,rfl,vi rfl (by rw[hn]),rfl,hS⟩ ?_
  clear hS h6 h7 h24 h25 h26;rintro⟨k,q,c⟩ ρ w4 ⟨hk,hq,hc,hinv,h6,h7,h8,h9,h10,h24,h25,h26,h31,h32,h33,hS⟩;simp only at hk hq hc hinv h6 h7 h8 h9 h10 h24 h25 h26 h31 h32 h33 hS;refine V1 ?_;by_cases hlt2:k<n
  ·refine V1 ?_;have hkn:k<(kJ Y).length:=oO;have hikm:i+k<m+n:=oO;refine J1 ?_;refine jp (kj (i:=k) h31 h33 (hy.j4 hS.j4) oO dO li (jq (kt (i:=k) 0 rfl kI (hy.j4 hS.j4) dO rfl rfl (.inr rfl) ?_)));refine V2 ?_;rw[l9];have hgq:(pad kb q (m+n)).getD (i+k) 0=kS kb q (i+k):=nS _ _ hikm;have x1:=lV X i;have y1:=lV Y k;have q1:=lV q (i+k);obtain⟨u1,u2⟩:=yp _ _ _ _ x1 y1 q1 hc;refine J4 ?_;refine jp (wk rfl rfl (r:=((kS kb X i*kS kb Y k:Nat):Int)) (by exact kX _ ⟨by push_cast;rfl,oO,oO⟩) ?_);refine J4 ?_;refine jp (kD (i:=i+k) rfl rfl oO dO li (jq (nN (k:=0) (i:=i+k) rfl kI hS rfl oO dO (jp (kH rfl Tryz.underlying99 ⟨_,Tryz.underlying141⟩ (r:=((kS kb q (i+k):Nat):Int)) (by rw[hgq];exact kX _ ⟨rfl,oO,oO⟩) (jp (oU rfl rfl (r:=((kS kb X i*kS kb Y k+kS kb q (i+k):Nat):Int)) (by exact kX _ ⟨by push_cast;rfl,oO,oO⟩) ?_)))))));refine J1 ?_;refine jp (oU rfl rfl (r:=((kS kb X i*kS kb Y k+kS kb q (i+k)+c:Nat):Int)) (by exact kX _ ⟨by push_cast;rfl,oO,oO⟩) ?_);refine V1 ?_;obtain⟨t,ht⟩:=jz (kS kb X i*kS kb Y k+kS kb q (i+k)+c);have ht2:t<=18446744073709551615:=by rw[ht];exact u2
   rw[<-ht];refine J5 ?_;refine jp (kH rfl Tryz.underlying141 ⟨_,Tryz.underlying99⟩ (r7 _) (jp (kD (i:=i+k) rfl rfl oO dO li (jh (pf (k:=0) (i:=i+k) (a:=_) rfl rfl rfl kI hS rfl oO dO ?_)))));intro wz3 hS;refine J1 ?_;refine jp (pW rfl rfl oO (r:=((t/4294967296:Nat):Int)) (by exact qg _ 32 dD) ?_);refine V1 ?_;obtain⟨q',e1,e2,e3⟩:=FQ (b:=kb) (v:=q) (k:=i+k) (d:=t%4294967296) (n:=m+n) dD (bG _ dD) hikm;rw[e1]at hS;refine V2 ?_;refine⟨(k+1,q',t/4294967296),_,rfl,⟨hlt2,e3 _ oO hq,by simp only;omega,?_,h6,h7,h8,h9,rfl,h24,h25,h26,h31,h32,vi rfl (by simp),hS⟩,by simp only;omega⟩;simp only;have f1:kb^(i+(k+1))*(t/4294967296)=kb^(i+k)*(kb*(t/4294967296)):=by rw[<-dU,bC,bk]
   have f2:kb^(i+k)*(t%4294967296)+kb^(i+k)*(kb*(t/4294967296))=kb^(i+k)*t:=by rw[<-ba];congr 1;unfold kb;omega
   have f3:kb^(i+k)*t=kb^(i+k)*(kS kb X i*kS kb Y k)+kb^(i+k)*kS kb q (i+k)+kb^(i+k)*c:=by rw[ht,ba,ba]
   have f4:kb^i*(kS kb X i*(Y%kb^(k+1)))=kb^i*(kS kb X i*(Y%kb^k))+kb^(i+k)*(kS kb X i*kS kb Y k):=by
    rw[mod_pow_succ,ba,ba,dB];congr 1;ac_rfl
   omega
  ·refine J1 ?_;refine jt ?_;obtain rfl:k=n:=oO;rw[bh hYn]at hinv;have hikm:i+k<m+k:=oO;refine J3 ?_;refine jp (ki rfl (hy.j4 hS.j4) ⟨_,Tryz.underlying139⟩ ?_);refine J2 ?_;refine jp (kH rfl Tryz.underlying141 ⟨_,Tryz.underlying99⟩ (r:=((c:Nat):Int)) (by exact pm _ oO) (jp (kD (i:=i+k) rfl rfl oO dO li (jh (pf (k:=0) (i:=i+k) (a:=_) rfl rfl rfl kI hS rfl oO dO ?_)))));intro wz4 hS;refine ja ?_;obtain⟨e1,e2⟩:=xo (b:=kb) (r:=q) (i:=i+k) (d:=c) (n:=m+k) dD hq (by unfold kb;omega);have e3:q+kb^(i+k)*c=X%kb^(i+1)*Y:=by rw[hinv,mod_pow_succ,bA,bk]
   rw[show [(b1,141,Kr IntKind.u32 (pad kb q (m+k)))].set 0 (b1,141,Kr IntKind.u32 ((pad kb q (m+k)).set (i+k) c))=[(b1,141,Kr IntKind.u32 ((pad kb q (m+k)).set (i+k) c))]from rfl,e1,e3]at hS;refine V2 ?_;exact⟨i+1,_,rfl,⟨hlt,h6,h7,h24,h25,vi rfl oO,hS⟩,oO⟩
 ·refine J1 ?_;refine jt ?_;obtain rfl:i=m:=oO;rw[bh hXm]at hS;have hXY:X*Y<kb^(i+n):=by
   rw[dB];exact ib hXm (fS hYn) (cG dD)
  have hsl:=hS.Iu (k:=0) rfl (n:=i+n) (cap:=i+n) (by simp) (aH _) oO;rw[aV (by simp)]at hsl;refine J1 ?_;refine jh (j6 Tryz.call70 rfl (u7 _ _ _ hsl (sP dD _ _) (by simp;omega)) ?_);rintro r w4 ⟨rfl,hB4⟩;refine J1 ?_;refine jt ?_;refine kB rfl rfl ?_;rw[mP hXY];exact⟨rfl,bt hB2 (bt hS.j4 hB4)⟩
theorem tW {b q i e n:Nat} (hb:2<=b) (he:e<b) (hi:0<i) (hin:i<=n) (hq:b^i*q<b^n):
  (pad b (b^i*q) n).set (i-1) e=pad b (b^(i-1)*(b*q+e)) n/\b^(i-1)*(b*q+e)<b^n:=by
 obtain⟨v',e1,e2,e3⟩:=FQ (b:=b) (v:=b^i*q) (k:=i-1) (d:=e) (n:=n) hb he oO;have h1:b^i=b^(i-1)*b:=by rw[<-bC];congr 1;omega
 have h0:kS b (b^i*q) (i-1)=0:=by
  unfold kS;rw[h1,bk,Nat.mul_div_cancel_left _ (cG oO),Nat.mul_mod_right]
 rw[h0,eV,ef]at e2;have h2:v'=b^(i-1)*(b*q+e):=by rw[e2,ba,h1,bk]
 rw[e1,h2];exact⟨rfl,h2▸e3 n oO hq⟩
theorem Cw (vx:Value) (X d:Nat) (w:World) (hx:Sl (uk .u32) 1 w vx (kJ X)) (hd:0<d) (hd2:d<=4294967295) (hmx:(kJ X).length<=17592186044416):
  lU Tryz.prog 153 #[vx,.int .u32 d] w λr w'=>(∃v,r= .tuple #[v,.int .u32 (X%d:Nat)]/\Sl (uk .u32) 1 w' v (kJ (X/d)))/\Below w.heap.size w w':=by
 have hS:=St.init w;obtain⟨n,hn⟩:=jz ((kJ X).length);have hXn:X<kb^n:=hn▸lN X;refine enter Tryz.func153 rfl Tryz.ntmps153 rfl ?_;refine J3 ?_;refine jp (ki rfl (hx.j4 hS.j4) ⟨_,Tryz.underlying139⟩ (jh (pN (n:=(kJ X).length) rfl rfl li oO oO oO oO hS ?_)));intro b1 wz2 hS hBz2;refine J3 ?_;refine jp (ki rfl (hx.j4 hS.j4) ⟨_,Tryz.underlying139⟩ ?_);refine V2 ?_;rw[<-hn,<-oJ kb n]at hS;refine ku (σ:=Nat×Nat×Nat) (λs ρ w'=>s.1<=n/\s.2.2<d/\X/kb^s.1=s.2.1*d+s.2.2/\kb^s.1*s.2.1<kb^n/\ρ 0=vx/\ρ 1= .int .u32 d/\ρ 6= .slice (some ⟨b1,0,none⟩) n n/\ρ 7= .int .u64 s.2.2/\ρ 8=iB ((s.1:Int)-1)/\St w w' [(b1,141,Kr .u32 (pad kb (kb^s.1*s.2.1) n))]) (λs=>s.1) (n,0,0)
  ⟨aH _,hd,by simp only[fp];exact bV hXn,by simp only[eV];omega,rfl,rfl,by rw[hn];rfl,rfl,vi rfl (by rw[hn]),hS⟩ ?_
 clear hS;rintro⟨i,q,r⟩ ρ w3 ⟨hi,hr,hinv,hq,h0,h1,h6,h7,h8,hS⟩;simp only at hi hr hinv hq h0 h1 h6 h7 h8 hS;refine V2 ?_;by_cases hlt:0<i
 ·refine V1 ?_;have hil:i-1<(kJ X).length:=oO;have x1:=lV X (i-1);have hg:(kJ X).getD (i-1) 0=kS kb X (i-1):=l9 X (i-1);have hor:r*2^32|||kS kb X (i-1)=kS kb X (i-1)+r*2^32:=by rw[gk];exact ut _ _ _ oO
  refine J1 ?_;refine jp (uS rfl rfl oO (r:=((r*2^32:Nat):Int)) (by exact uX r 32 _ dD (kX _ ⟨rfl,oO,oO⟩)) ?_);refine J2 ?_;refine jp (kj (i:=i-1) rfl rfl (hx.j4 hS.j4) oO dO li (jq (kt (i:=i-1) 0 rfl kI (hx.j4 hS.j4) dO rfl rfl (.inr rfl) (jp (kH rfl Tryz.underlying99 ⟨_,Tryz.underlying141⟩ (r:=((kS kb X (i-1):Nat):Int)) (by rw[hg];exact kX _ ⟨rfl,oO,oO⟩) (jp (zt rfl rfl (r:=((kS kb X (i-1)+r*2^32:Nat):Int)) (by rw[<-hor];exact rj rfl _ _ (by show _<18446744073709551616;omega) (by show _<18446744073709551616;omega)) ?_)))))));refine V1 ?_;obtain⟨t,ht⟩:=jz (kS kb X (i-1)+r*2^32);rw[<-ht];have ht1:t/d<=4294967295:=by
   have:t<d*4294967296:=by
    have:(r+1)*4294967296<=d*4294967296:=aO _ hr;omega
   have:=di this;omega
  refine J4 ?_;refine jp (kH rfl Tryz.underlying99 ⟨_,Tryz.underlying141⟩ (r:=((d:Nat):Int)) (by exact kX _ ⟨rfl,oO,oO⟩) (jp (rL rfl rfl oO (i7 _ _ oO) (jp (kH rfl Tryz.underlying141 ⟨_,Tryz.underlying99⟩ (r:=((t/d:Nat):Int)) (by exact pm _ ⟨by push_cast;rfl,eh _,by generalize t/d=z at ht1⊢;omega⟩) (jp (kD (i:=i-1) rfl rfl oO dO li (jh (pf (k:=0) (i:=i-1) (a:=_) rfl rfl rfl kI hS rfl oO dO ?_)))))))));intro wz3 hS;refine J2 ?_;refine jp (kH rfl Tryz.underlying99 ⟨_,Tryz.underlying141⟩ (r:=((d:Nat):Int)) (by exact kX _ ⟨rfl,oO,oO⟩) (jp (pC rfl rfl oO (r:=((t%d:Nat):Int)) (by rw[fi oO];push_cast;rfl) ?_)));refine V1 ?_;obtain⟨e1,e2⟩:=tW (b:=kb) (q:=q) (i:=i) (e:=t/d) (n:=n) dD (by unfold kb;omega) hlt hi hq;rw[e1]at hS;refine V3 ?_;have hs:=oZ kb X (i-1);rw[show i-1+1=i by omega,hinv]at hs;refine⟨(i-1,kb*q+t/d,t%d),_,rfl,⟨by simp only;omega,bG _ hd,?_,e2,h0,h1,h6,rfl,vi rfl (by simp only;omega),hS⟩,by simp only;omega⟩;simp only;have h9:=cJ t d;have h10:kb=2^32:=rfl;rw[hs,bA,ba,bk,dU,dU,bF (t/d) d,h9,ht,h10];omega
 ·refine J1 ?_;refine jt ?_;obtain rfl:i=0:=oO;rw[cU,ft]at hinv;rw[cU,dJ]at hS hq;have hqd:X/d=q:=by rw[hinv,fa,iW _ _ hd,bV hr,bZ]
  have hrd:X%d=r:=by rw[hinv,ic,bh hr]
  have hsl:=hS.Iu (k:=0) rfl (n:=n) (cap:=n) (by simp) (aH _) oO;rw[aV (by simp)]at hsl;refine J1 ?_;refine jh (j6 Tryz.call112 rfl (xz _ _ _ hsl (sP dD _ _)) ?_);rintro v w3 ⟨hv,rfl⟩;refine J1 ?_;refine jp (kH rfl Tryz.underlying141 ⟨_,Tryz.underlying99⟩ (r:=((r:Nat):Int)) (by exact pm _ ⟨rfl,oO,oO⟩) ?_);refine J2 ?_;refine jt ?_;refine rD rfl rfl rfl ?_;rw[mP hq]at hv;rw[hqd,hrd];exact⟨⟨v,rfl,hv⟩,hS.j4⟩
theorem GR (a x by_:Nat) (hb:by_<=32) (ha:a<2^by_):a|||(x*2^by_)%4294967296=a+(x*2^by_)%4294967296:=by
 have h:(4294967296:Nat)=2^(32-by_)*2^by_:=by rw[<-dB,eQ hb]
 rw[h,iU];exact ut _ _ _ ha
theorem DU (a x by_:Nat) (hb:by_<=32) (ha:a<2^by_):a+(x*2^by_)%4294967296<4294967296:=by
 have h:(4294967296:Nat)=2^(32-by_)*2^by_:=by rw[<-dB,eQ hb]
 have h1:(x*2^by_)%4294967296=x%2^(32-by_)*2^by_:=by rw[h,iU]
 have h2:x%2^(32-by_)+1<=2^(32-by_):=bG _ (cG dD);have h3:=aO (2^by_) h2;rw[<-h,bA]at h3;omega
theorem Hj (vx:Value) (X c n:Nat) (w:World) (hx:Sl (uk .u32) 1 w vx (kJ X)) (hc:c<32) (hn:(kJ X).length<=n) (hXn:X*2^c<kb^n) (hmx:n<=17592186044416):
  lU Tryz.prog 155 #[vx,.int .u64 c,.int .i64 n] w λr w'=>
   (∃b,r= .slice (some ⟨b,0,none⟩) n n/\w.heap.size<=b/\w'.heap[b]?=some (.cells (Kr .u32 (pad kb (X*2^c) n)).toArray 141 (0,0)))/\Below w.heap.size w w':=by
 have hS:=St.init w;obtain⟨m,hm⟩:=jz ((kJ X).length);have hXm:X<kb^m:=hm▸lN X;have hp2:2^c<=2^31:=bM dD oO;have hpos:0<2^c:=cG dD;refine enter Tryz.func155 rfl Tryz.ntmps155 rfl ?_;refine J2 ?_;refine jh (pN (n:=n) rfl rfl li oO oO oO oO hS ?_);intro b1 wz2 hS hBz2;refine J2 ?_;refine jp (ki rfl (hx.j4 hS.j4) ⟨_,Tryz.underlying139⟩ ?_);refine V1 ?_;rw[<-oJ kb n]at hS;refine ku (σ:=Nat) (λi ρ w'=>i<=m/\ρ 1= .int .u64 c/\ρ 2=iB n/\ρ 7= .slice (some ⟨b1,0,none⟩) n n/\ρ 13=vx/\ρ 14=iB m/\ρ 15=iB i/\St w w' [(b1,141,Kr .u32 (pad kb (X%kb^i*2^c) n))]) (λi=>m-i) 0
  ⟨aB _,rfl,rfl,rfl,rfl,vi rfl (by rw[hm]),rfl,by rw[cU,dZ,fp];exact hS⟩ ?_
 clear hS;rintro i ρ w3 ⟨hi,h1,h2,h7,h13,h14,h15,hS⟩;refine V1 ?_;by_cases hlt:i<m
 ·refine V1 ?_;have hil:i<(kJ X).length:=oO;have x1:=lV X i;refine J1 ?_;refine jp (kj (i:=i) h13 h15 (hx.j4 hS.j4) oO dO li (jq (kt (i:=i) 0 rfl kI (hx.j4 hS.j4) dO rfl rfl (.inr rfl) ?_)));refine V2 ?_;rw[l9];obtain⟨x,hxd⟩:=jz (kS kb X i);rw[<-hxd]at x1⊢;have hx2:x*2^c<=4294967295*2^31:=fg x1 hp2;obtain⟨V,hV⟩:=jz (X%kb^i*2^c);have hVs:X%kb^(i+1)*2^c=V+kb^i*(x*2^c):=by rw[mod_pow_succ,bA,<-hV,bk,hxd]
  have hVlt:V<kb^i*2^c:=by rw[hV];exact de (rO dD X i) hpos
  have hBi:0<kb^i:=cG dD;have hVd:V/kb^i<2^c:=di hVlt;have hVb:V<kb^(i+1):=by
   have:kb^i*2^c<=kb^i*kb:=bB _ (by unfold kb;omega);rw[bC];omega
  have hdg:kS kb V i=V/kb^i:=rz dD hVb;have hfit:=DU (V/kb^i) x c oO hVd;have hget:(pad kb V n).getD i 0=V/kb^i:=by rw[nS _ _ oO,hdg]
  rw[<-hV]at hS;have hsplit:=cJ (x*2^c) 4294967296;have hlow:V+kb^i*((x*2^c)%4294967296)<kb^(i+1):=by
   have h8:=cJ V (kb^i);have h9:=bG V hBi;have h10:kb^i*(V/kb^i+(x*2^c)%4294967296+1)<=kb^i*kb:=bB _ hfit;rw[ba,ba]at h10;rw[bC];omega
  refine J1 ?_;refine jp (kH rfl Tryz.underlying99 ⟨_,Tryz.underlying141⟩ (r:=((x:Nat):Int)) (by exact kX _ ⟨rfl,oO,oO⟩) ?_);refine J1 ?_;refine jp (uS rfl rfl oO (uX x c ((x*2^c:Nat):Int) (by show c<=64;omega) (kX _ ⟨rfl,oO,oO⟩)) ?_);refine J3 ?_;refine jp (kD (i:=i) rfl rfl oO dO li (jq (nN (k:=0) (i:=i) rfl kI hS rfl oO dO ?_)));refine J1 ?_;refine jp (kH rfl Tryz.underlying141 ⟨_,Tryz.underlying99⟩ (r7 _) (jp (zt rfl rfl (r:=((V/kb^i+(x*2^c)%4294967296:Nat):Int)) (by rw[hget,<-GR _ _ _ oO hVd];exact rj rfl _ _ (by show _<4294967296;omega) (by show _<4294967296;omega)) (jp (kD (i:=i) rfl rfl oO dO li (jh (pf (k:=0) (i:=i) (a:=_) rfl rfl rfl kI hS rfl oO dO ?_)))))));intro wz3 hS;refine ja ?_;have hset:=zD (b:=kb) (v:=V) (n:=n) (k:=i) (x:=(x*2^c)%4294967296) dD hVb hlow;rw[hdg]at hset;rw[show [(b1,141,Kr IntKind.u32 (pad kb V n))].set 0 (b1,141,Kr IntKind.u32 ((pad kb V n).set i (V/kb^i+(x*2^c)%4294967296)))=[(b1,141,Kr IntKind.u32 ((pad kb V n).set i (V/kb^i+(x*2^c)%4294967296)))]from rfl,hset]at hS;refine V4 ?_;have hnext:V+kb^i*((x*2^c)%4294967296)+kb^(i+1)*(x*2^c/4294967296)=X%kb^(i+1)*2^c:=by
   have:kb^(i+1)*(x*2^c/4294967296)=kb^i*(4294967296*(x*2^c/4294967296)):=by rw[bC,bk]
   rw[hVs,this,dU,<-ba];congr 2;omega
  have hhi:x*2^c/4294967296<2147483648:=oO;by_cases hlt2:i+1<n
  ·refine V1 ?_;have hget2:(pad kb (V+kb^i*((x*2^c)%4294967296)) n).getD (i+1) 0=0:=by rw[nS _ _ hlt2,uc hlow]
   refine J3 ?_;refine jp (kD (i:=i+1) rfl rfl oO dO li (jq (nN (k:=0) (i:=i+1) rfl kI hS rfl oO dO ?_)));refine J1 ?_;refine jp (pW rfl rfl oO (r:=((x*2^c/4294967296:Nat):Int)) (by exact qg _ 32 dD) (jp (kH rfl Tryz.underlying141 ⟨_,Tryz.underlying99⟩ (r:=((x*2^c/4294967296:Nat):Int)) (by exact pm _ ⟨rfl,oO,oO⟩) (jp (zt rfl rfl (r:=((x*2^c/4294967296:Nat):Int)) (by rw[hget2,rj rfl _ _ dD (by show _<4294967296;omega),Nat.zero_or]) (jp (kD (i:=i+1) rfl rfl oO dO li (jh (pf (k:=0) (i:=i+1) (a:=_) rfl rfl rfl kI hS rfl oO dO ?_)))))))));intro wz4 hS;refine ja ?_;obtain⟨e1,e2⟩:=xo (b:=kb) (r:=V+kb^i*((x*2^c)%4294967296)) (i:=i+1) (d:=x*2^c/4294967296) (n:=n) dD hlow (by unfold kb;omega);rw[e1,hnext]at hS;refine V2 ?_;exact⟨i+1,_,rfl,⟨hlt,h1,h2,h7,h13,h14,vi rfl oO,hS⟩,oO⟩
  ·refine V1 ?_;have hz:x*2^c/4294967296=0:=by
    rcases dm (x*2^c/4294967296)with h|h
    ·exact h
    ·exfalso;have g1:kb^(i+1)*1<=kb^(i+1)*(x*2^c/4294967296):=bB _ h;have g2:X%kb^(i+1)*2^c<=X*2^c:=aO _ (Nat.mod_le _ _);have g3:kb^n<=kb^(i+1):=bM dD oO;omega
   rw[hz,eV,ef]at hnext;rw[hnext]at hS;refine V2 ?_;exact⟨i+1,_,rfl,⟨hlt,h1,h2,h7,h13,h14,vi rfl oO,hS⟩,oO⟩
 ·refine J1 ?_;refine jt ?_;obtain rfl:i=m:=oO;rw[bh hXm]at hS;refine J2 ?_;refine jt ?_;refine kB rfl rfl ?_;exact⟨⟨b1,rfl,hS.ge (k:=0) rfl,hS.get (k:=0) rfl⟩,hS.j4⟩
theorem AD (R c i:Nat) (hc:c<=32):(kS kb R i+kS kb R (i+1)*4294967296)/2^c%4294967296=kS kb (R/2^c) i:=by
 have h1:R/kb^i=4294967296*(R/kb^(i+1))+kS kb R i:=oZ kb R i;have h2:R/kb^(i+1)=4294967296*(R/kb^(i+2))+kS kb R (i+1):=oZ kb R (i+1);have h3:(4294967296:Nat)=2^(32-c)*2^c:=by rw[<-dB,eQ hc]
 have hpos:0<2^c:=cG dD;have h4:kS kb (R/2^c) i=R/kb^i/2^c%4294967296:=by
  unfold kS;rw[cV,cV,bF]
 have h5:R/kb^i=kS kb R i+kS kb R (i+1)*4294967296+2^c*(2^(32-c)*(4294967296*(R/kb^(i+2)))):=by
  rw[<-bk (2^c),bF (2^c),<-h3,h1,h2];omega
 rw[h4,h5,da _ _ hpos];rw[show 2^(32-c)*(4294967296*(R/kb^(i+2)))=4294967296*(2^(32-c)*(R/kb^(i+2))) by ac_rfl,eJ]
theorem II (vx:Value) (R c n:Nat) (w:World) (hx:Sl (uk .u32) 1 w vx (pad kb R n)) (hc:c<32) (hRn:R<kb^n) (hmx:n<=17592186044416):
  lU Tryz.prog 157 #[vx,.int .u64 c] w λr w'=>Sl (uk .u32) 1 w' r (kJ (R/2^c))/\Below w.heap.size w w':=by
 have hS:=St.init w;have hlen:(pad kb R n).length=n:=pad_length _ _ _;refine enter Tryz.func157 rfl Tryz.ntmps157 rfl ?_;refine J2 ?_;refine jp (ki rfl (hx.j4 hS.j4) ⟨_,Tryz.underlying139⟩ (jh (pN (n:=n) rfl rfl li oO oO oO oO hS ?_)));intro b1 wz2 hS hBz2;refine J2 ?_;refine jp (ki rfl (hx.j4 hS.j4) ⟨_,Tryz.underlying139⟩ ?_);refine V1 ?_;rw[<-oJ kb n,show 0=R/2^c%kb^0 by rw[cU,dZ]]at hS;refine ku (σ:=Nat) (λi ρ w'=>i<=n/\ρ 0=vx/\ρ 1= .int .u64 c/\ρ 5= .slice (some ⟨b1,0,none⟩) n n/\ρ 12=iB n/\ρ 13=iB i/\St w w' [(b1,141,Kr .u32 (pad kb (R/2^c%kb^i) n))]) (λi=>n-i) 0
  ⟨aB _,rfl,rfl,rfl,vi rfl (by rw[hlen]),rfl,hS⟩ ?_
 clear hS;rintro i ρ w3 ⟨hi,h0,h1,h5,h12,h13,hS⟩;refine V1 ?_;by_cases hlt:i<n
 ·refine V1 ?_;have x1:=lV R i;have x2:=lV R (i+1);have hg1:(pad kb R n).getD i 0=kS kb R i:=nS _ _ hlt;refine J4 ?_;refine jp (kj (i:=i) rfl rfl (hx.j4 hS.j4) oO dO li (jq (kt (i:=i) 0 rfl kI (hx.j4 hS.j4) dO rfl rfl (.inr rfl) (jp (kH rfl Tryz.underlying99 ⟨_,Tryz.underlying141⟩ (r:=((kS kb R i:Nat):Int)) (by rw[hg1];exact kX _ ⟨rfl,oO,oO⟩) ?_)))));refine J4 ?_;refine jp (ki rfl (hx.j4 hS.j4) ⟨_,Tryz.underlying139⟩ ?_);refine V1 ?_;refine kx (λρ w'=>ρ 0=vx/\ρ 1= .int .u64 c/\ρ 5= .slice (some ⟨b1,0,none⟩) n n/\ρ 6=iB i/\ρ 7= .int .u64 (kS kb R i+kS kb R (i+1)*4294967296:Nat)/\ρ 12=iB n/\ρ 13=iB i/\w3=w') ?_ ?_
  ·by_cases hlt2:i+1<n
   ·refine V1 ?_;have hg2:(pad kb R n).getD (i+1) 0=kS kb R (i+1):=nS _ _ hlt2;refine J4 ?_;refine jp (kj (i:=i+1) rfl rfl (hx.j4 hS.j4) oO dO li (jq (kt (i:=i+1) 0 rfl kI (hx.j4 hS.j4) dO rfl rfl (.inr rfl) (jp (kH rfl Tryz.underlying99 ⟨_,Tryz.underlying141⟩ (r:=((kS kb R (i+1):Nat):Int)) (by rw[hg2];exact kX _ ⟨rfl,oO,oO⟩) (jp (uS rfl rfl oO (r:=((kS kb R (i+1)*2^32:Nat):Int)) (by exact uX _ 32 _ dD (kX _ ⟨rfl,oO,oO⟩)) (jp (zt rfl rfl (r:=((kS kb R i+kS kb R (i+1)*2^32:Nat):Int)) (by rw[<-ut _ _ 32 oO];exact rj rfl _ _ (by show _<18446744073709551616;omega) (by show _<18446744073709551616;omega)) ?_)))))))));refine V1 ?_;exact⟨_,rfl,h0,h1,h5,rfl,rfl,h12,h13,rfl⟩
   ·refine V1 ?_;refine⟨_,rfl,h0,h1,h5,rfl,vi rfl ?_,h12,h13,rfl⟩;have:kS kb R (i+1)=0:=uc (dw hRn (bM dD oO));rw[this];simp
  clear h0 h1 h5 h12 h13;rintro ρ w' ⟨h0,h1,h5,h6,h7,h12,h13,rfl⟩;obtain⟨t,ht⟩:=jz (kS kb R i+kS kb R (i+1)*4294967296);rw[<-ht]at h7;refine J4 ?_;refine jp (pW rfl rfl oO (qg _ _ (show c<=64 by omega)) (jp (kH rfl Tryz.underlying141 ⟨_,Tryz.underlying99⟩ (r7 _) (jp (kD (i:=i) rfl rfl oO dO li (jh (pf (k:=0) (i:=i) (a:=_) rfl rfl rfl kI hS rfl oO dO ?_)))))));intro wz3 hS;refine ja ?_;rw[ht,AD R c i oO,CD dD]at hS;refine V2 ?_;exact⟨i+1,_,rfl,⟨hlt,h0,h1,h5,h12,vi rfl oO,hS⟩,oO⟩
 ·refine J1 ?_;refine jt ?_;obtain rfl:i=n:=oO;have hlt3:R/2^c<kb^i:=ct (dE _ _) hRn;rw[bh hlt3]at hS;have hsl:=hS.Iu (k:=0) rfl (n:=i) (cap:=i) (by simp) (aH _) oO;rw[aV (by simp)]at hsl;refine J1 ?_;refine jh (j6 Tryz.call112 rfl (xz _ _ _ hsl (sP dD _ _)) ?_);rintro v w4 ⟨hv,rfl⟩;refine J1 ?_;refine jt ?_;refine kB rfl rfl ?_;rw[mP hlt3]at hv;exact⟨hv,hS.j4⟩
structure Kn (a b U D top u2 d1 d2:Nat):Prop where
 ha:0<a
 hu:U/a=top*b+u2
 hd:D/a=d1*b+d2
 hu2:u2<b
 hd2:d2<b
 h1:0<d1
 hb:b<=2*d1
 hlt:U<D*b
namespace Kn
variable {a b U D top u2 d1 d2 : Nat}
theorem q_lt (h:Kn a b U D top u2 d1 d2):U/D<b:=by
 have hlt:=h.hlt;exact di hlt
theorem dpos (h:Kn a b U D top u2 d1 d2):0<D:=by
 rcases dm D with h0|h0
 ·have:=h.hlt;rw[h0]at this;omega
 ·exact h0
theorem qT (h:Kn a b U D top u2 d1 d2):U/D*(d1*b+d2)<=top*b+u2:=by
 rw[<-h.hd,<-h.hu];have ha:=h.ha;have h1:U/D*(D/a)*a<=U:=by
  calc U/D*(D/a)*a=U/D*(D/a*a):=bk _ _ _
   _<=U/D*D:=bB _ (gY _ _)
   _<=U:=gY _ _
 exact(d9 ha).2 h1
theorem q_le_top (h:Kn a b U D top u2 d1 d2):U/D<=top/d1:=by
 have h1:=h.qT;rw[ba,<-bk]at h1;have hu2:=h.hu2;have hb:0<b:=oO;have h2:U/D*d1*b<(top+1)*b:=by rw[bA];omega
 have h3:U/D*d1<top+1:=Nat.lt_of_mul_lt_mul_right h2;exact(d9 h.h1).2 oO
theorem refuted (h:Kn a b U D top u2 d1 d2) {g r:Nat} (hg:g*d1+r=top) (hq:U/D<=g) (hc:r*b+u2<g*d2):U/D<g:=by
 rcases bI (U/D) g with h1|h1
 ·exact h1
 ·exfalso;have h2:U/D=g:=oO;have h3:=h.qT;rw[h2,ba,<-bk,<-hg,bA]at h3;omega
theorem near (h:Kn a b U D top u2 d1 d2) {g r:Nat} (hg:g*d1+r=top) (hgb:g<b) (hc:g*d2<=r*b+u2):g<=U/D+1:=by
 have h1:g*(d1*b+d2)<=top*b+u2:=by
  rw[ba,<-bk,<-hg,bA];omega
 rw[<-h.hd,<-h.hu]at h1;have ha:=h.ha;have hD:=cJ D a;have hDl:=bG D ha;have h2:g*(D/a)*a<=U:=dx (aO _ h1) (gY _ _);have h3:b*a<=D:=by
  have h5:b*a<=D/a*a:=by
   refine aO _ ?_;rw[h.hd];have:1*b<=d1*b:=aO _ h.h1;omega
  exact dx h5 (gY _ _)
 have h4:g*D<=U+D:=by
  have e:g*D=g*(D/a)*a+g*(D%a):=by
   conv=>lhs;rw[<-hD]
   rw[ba,bk,bF a]
  have f:g*(D%a)<=b*a:=fg (fS hgb) (fS hDl);omega
 have h6:(g-1)*D<=U:=by rw[Nat.sub_mul,dJ];omega
 have:=(d9 h.dpos).2 h6;omega
theorem rest (h:Kn a b U D top u2 d1 d2) {g r:Nat} (hg:g*d1+r=top) (hgb:g<=b) (hr:b<=r):g<=U/D:=by
 have hb0:0<b:=by have:=h.hd2;omega
 have ha:=h.ha;have hu:U/(a*b)=top:=by rw[<-cV,h.hu,bF,iR hb0,bV h.hu2,ef]
 have hd:D/(a*b)=d1:=by rw[<-cV,h.hd,bF,iR hb0,bV h.hd2,ef]
 have hab:0<a*b:=dK ha hb0;have h1:=cJ D (a*b);have h2:=bG D hab;have h3:a*b*top<=U:=by rw[<-hu];exact Nat.mul_div_le _ _
 rw[hd]at h1;have h4:g*D<=U:=by
  have e:g*D=a*b*(g*d1)+g*(D% (a*b)):=by
   conv=>lhs;rw[<-h1]
   rw[ba];ac_rfl
  have f:g*(D% (a*b))<=b*(a*b):=fg hgb (fS h2);have k:a*b*(g*d1+b)<=a*b*top:=bB _ oO;rw[ba,bF (a*b) b]at k;omega
 exact(d9 h.dpos).2 h4
theorem top_le (h:Kn a b U D top u2 d1 d2):top<d1*b+b:=by
 have hb0:0<b:=by have:=h.hd2;omega
 have ha:=h.ha;have hu:U/(a*b)=top:=by rw[<-cV,h.hu,bF,iR hb0,bV h.hu2,ef]
 have hd:D/(a*b)=d1:=by rw[<-cV,h.hd,bF,iR hb0,bV h.hd2,ef]
 have hab:0<a*b:=dK ha hb0;rw[<-hu];refine di (dw h.hlt ?_);have h1:=cJ D (a*b);have h2:=bG D hab;rw[hd]at h1;have h3:D<=a*b*(d1+1):=by rw[ba];omega
 calc D*b<=a*b*(d1+1)*b:=aO _ h3
  _=a*b*(d1*b+b):=by rw[bk,bA,dJ]
end Kn
theorem FG {b:Nat} (hb:0<b) {lo o:Nat} (hlo:lo<b^o) (X j:Nat):kS b (lo+b^o*X) (o+j)=kS b X j:=by
 unfold kS;rw[dB,<-cV,da _ _ (cG hb),bV hlo,bZ]
theorem pe {b lo X o k d n:Nat} (hb:2<=b) (hlo:lo<b^o) (hd:d<b) (hk:o+k<n):
  ∃X',(pad b (lo+b^o*X) n).set (o+k) d=pad b (lo+b^o*X') n/\X'+b^k*kS b X k=X+b^k*d/\(∀m,k<m->X<b^m->X'<b^m):=by
 have hb':0<b:=oO;obtain⟨v',e1,e2,e3⟩:=FQ (b:=b) (v:=lo+b^o*X) (k:=o+k) (d:=d) (n:=n) hb hd hk;rw[FG hb' hlo,dB,bk,bk]at e2;have hpos:0<b^o:=cG hb';have hdv:v'/b^o=X+b^k*d-b^k*kS b X k/\v'%b^o=lo/\b^k*kS b X k<=X+b^k*d:=by
  have hle:b^k*kS b X k<=X:=by
   have:=Eu b X k;rw[ba]at this;generalize X%b^k=z at this;omega
  have:v'=lo+b^o*(X+b^k*d-b^k*kS b X k):=by
   rw[Nat.mul_sub,ba];have:b^o*(b^k*kS b X k)<=b^o*X:=bB _ hle;omega
  rw[this,da _ _ hpos,bV hlo,bZ,eJ,bh hlo];exact⟨rfl,rfl,oO⟩
 obtain⟨f1,f2,f3⟩:=hdv;refine⟨X+b^k*d-b^k*kS b X k,?_,oO,λm hm hX=> ?_⟩
 ·rw[e1,<-f1];congr 1;have:=fo v' (b^o);rw[f2]at this;exact this.symm
 ·have h1:lo+b^o*X<b^(o+m):=by
   rw[dB];have:b^o*(X+1)<=b^o*b^m:=bB _ hX;rw[ba]at this;omega
  have h2:=e3 (o+m) oO h1;rw[<-f1];rw[dB]at h2;exact di h2
open Go Go.RowKit Go.Sx
theorem Kn.of (n U D:Nat) (hn:2<=n) (hD:D<kb^n) (hD2:kb^n<=2*D) (hU:U<D*kb):
  Kn (kb^(n-2)) kb U D (kS kb U n*kb+kS kb U (n-1)) (kS kb U (n-2)) (kS kb D (n-1)) (kS kb D (n-2)):=by
 have hU1:U<kb^(n+1):=by
  rw[bC];exact iQ hU (de hD dD)
 have e1:=oZ kb U (n-2);have e2:=oZ kb U (n-1);rw[show n-2+1=n-1 by omega]at e1;rw[show n-1+1=n by omega]at e2;have e3:U/kb^n=kS kb U n:=(rz dD hU1).symm;have f1:=oZ kb D (n-2);rw[show n-2+1=n-1 by omega]at f1;have f2:D/kb^(n-1)=kS kb D (n-1):=(rz dD (by rw[show n-1+1=n by omega];exact hD)).symm;have hp:0<kb^(n-1):=cG dD;have hb:kb<=2*kS kb D (n-1):=by
  rw[<-f2];have g1:=cJ D (kb^(n-1));have g2:=bG D hp;have g3:kb^n=kb^(n-1)*kb:=by rw[<-bC];congr 1;omega
  have g4:kb^(n-1)*kb<kb^(n-1)*(2*(D/kb^(n-1))+2):=by
   rw[ba,iw];omega
  have g5:=Nat.lt_of_mul_lt_mul_left g4;have hB:kb=4294967296:=rfl;omega
 refine⟨cG dD,?_,?_,qF dD _ _,qF dD _ _,?_,hb,hU⟩
 ·rw[e1,e2,e3,bF,bF kb]
 ·rw[f1,f2,bF]
 ·have hB:kb=4294967296:=rfl;omega
theorem CR (x t bb:Nat) (hx:x<=4294967295) (ht:t<=4294967295) (hb:bb<=1):
  (x+2*kb-t-bb)%kb+t+bb=x+4294967296*(if x<t+bb then 1 else 0):=by
 have hB:kb=4294967296:=rfl;obtain⟨D,hD⟩:=jz (x+2*kb-t-bb);rw[<-hD];have hD2:D+t+bb=x+8589934592:=oO;clear hD;show D%4294967296+t+bb=_;rcases bI x (t+bb)with h|h
 ·rw[aj h];omega
 ·rw[ah oO];omega
theorem Rq (w0 w:World) (H:List kU) (bu bd o cap n m1 lo U D:Nat)
  (hS:St w0 w ((bu,141,Kr .u32 (pad kb (lo+kb^o*U) m1))::(bd,141,Kr .u32 (pad kb D n))::H))
  (hlo:lo<kb^o) (hn:2<=n) (hD:D<kb^n) (hD2:kb^n<=2*D) (hU:U<D*kb) (hom:o+n+1<=m1) (hm:m1<=17592186044416):
  lU Tryz.prog 156 #[.slice (some ⟨bu,o,none⟩) (n+1) cap,.slice (some ⟨bd,0,none⟩) n n] w λr w'=>r= .int .u32 (U/D:Nat)/\
   St w0 w' ((bu,141,Kr .u32 (pad kb (lo+kb^o*(U%D)) m1))::(bd,141,Kr .u32 (pad kb D n))::H):=by
 have hB:kb=4294967296:=rfl;have hkn:=Kn.of n U D hn hD hD2 hU;have hq:=hkn.q_lt;have hU1:U<kb^(n+1):=by
  rw[bC];exact iQ hU (de hD dD)
 have hgU:∀X j,j<=n->(pad kb (lo+kb^o*X) m1).getD (o+j) 0=kS kb X j:=λX j hj=>by rw[nS _ _ oO,FG dD hlo]
 have hgD:∀j,j<n->(pad kb D n).getD j 0=kS kb D j:=λj hj=>nS _ _ hj;have hgd1:=hgD (n-1) oO;have hgd2:=hgD (n-2) oO;have a0:=lV U n;have a1:=lV U (n-1);have a2:=lV U (n-2);have c1:=lV D (n-1);have c2:=lV D (n-2);have hd1:=hkn.h1;obtain⟨top,htop⟩:=jz (kS kb U n*kb+kS kb U (n-1));have htop2:top=kS kb U (n-1)+kS kb U n*2^32:=by rw[htop,fa]
 have hor:kS kb U n*2^32|||kS kb U (n-1)=top:=by rw[gk,ut _ _ _ oO,htop2]
 have htl:top<=18446744073709551615:=by rw[htop];omega
 refine enter Tryz.func156 rfl Tryz.ntmps156 rfl ?_;refine V4 ?_;refine kC [jo 0,jo 1,jo 2,ju 3,jo 4,jo 5,jo 6,jo 7,jo 8,jo 9,ju 10,jo 11,jo 12,jo 13] kR kR hS ?_;intro wz1 hS hBz1;refine J2 ?_;refine jl rfl (kD (i:=n) rfl rfl oO dO li (jm rfl (nN (k:=0) (i:=o+(n)) rfl kI hS rfl oO dO (jl rfl (kH rfl Tryz.underlying99 ⟨_,Tryz.underlying141⟩ (r:=((kS kb U n:Nat):Int)) (by rw[hgU U n oO];exact kX _ ⟨rfl,oO,oO⟩) (jl rfl (uS rfl rfl oO (r:=((kS kb U n*2^32:Nat):Int)) (by exact uX _ 32 _ dD (kX _ ⟨rfl,oO,oO⟩)) ?_)))))));refine J3 ?_;refine jl rfl (kD (i:=n-1) rfl rfl oO dO li (jm rfl (nN (k:=0) (i:=o+(n-1)) rfl kI hS rfl oO dO (jl rfl (kH rfl Tryz.underlying99 ⟨_,Tryz.underlying141⟩ (r:=((kS kb U (n-1):Nat):Int)) (by rw[hgU U (n-1) oO];exact kX _ ⟨rfl,oO,oO⟩) (jl rfl (zt rfl rfl (r:=((top:Nat):Int)) (by rw[<-hor];exact rj rfl _ _ (by show _<18446744073709551616;omega) (by show _<18446744073709551616;omega)) ?_)))))));refine V1 ?_;refine kC [jo 0,jo 1,jo 2,jo 3,jo 4,ju 5,jo 6,jo 7,jo 8,jo 9,jo 10,jo 11,jo 12,ju 13,jo 14,jo 15,jo 16,jo 17] kR kR hS ?_;intro wz2 hS hBz2;refine J4 ?_;refine jl rfl (kD (i:=n-1) rfl rfl oO dO li (jm rfl (nN (k:=1) (i:=n-1) rfl kI hS rfl oO dO (jl rfl (kH rfl Tryz.underlying99 ⟨_,Tryz.underlying141⟩ (r:=((kS kb D (n-1):Nat):Int)) (by rw[hgd1];exact kX _ ⟨rfl,oO,oO⟩) (jl rfl (rL rfl rfl oO (r:=((top/kS kb D (n-1):Nat):Int)) (by rw[i7 _ _ oO];push_cast;rfl) ?_)))))));refine J4 ?_;refine jl rfl (kD (i:=n-1) rfl rfl oO dO li (jm rfl (nN (k:=1) (i:=n-1) rfl kI hS rfl oO dO (jl rfl (kH rfl Tryz.underlying99 ⟨_,Tryz.underlying141⟩ (r:=((kS kb D (n-1):Nat):Int)) (by rw[hgd1];exact kX _ ⟨rfl,oO,oO⟩) (jl rfl (pC rfl rfl oO (r:=((top%kS kb D (n-1):Nat):Int)) (by rw[fi oO];push_cast;rfl) ?_)))))));refine J2 ?_;refine jb ?_;refine kx (λρ w'=>∃g,g<kb/\U/D<=g/\g<=U/D+1/\ρ 0= .slice (some ⟨bu,o,none⟩) (n+1) cap/\ρ 1= .slice (some ⟨bd,0,none⟩) n n/\ρ 5=iB n/\ρ 7= .int .u64 g/\
   St w0 w' ((bu,141,Kr .u32 (pad kb (lo+kb^o*U) m1))::(bd,141,Kr .u32 (pad kb D n))::H)) ?_ ?_
 ·refine ja ?_;refine ku (σ:=Nat×Nat) (λs ρ w'=>s.1*kS kb D (n-1)+s.2=top/\U/D<=s.1/\s.2<kb/\ρ 0= .slice (some ⟨bu,o,none⟩) (n+1) cap/\ρ 1= .slice (some ⟨bd,0,none⟩) n n/\ρ 5=iB n/\ρ 7= .int .u64 s.1/\ρ 8= .int .u64 s.2/\
    St w0 w' ((bu,141,Kr .u32 (pad kb (lo+kb^o*U) m1))::(bd,141,Kr .u32 (pad kb D n))::H)) (λs=>s.1) (top/kS kb D (n-1),top%kS kb D (n-1))
   ⟨by simp only;rw[bF];exact cJ _ _,by simp only;rw[htop];exact hkn.q_le_top,by simp only;have:=bG top hd1;omega,rfl,rfl,rfl,rfl,rfl,hS⟩ ?_
  clear hS;rintro⟨g,r⟩ ρ w3 ⟨hinv,hgq,hr,h0,h1,h5,h7,h8,hS⟩;simp only at hinv hgq hr h0 h1 h5 h7 h8 hS;have hgt:g<=top:=by
   have:g*1<=g*kS kb D (n-1):=bB _ hd1;omega
  refine ja ?_;by_cases hgB:kb<=g
  ·refine ja ?_;refine kC [jo 0,jo 1,jo 2,jo 3,jo 4,jo 5,jo 6,jo 7,ju 8,jo 9,jo 10,jo 11,jo 12,jo 13,jo 14,jo 15,jo 16,ju 17,jo 18,jo 19,jo 20,jo 21] kR kR hS ?_;intro wz3 hS hBz3;refine J3 ?_;refine nO rfl (ka 50 kR rfl dT) (nO rfl (ka 50 kR rfl dT) (nO rfl (ka 50 kR rfl dT) (nO rfl (ka 50 kR rfl dT) (nO rfl (ka 50 kR rfl dT) (nO rfl (ka 50 kR rfl dT) (nO rfl (ka 50 kR rfl dT) (nO rfl (ka 50 kR rfl dT) (nO rfl (ka 50 kR rfl dT) (nO rfl (ka 50 kR rfl dT) (nO rfl (ka 50 kR rfl dT) (nO rfl (ka 50 kR rfl dT) (nO rfl (ka 50 kR rfl dT) (nO rfl (ka 50 kR rfl dT) ?_)))))))))))));refine nO rfl (ka 50 kR rfl dT) (nO rfl (ka 50 kR rfl dT) (nO rfl (ka 50 kR rfl dT) (nO rfl (ka 50 kR rfl dT) (jl rfl (kA (vb rfl dT) rfl ?_)))));refine ja ?_;refine k9 rfl (rfl) ?_;refine ja ?_;have hgq2:U/D<g:=oO;have hg0:0<g:=ct (aB _) hgq2;have hg1:U/D<=g-1:=gO hgq2;refine V3 ?_;have hgd:(g-1)*kS kb D (n-1)+(r+kS kb D (n-1))=top:=by
    obtain⟨g',rfl⟩:∃g',g=g'+1:=⟨g-1,oO⟩;rw[bA,dJ]at hinv;rw[ig];omega
   refine J4 ?_;refine jp (kD (i:=n-1) rfl rfl oO dO li (jq (nN (k:=1) (i:=n-1) rfl kI hS rfl oO dO (jp (kH rfl Tryz.underlying99 ⟨_,Tryz.underlying141⟩ (r:=((kS kb D (n-1):Nat):Int)) (by rw[hgd1];exact kX _ ⟨rfl,oO,oO⟩) (jp (oU rfl rfl (r:=((r+kS kb D (n-1):Nat):Int)) (by exact kX _ ⟨by push_cast;rfl,oO,oO⟩) ?_)))))));refine V3 ?_;by_cases hbrk:kb<=r+kS kb D (n-1)
   ·refine J1 ?_;refine jt ?_;have hgB:g-1<kb:=by
     rcases bI (g-1) kb with h|h
     ·exact h
     ·exfalso;have h1:kb*kS kb D (n-1)<=(g-1)*kS kb D (n-1):=aO _ h;have h2:=hkn.top_le;rw[<-htop,bF]at h2;omega
    have hgq:=hkn.rest (by rw[<-htop];exact hgd) oO hbrk;exact⟨_,rfl,g-1,hgB,hg1,oO,h0,h1,h5,vi rfl oO,hS⟩
   ·refine V1 ?_;refine⟨(g-1,r+kS kb D (n-1)),_,rfl,⟨hgd,hg1,by simp only;omega,h0,h1,h5,vi rfl (by simp only;omega),rfl,hS⟩,by simp only;omega⟩
  ·have hgd2':g*kS kb D (n-2)<=4294967295*4294967295:=fg oO c2;have hor2:r*2^32|||kS kb U (n-2)=r*4294967296+kS kb U (n-2):=by rw[gk,ut _ _ _ oO,fa]
   refine ja ?_;refine kC [jo 0,jo 1,jo 2,jo 3,jo 4,jo 5,jo 6,jo 7,ju 8,jo 9,jo 10,jo 11,jo 12,jo 13,jo 14,jo 15,jo 16,ju 17,jo 18,jo 19,jo 20,jo 21] kR kR hS ?_;intro wz4 hS hBz4;refine J3 ?_;refine kN rfl (j7 50 kR rfl dF) (ko h7 (kN rfl (j7 50 kR rfl dF) (ko h1 (kN rfl (j7 50 kR rfl dF) (ko h5 (kN rfl (j7 50 kR rfl dF) (sk rfl rfl (cF _ oO) (kN rfl (j7 50 kR rfl dF) (kD (i:=n-2) rfl rfl oO dO li (mG rfl (j7 50 kR rfl dF) (nN (k:=1) (i:=n-2) rfl kI hS rfl oO dO (kN rfl (j7 50 kR rfl dF) (kH rfl Tryz.underlying99 ⟨_,Tryz.underlying141⟩ (r:=((kS kb D (n-2):Nat):Int)) (by rw[hgd2];exact kX _ ⟨rfl,oO,oO⟩) (kN rfl (j7 50 kR rfl dF) (wk rfl rfl (r:=((g*kS kb D (n-2):Nat):Int)) (by exact kX _ ⟨by push_cast;rfl,oO,oO⟩) (kN rfl (j7 50 kR rfl dF) (ko h8 (kN rfl (j7 50 kR rfl dF) (uS rfl rfl oO (r:=((r*2^32:Nat):Int)) (by exact uX _ 32 _ dD (kX _ ⟨rfl,oO,oO⟩)) (kN rfl (j7 50 kR rfl dF) (ko h0 (kN rfl (j7 50 kR rfl dF) (ko h5 (kN rfl (j7 50 kR rfl dF) (sk rfl rfl (cF _ oO) (kN rfl (j7 50 kR rfl dF) (kD (i:=n-2) rfl rfl oO dO li ?_)))))))))))))))))))))))))));refine mG rfl (j7 50 kR rfl dF) (nN (k:=0) (i:=o+(n-2)) rfl kI hS rfl oO dO (kN rfl (j7 50 kR rfl dF) (kH rfl Tryz.underlying99 ⟨_,Tryz.underlying141⟩ (r:=((kS kb U (n-2):Nat):Int)) (by rw[hgU U (n-2) oO];exact kX _ ⟨rfl,oO,oO⟩) (kN rfl (j7 50 kR rfl dF) (zt rfl rfl (r:=((r*4294967296+kS kb U (n-2):Nat):Int)) (by rw[<-hor2];exact rj rfl _ _ (by show _<18446744073709551616;omega) (by show _<18446744073709551616;omega)) (kN rfl (j7 50 kR rfl dF) (t5 rfl rfl (jl rfl (kA (vb rfl dF) rfl ?_)))))))));refine ja ?_;by_cases href:r*4294967296+kS kb U (n-2)<g*kS kb D (n-2)
   ·refine k9 rfl (ao (by exact_mod_cast href)) ?_;refine ja ?_;have hgq2:U/D<g:=hkn.refuted (by rw[<-htop];exact hinv) hgq href;have hg0:0<g:=ct (aB _) hgq2;have hg1:U/D<=g-1:=gO hgq2;refine V3 ?_;have hgd:(g-1)*kS kb D (n-1)+(r+kS kb D (n-1))=top:=by
     obtain⟨g',rfl⟩:∃g',g=g'+1:=⟨g-1,oO⟩;rw[bA,dJ]at hinv;rw[ig];omega
    refine J4 ?_;refine jp (kD (i:=n-1) rfl rfl oO dO li (jq (nN (k:=1) (i:=n-1) rfl kI hS rfl oO dO (jp (kH rfl Tryz.underlying99 ⟨_,Tryz.underlying141⟩ (r:=((kS kb D (n-1):Nat):Int)) (by rw[hgd1];exact kX _ ⟨rfl,oO,oO⟩) (jp (oU rfl rfl (r:=((r+kS kb D (n-1):Nat):Int)) (by exact kX _ ⟨by push_cast;rfl,oO,oO⟩) ?_)))))));refine V3 ?_;by_cases hbrk:kb<=r+kS kb D (n-1)
    ·refine J1 ?_;refine jt ?_;have hgB:g-1<kb:=by
      rcases bI (g-1) kb with h|h
      ·exact h
      ·exfalso;have h1:kb*kS kb D (n-1)<=(g-1)*kS kb D (n-1):=aO _ h;have h2:=hkn.top_le;rw[<-htop,bF]at h2;omega
     have hgq:=hkn.rest (by rw[<-htop];exact hgd) oO hbrk;exact⟨_,rfl,g-1,hgB,hg1,oO,h0,h1,h5,vi rfl oO,hS⟩
    ·refine V1 ?_;refine⟨(g-1,r+kS kb D (n-1)),_,rfl,⟨hgd,hg1,by simp only;omega,h0,h1,h5,vi rfl (by simp only;omega),rfl,hS⟩,by simp only;omega⟩
   ·refine lx rfl (ae (by exact_mod_cast href)) ?_;refine jt ?_;have hnear:=hkn.near (by rw[<-htop];exact hinv) oO (iJ href);exact⟨_,rfl,g,oO,hgq,hnear,h0,h1,h5,h7,hS⟩
 clear hS a0 a1 a2 c1 c2 hor htl htop2;rintro ρ w2 ⟨g,hgB,hq1,hq2,h0,h1,h5,h7,hS⟩;clear htop;refine J5 ?_;refine jb ?_;refine kx (λρ w'=>∃c bb X,c<=4294967295/\bb<=1/\X<kb^(n+1)/\X+g*D=U+kb^n*(c+bb)/\ρ 0= .slice (some ⟨bu,o,none⟩) (n+1) cap/\ρ 1= .slice (some ⟨bd,0,none⟩) n n/\ρ 5=iB n/\ρ 7= .int .u64 g/\ρ 9= .int .u64 (c:Nat)/\ρ 10= .int .u32 (bb:Nat)/\
   St w0 w' ((bu,141,Kr .u32 (pad kb (lo+kb^o*X) m1))::(bd,141,Kr .u32 (pad kb D n))::H)) ?_ ?_
 ·refine ja ?_;refine ku (σ:=Nat×Nat×Nat×Nat) (λs ρ w'=>s.1<=n/\s.2.1<=4294967295/\s.2.2.1<=1/\s.2.2.2<kb^(n+1)/\s.2.2.2+g*(D%kb^s.1)=U+kb^s.1*(s.2.1+s.2.2.1)/\ρ 0= .slice (some ⟨bu,o,none⟩) (n+1) cap/\ρ 1= .slice (some ⟨bd,0,none⟩) n n/\ρ 5=iB n/\ρ 7= .int .u64 g/\ρ 9= .int .u64 s.2.1/\ρ 10= .int .u32 s.2.2.1/\
    ρ 82= .slice (some ⟨bd,0,none⟩) n n/\ρ 83=iB n/\ρ 84=iB s.1/\
    St w0 w' ((bu,141,Kr .u32 (pad kb (lo+kb^o*s.2.2.2) m1))::(bd,141,Kr .u32 (pad kb D n))::H)) (λs=>n-s.1) (0,0,0,U)
   ⟨aB _,aB _,aB _,hU1,by simp[dZ],h0,h1,h5,h7,rfl,rfl,rfl,rfl,rfl,hS⟩ ?_
  clear hS h0 h1 h5 h7;rintro⟨k,c,bb,X⟩ ρ w3 ⟨hk,hc,hbb,hX,hinv,h0,h1,h5,h7,h9,h10,h82,h83,h84,hS⟩;simp only at hk hc hbb hX hinv h0 h1 h5 h7 h9 h10 h82 h83 h84 hS;refine V1 ?_;by_cases hlt:k<n
  ·refine V1 ?_;have x1:=lV X k;have d1:=lV D k;have hgX:=hgU X k hk;obtain⟨u1,u2⟩:=yp g (kS kb D k) 0 c oO d1 oO hc;refine J1 ?_;refine jp (kD (i:=k) h82 h84 oO dO li (jq (nN (k:=1) (i:=k) rfl kI hS rfl oO dO ?_)));refine V2 ?_;rw[hgD k hlt];refine J2 ?_;refine jp (kH rfl Tryz.underlying99 ⟨_,Tryz.underlying141⟩ (r:=((kS kb D k:Nat):Int)) (by exact kX _ ⟨rfl,oO,oO⟩) (jp (wk rfl rfl (r:=((g*kS kb D k:Nat):Int)) (by exact kX _ ⟨by push_cast;rfl,oO,oO⟩) ?_)));refine J1 ?_;refine jp (oU rfl rfl (r:=((g*kS kb D k+c:Nat):Int)) (by exact kX _ ⟨by push_cast;rfl,oO,oO⟩) ?_);refine V1 ?_;obtain⟨t,ht⟩:=jz (g*kS kb D k+c);rw[<-ht];have htl:t<=18446744073709551615:=oO;refine J1 ?_;refine jp (pW rfl rfl oO (r:=((t/4294967296:Nat):Int)) (by exact qg _ 32 dD) ?_);refine J5 ?_;refine jp (kD (i:=k) rfl rfl oO dO li (jq (nN (k:=0) (i:=o+(k)) rfl kI hS rfl oO dO ?_)));refine J1 ?_;refine jp (kH rfl Tryz.underlying141 ⟨_,Tryz.underlying99⟩ (r7 _) ?_);refine J1 ?_;refine jh (j6 Tryz.call161 rfl (C0 _ _ _ _ (by rw[hgX];omega) (bG _ dD) hbb) ?_);rintro v w4 ⟨rfl,rfl⟩;refine J3 ?_;refine jp (kD (i:=k) rfl rfl oO dO li (jh (pf (k:=0) (i:=o+(k)) (a:=_) rfl rfl rfl kI hS rfl oO dO ?_)));intro wz5 hS;refine V1 ?_;obtain⟨u',hu'⟩:∃u',u'=(kS kb X k+2*kb-t%4294967296-bb)%kb:=⟨_,rfl⟩;obtain⟨b',hb'⟩:∃b',b'=if kS kb X k<t%4294967296+bb then 1 else 0:=⟨_,rfl⟩
   have hub:u'+t%4294967296+bb=kS kb X k+4294967296*b':=by
    rw[hu',hb'];exact CR _ _ _ x1 oO hbb
   have hb1:b'<=1:=by rw[hb'];split<;>omega
   obtain⟨X',e1,e2,e3⟩:=pe (b:=kb) (lo:=lo) (X:=X) (o:=o) (k:=k) (d:=u') (n:=m1) dD hlo (hu'▸bG _ dD) oO;rw[hgX,<-hu']at hS;rw[eg,e1]at hS;refine V2 ?_;refine⟨(k+1,t/4294967296,b',X'),_,rfl,⟨hlt,by simp only;omega,hb1,e3 _ oO hX,?_,h0,h1,h5,h7,rfl,vi rfl (by rw[hgX,hb']),h82,h83,vi rfl (by simp),hS⟩,by simp only;omega⟩;simp only;have f1:g*(D%kb^(k+1))=g*(D%kb^k)+kb^k*(g*kS kb D k):=by rw[mod_pow_succ,ba];congr 1;ac_rfl
   have f2:kb^(k+1)*(t/4294967296+b')=kb^k*(4294967296*(t/4294967296)+4294967296*b'):=by rw[bC,bk,<-ba]
   have f3:kS kb X k+(4294967296*(t/4294967296)+4294967296*b')=u'+(g*kS kb D k+c)+bb:=oO;have f4:kb^k*kS kb X k+kb^k*(4294967296*(t/4294967296)+4294967296*b')=kb^k*u'+kb^k*(g*kS kb D k)+kb^k*(c+bb):=by
    rw[<-ba,f3,<-ba,<-ba];congr 1;omega
   rw[f1,f2];omega
  ·refine J1 ?_;refine jt ?_;obtain rfl:k=n:=oO;rw[bh hD]at hinv;exact⟨_,rfl,c,bb,X,hc,hbb,hX,hinv,h0,h1,h5,h7,h9,h10,hS⟩
 clear hS h0 h1 h5 h7;rintro ρ w3 ⟨c,bb,X,hc,hbb,hX,hinv,h0,h1,h5,h7,h9,h10,hS⟩;refine ja ?_;have x1:=lV X n;have hgX:=hgU X n (aH _);refine J4 ?_;refine jp (kD (i:=n) rfl rfl oO dO li (jq (nN (k:=0) (i:=o+(n)) rfl kI hS rfl oO dO ?_)));refine J1 ?_;refine jp (kH rfl Tryz.underlying141 ⟨_,Tryz.underlying99⟩ (r:=((c:Nat):Int)) (by exact pm _ ⟨rfl,oO,oO⟩) ?_);refine J1 ?_;refine jh (j6 Tryz.call161 rfl (C0 _ _ _ _ (by rw[hgX];omega) oO hbb) ?_);rintro v w4 ⟨rfl,rfl⟩;refine J3 ?_;refine jp (kD (i:=n) rfl rfl oO dO li (jh (pf (k:=0) (i:=o+(n)) (a:=_) rfl rfl rfl kI hS rfl oO dO ?_)));intro wz6 hS;refine V1 ?_;obtain⟨u',hu'⟩:∃u',u'=(kS kb X n+2*kb-c-bb)%kb:=⟨_,rfl⟩;obtain⟨b',hb'⟩:∃b',b'=if kS kb X n<c+bb then 1 else 0:=⟨_,rfl⟩
 have hub:u'+c+bb=kS kb X n+4294967296*b':=by
  rw[hu',hb'];exact CR _ _ _ x1 hc hbb
 have hb1:b'<=1:=by rw[hb'];split<;>omega
 obtain⟨Y,e1,e2,e3⟩:=pe (b:=kb) (lo:=lo) (X:=X) (o:=o) (k:=n) (d:=u') (n:=m1) dD hlo (hu'▸bG _ dD) oO;have hY:=e3 _ oO hX;rw[hgX,<-hu']at hS;rw[eg,e1]at hS;have hYU:Y+g*D=U+kb^(n+1)*b':=by
  have f2:kb^(n+1)*b'=kb^n*(4294967296*b'):=by rw[bC,bk]
  have f4:kb^n*kS kb X n+kb^n*(4294967296*b')=kb^n*u'+kb^n*(c+bb):=by
   rw[<-ba,<-ba];congr 1;omega
  omega
 have hbv:(if kS kb X n<c+bb then 1 else 0:Nat)=b':=hb'.symm;rw[hgX,hbv];clear e1 e2 e3 hub hu' hb' hbv hgX x1 hinv hX;refine V2 ?_;have hdm:=cJ U D;have hDpos:0<D:=hkn.dpos;by_cases hb0:b'=0
 ·refine V1 ?_;rw[hb0,eV,ef]at hYU;have hg1:g<=U/D:=(d9 hDpos).2 oO;have hgq:g=U/D:=oO;have hYm:Y=U%D:=by rw[hgq,bF]at hYU;omega
  rw[hYm]at hS;refine J1 ?_;refine jp (kH rfl Tryz.underlying141 ⟨_,Tryz.underlying99⟩ (r:=((U/D:Nat):Int)) (by rw[hgq];exact pm _ ⟨rfl,eh _,by generalize U/D=z at hq⊢;omega⟩) ?_);refine J1 ?_;refine jt ?_;refine kB rfl rfl ?_;exact⟨rfl,hS⟩
 ·refine V1 ?_;obtain rfl:b'=1:=oO;have hgq:g=U/D+1:=by
   rcases bI (U/D) g with h|h
   ·omega
   ·exfalso;have:g*D<=U:=(d9 hDpos).1 h;omega
  have hYR:Y+D=U%D+kb^(n+1):=by
   rw[hgq,bA,dJ,bF]at hYU;omega
  refine J4 ?_;refine jb ?_;refine kx (λρ w'=>∃c Z,c<=1/\Z<kb^(n+1)/\Z+kb^n*c=Y+D/\ρ 0= .slice (some ⟨bu,o,none⟩) (n+1) cap/\ρ 5=iB n/\ρ 7= .int .u64 g/\ρ 14= .int .u32 (c:Nat)/\
    St w0 w' ((bu,141,Kr .u32 (pad kb (lo+kb^o*Z) m1))::(bd,141,Kr .u32 (pad kb D n))::H)) ?_ ?_
  ·refine ja ?_;refine ku (σ:=Nat×Nat×Nat) (λs ρ w'=>s.1<=n/\s.2.1<=1/\s.2.2<kb^(n+1)/\s.2.2+kb^s.1*s.2.1=Y+D%kb^s.1/\ρ 0= .slice (some ⟨bu,o,none⟩) (n+1) cap/\ρ 5=iB n/\ρ 7= .int .u64 g/\ρ 14= .int .u32 s.2.1/\
     ρ 130= .slice (some ⟨bd,0,none⟩) n n/\ρ 131=iB n/\ρ 132=iB s.1/\
     St w0 w' ((bu,141,Kr .u32 (pad kb (lo+kb^o*s.2.2) m1))::(bd,141,Kr .u32 (pad kb D n))::H)) (λs=>n-s.1) (0,0,Y)
    ⟨aB _,aB _,hY,by simp[dZ],h0,h5,h7,rfl,rfl,rfl,rfl,hS⟩ ?_
   clear hS h0 h1 h5 h7 h9 h10;rintro⟨k,c,Z⟩ ρ w3 ⟨hk,hc,hZ,hinv,h0,h5,h7,h14,h130,h131,h132,hS⟩;simp only at hk hc hZ hinv h0 h5 h7 h14 h130 h131 h132 hS;refine V1 ?_;by_cases hlt:k<n
   ·refine V1 ?_;have x1:=lV Z k;have d1:=lV D k;have hgX:=hgU Z k hk;refine J1 ?_;refine jp (kD (i:=k) h130 h132 oO dO li (jq (nN (k:=1) (i:=k) rfl kI hS rfl oO dO ?_)));refine V2 ?_;rw[hgD k hlt];refine J4 ?_;refine jp (kD (i:=k) rfl rfl oO dO li (jq (nN (k:=0) (i:=o+(k)) rfl kI hS rfl oO dO ?_)));refine J2 ?_;refine jh (j6 Tryz.call117 rfl (HU _ _ _ _ (by rw[hgX];omega) oO oO) ?_);rintro v w4 ⟨rfl,rfl⟩;refine J3 ?_;refine jp (kD (i:=k) rfl rfl oO dO li (jh (pf (k:=0) (i:=o+(k)) (a:=_) rfl rfl rfl kI hS rfl oO dO ?_)));intro wz7 hS;refine V1 ?_;obtain⟨t,ht⟩:=jz (kS kb Z k+kS kb D k+c);obtain⟨Z',e1,e2,e3⟩:=pe (b:=kb) (lo:=lo) (X:=Z) (o:=o) (k:=k) (d:=t%kb) (n:=m1) dD hlo (bG _ dD) oO;rw[hgX,<-ht]at hS;rw[eg,e1]at hS;refine V2 ?_;refine⟨(k+1,t/kb,Z'),_,rfl,⟨hlt,by simp only[hB];omega,e3 _ oO hZ,?_,h0,h5,h7,vi rfl (by rw[hgX,<-ht]),h130,h131,vi rfl (by simp),hS⟩,by simp only;omega⟩;simp only;have f2:kb^(k+1)*(t/kb)=kb^k*(kb*(t/kb)):=by rw[bC,bk]
    have f4:kb^k*(t%kb)+kb^k*(kb*(t/kb))=kb^k*kS kb Z k+kb^k*kS kb D k+kb^k*c:=by
     rw[<-ba,fo,ht,ba,ba]
    rw[mod_pow_succ,f2];omega
   ·refine J1 ?_;refine jt ?_;obtain rfl:k=n:=oO;rw[bh hD]at hinv;exact⟨_,rfl,c,Z,hc,hZ,hinv,h0,h5,h7,h14,hS⟩
  clear hS h0 h1 h5 h7 h9 h10;rintro ρ w4 ⟨c,Z,hc,hZ,hinv,h0,h5,h7,h14,hS⟩;refine ja ?_;have x1:=lV Z n;have hgX:=hgU Z n (aH _);refine J2 ?_;refine jp (kD (i:=n) rfl rfl oO dO li (jq (nN (k:=0) (i:=o+(n)) rfl kI hS rfl oO dO ?_)));refine J1 ?_;refine jp (oU rfl rfl (r:=(((kS kb Z n+c)%4294967296:Nat):Int)) (by rw[hgX,tr];omega) (jp (kD (i:=n) rfl rfl oO dO li (jh (pf (k:=0) (i:=o+(n)) (a:=_) rfl rfl rfl kI hS rfl oO dO ?_)))));intro wz8 hS;refine ja ?_;obtain⟨V,e1,e2,e3⟩:=pe (b:=kb) (lo:=lo) (X:=Z) (o:=o) (k:=n) (d:=(kS kb Z n+c)%4294967296) (n:=m1) dD hlo (bG _ dD) oO;rw[eg,e1]at hS;have hV:V=U%D:=by
   have hR:U%D<kb^n:=iQ (bG _ hDpos) hD;have hpos:0<kb^n:=cG dD;have htop:kS kb Z n=Z/kb^n:=rz dD hZ;have hdz:=cJ Z (kb^n);have hmz:=bG Z hpos;have hsum:Z%kb^n+kb^n*(Z/kb^n+c)=U%D+kb^n*4294967296:=by
    have:kb^(n+1)=kb^n*4294967296:=bC ..;rw[ba];omega
   have hy:Z/kb^n+c=4294967296:=by
    have h1:(Z%kb^n+kb^n*(Z/kb^n+c))/kb^n=(U%D+kb^n*4294967296)/kb^n:=by rw[hsum]
    rwa[da _ _ hpos,da _ _ hpos,bV hmz,bV hR,bZ,bZ]at h1
   rw[htop,hy]at e2;rw[hy]at hsum;simp only[Nat.mod_self,eV,ef]at e2;omega
  rw[hV]at hS;refine J1 ?_;refine jp (sk rfl rfl (r:=((U/D:Nat):Int)) (by rw[hgq];exact kX _ ⟨by push_cast;omega,eh _,by generalize U/D=z at hq⊢;omega⟩) (jp (kH rfl Tryz.underlying141 ⟨_,Tryz.underlying99⟩ (r:=((U/D:Nat):Int)) (by exact pm _ ⟨rfl,eh _,by generalize U/D=z at hq⊢;omega⟩) ?_)));refine J1 ?_;refine jt ?_;refine kB rfl rfl ?_;exact⟨rfl,hS⟩
section
variable {P : Program} {N : Nat} {ρ : Nat → Value} {ops : Array Oper}
  {d : Option Tmp} {ty : TypeId} {pos : String} {aft : Array Edge} {g : Option (Nat × Bool)} {x y z : Operand} {t e : TypeId} {b o : Nat} {K : Value → Prop}
theorem Uw {size by_ n cap o' n' c':Nat} {zz:List Value} {lo hi:Nat} {kl kh:IntKind} {ml mh:Int} (hx:ev N ρ x= .slice (some ⟨b,o,none⟩) n cap) (hl:ev N ρ y= .int kl ml) (hh:ev N ρ z= .int kh mh)
  (hml:ml=(lo:Int)) (hmh:mh=(hi:Int)) (h1:lo<=hi) (h2:hi<=cap) (h3:lo<cap) (e1:o+lo*size=o') (e2:hi-lo=n') (e3:cap-lo=c') (ht:sinfo P t=some (e,size,by_,zz)) (h:K (.slice (some ⟨b,o',none⟩) n' c')):
  lX P N ρ ⟨d,.slice t x (some y) (some z) none,ty,pos,aft,g⟩ K:=by
 subst e1 e2 e3;exact Ux hx hl hh hml hmh h1 h2 h3 ht h
end
theorem OD (b v:Nat) {n m:Nat} (h:n<=m):(pad b v m).take n=pad b v n:=by
 unfold pad;rw[<-List.map_take,List.take_range,gU h]
theorem zx {Y:Nat} (h:0<Y):0<(kJ Y).length/\0<kS kb Y ((kJ Y).length-1):=by
 have hl:0<(kJ Y).length:=by
  rcases dm (kJ Y).length with h0|h0
  ·have:=(AS (b:=kb) (n:=Y) dD).1 (cH h0);omega
  ·exact h0
 refine⟨hl,?_⟩;have h1:=lN Y;have h2:kb^((kJ Y).length-1)<=Y:=rN dD (by show _<(kJ Y).length;omega);rw[rz dD (by rw[eQ hl];exact h1)];exact ix h2 (cG dD)
theorem GK {Y n c:Nat} (hn:0<n) (hY:Y<kb^n) (hc:c<32) (h1:kS kb Y (n-1)*2^c<kb) (h2:kb<=2*(kS kb Y (n-1)*2^c)):
  Y*2^c<kb^n/\kb^n<=2*(Y*2^c):=by
 obtain⟨x,hx⟩:=jz (kS kb Y (n-1));have hxt:x=Y/kb^(n-1):=by rw[hx];exact rz dD (by rw[eQ hn];exact hY)
 rw[<-hx]at h1 h2;have hp:0<kb^(n-1):=cG dD;have hB:kb^n=kb^(n-1)*kb:=by rw[<-bC];congr 1;omega
 have e1:=cJ Y (kb^(n-1));have e2:=bG Y hp;rw[<-hxt]at e1;have h3:(x+1)*2^c<=kb:=by
  have hb:kb=2^(32-c)*2^c:=by rw[<-dB,eQ oO]
  rw[hb]at h1⊢;exact aO _ (Nat.lt_of_mul_lt_mul_right h1)
 have hpc:0<2^c:=cG dD;constructor
 ·rw[hB];have a1:Y<kb^(n-1)*(x+1):=by rw[ba];omega
  have a2:Y*2^c<kb^(n-1)*(x+1)*2^c:=de a1 hpc;have a3:kb^(n-1)*((x+1)*2^c)<=kb^(n-1)*kb:=bB _ h3;rw[<-bk]at a3;omega
 ·rw[hB];have a1:kb^(n-1)*x<=Y:=by rw[hxt];exact Nat.mul_div_le _ _
  have a2:kb^(n-1)*x*2^c<=Y*2^c:=aO _ a1;have a3:kb^(n-1)*kb<=kb^(n-1)*(2*(x*2^c)):=bB _ h2;have a4:kb^(n-1)*(2*(x*2^c))=2*(kb^(n-1)*x*2^c):=by rw[iw,bk]
  omega
theorem x8 {X Y Q V s : Nat} (hs : 0 < s) (h : X * s = Q * (Y * s) + V) (hV : V < Y * s) : X / Y = Q ∧ V = X % Y * s ∧ V / s = X % Y := by
  have hY : 0 < Y := by rcases dm Y with h0 | h0; · rw [h0] at hV; omega
                        · exact h0
  have h1 : X * s / (Y * s) = Q := by
    rw [h, fa, iW _ _ (dK hY hs), bV hV, bZ]
  have h2 : X * s % (Y * s) = V := by
    rw [h, ic, bh hV]
  rw [Nat.mul_div_mul_right _ _ hs] at h1
  rw [iU] at h2
  refine ⟨h1, h2.symm, ?_⟩
  rw [← h2, Nat.mul_div_cancel _ hs]
theorem DE (vx vy:Value) (X Y:Nat) (w:World) (hx:Sl (uk .u32) 1 w vx (kJ X)) (hy:Sl (uk .u32) 1 w vy (kJ Y)) (hY0:0<Y) (hmx:(kJ X).length<=4398046511104) (hmy:(kJ Y).length<=4398046511104):
  lU Tryz.prog 111 #[vx,vy] w λr w'=>(∃q s,r= .tuple #[q,s]/\Sl (uk .u32) 1 w' q (kJ (X/Y))/\Sl (uk .u32) 1 w' s (kJ (X%Y)))/\Below w.heap.size w w':=by
 have hB:kb=4294967296:=rfl;have hS:=St.init w;obtain⟨m,hm⟩:=jz ((kJ X).length);obtain⟨n,hn⟩:=jz ((kJ Y).length);have hXm:X<kb^m:=hm▸lN X;have hYn:Y<kb^n:=hn▸lN Y;obtain⟨M,hM⟩:=jz (m-n+1);obtain⟨hn0,htp⟩:=zx hY0;rw[<-hn]at hn0 htp;have htl:=lV Y (n-1);refine enter Tryz.func111 rfl Tryz.ntmps111 rfl ?_;refine J4 ?_;refine jh (j6 Tryz.call118 rfl (BK _ _ _ _ _ (hx.j4 hS.j4) (hy.j4 hS.j4)) ?_);rintro r w1 ⟨rfl,hB1⟩;replace hS:=hS.km hB1;refine V1 ?_;by_cases hlt:X<Y
 ·refine k9 rfl (ao (by rw[tZ hlt];decide)) ?_;refine jr ?_;refine jp (ko rfl (jp (oe rfl (jp (oe rfl ?_)))));refine jt ?_;refine rD rfl rfl rfl ?_;refine⟨⟨_,_,rfl,?_,?_⟩,hS.j4⟩
  ·rw[bV hlt,kJ,nL];exact Sl.nil _ _ _
  ·rw[bh hlt];exact hx.j4 hS.j4
 ·have hge:Y<=X:=iJ hlt;have hnm:n<=m:=by rw[hn,hm];exact nH dD hge
  have hcmp:¬sn X Y<0:=by
   rcases bI Y X with h|h
   ·rw[ug h];decide
   ·rw[show X=Y by omega,xB];decide
  refine lx rfl (ae hcmp) ?_;refine J1 ?_;refine jp (ki rfl (hy.j4 hS.j4) ⟨_,Tryz.underlying139⟩ ?_);refine V1 ?_;by_cases h1:n=1
  ·refine V1 ?_;have hg:(kJ Y).getD 0 0=Y:=by
    rw[l9,kS,cU,ft];rw[h1,i5]at hYn;exact bh hYn
   have hYl:Y<=4294967295:=by rw[h1,i5]at hYn;omega
   refine J2 ?_;refine jp (kj (i:=0) rfl rfl (hy.j4 hS.j4) oO dO li (jq (kt (i:=0) 0 rfl kI (hy.j4 hS.j4) dO rfl rfl (.inr rfl) ?_)));rw[hg];refine jh (j6 Tryz.call153 rfl (Cw _ _ _ _ (hx.j4 hS.j4) hY0 hYl oO) ?_);rintro r w2 ⟨⟨q,rfl,hq⟩,hB2⟩;replace hS:=hS.km hB2;refine V5 ?_;have hml:X%Y<=4294967295:=by have:=bG X hY0;omega
   have hq0:Sl (uk .u32) 1 w2 q (kJ (X/Y)):=hq;refine J2 ?_;refine jh (mD (vs:=[_]) rfl li rfl dD dD dD (by simp[Value.cells]) rfl hS ?_);intro b1 wz2 hS hBz2;have hq1:=hq0.j4 hBz2;have hsl:=St.Iu (L:=[X%Y]) hS (k:=0) rfl (n:=1) (cap:=1) (by simp) oO oO;refine jh (j6 Tryz.call112 rfl (xz _ _ _ hsl (by intro d hd;rw[aV (by simp)]at hd;rw[aZ.1 hd];omega)) ?_);rintro v w4 ⟨hv,rfl⟩;refine J2 ?_;refine jt ?_;refine rD rfl rfl rfl ?_;refine⟨⟨_,_,rfl,hq1,?_⟩,hS.j4⟩;have e:lA kb ([X%Y].take 1)=X%Y:=by simp[lA]
   rwa[e]at hv
  ·refine V1 ?_;have hgt:(kJ Y).getD (n-1) 0=kS kb Y (n-1):=l9 Y (n-1);refine J2 ?_;refine jp (ki rfl (hy.j4 hS.j4) ⟨_,Tryz.underlying139⟩ ?_);refine J1 ?_;refine jp (kj (i:=n-1) rfl rfl (hy.j4 hS.j4) oO dO li (jq (kt (i:=n-1) 0 rfl kI (hy.j4 hS.j4) dO rfl rfl (.inr rfl) ?_)));rw[hgt];refine jh (j6 Tryz.call154 rfl (zg _ _ htp oO) ?_);rintro r w2 ⟨⟨c,hc,hc1,hc2,rfl⟩,rfl⟩;obtain⟨hD,hD2⟩:=GK hn0 hYn hc hc1 hc2;have hpc:0<2^c:=cG dD;have hpc2:2^c<=2^31:=bM dD oO;obtain⟨D,hDe⟩:=jz (Y*2^c);rw[<-hDe]at hD hD2;have hD0:0<D:=by rw[hDe];exact dK hY0 hpc
   have hUm:X*2^c<kb^(m+1):=by
    have h3:X*2^c<kb^m*2^c:=de hXm hpc;have h4:kb^m*2^c<=kb^m*kb:=bB _ oO;rw[bC];omega
   have hUD:X*2^c<D*kb^(m-n+1):=by
    have h3:X*2^c<kb^m*2^c:=de hXm hpc;have h4:kb^m*2^c<=kb^m*2^31:=bB _ hpc2;have h5:kb^n*kb^(m-n+1)=kb^m*kb:=by rw[<-dB,<-bC];congr 1;omega
    have h6:kb^n*kb^(m-n+1)<=2*D*kb^(m-n+1):=aO _ hD2;rw[bk]at h6;have h7:kb^m*kb=kb^m*4294967296:=rfl;omega
   refine J3 ?_;refine jp (ki rfl (hy.j4 hS.j4) ⟨_,Tryz.underlying139⟩ ?_);refine J4 ?_;refine jh (j6 Tryz.call155 rfl (Hj _ _ _ _ _ (hy.j4 hS.j4) hc (aH _) (by rw[<-hn,<-hDe];exact hD) oO) ?_);rintro r w3 ⟨⟨bd,rfl,hbd1,hbd2⟩,hB3⟩;replace hS:=hS.push hB3 hbd1 hbd2;refine J4 ?_;refine jp (ki rfl (hx.j4 hS.j4) ⟨_,Tryz.underlying139⟩ ?_);refine J1 ?_;have hs2:=Hj vx X c (m+1) w3 (hx.j4 hS.j4) hc oO hUm oO;refine jh (j6 Tryz.call155 rfl ((by rw[hm]at hs2;exact hs2)) ?_);rintro r w4 ⟨⟨bu,rfl,hbu1,hbu2⟩,hB4⟩;replace hS:=hS.push hB4 hbu1 hbu2;rw[<-hm,<-hn,<-hDe]at hS;refine J2 ?_;refine jp (ki rfl (hx.j4 hS.j4) ⟨_,Tryz.underlying139⟩ ?_);refine J3 ?_;refine jh (pN (n:=M) rfl rfl li oO oO oO oO hS ?_);intro b3 wz4 hS hBz4;refine V1 ?_;replace hS:=hS.perm (H':=[(bu,141,Kr .u32 (pad kb (X*2^c) (m+1))),(bd,141,Kr .u32 (pad kb D n)),(b3,141,Kr .u32 (pad kb (kb^M*0) M))])
    (by rw[eV,oJ];exact(List.Perm.swap _ _ _).trans ((List.Perm.swap _ _ _).cons _))
   refine V4 ?_;refine ku (σ:=Nat×Nat×Nat) (λs ρ w'=>s.1<=M/\X*2^c=s.2.1*D*kb^s.1+s.2.2/\s.2.2<D*kb^s.1/\ρ 8= .int .u64 c/\ρ 9=iB n/\ρ 10= .slice (some ⟨bd,0,none⟩) n n/\ρ 11= .slice (some ⟨bu,0,none⟩) (m+1) (m+1)/\ρ 12= .slice (some ⟨b3,0,none⟩) M M/\ρ 13=iB ((s.1:Int)-1)/\
     St w w' [(bu,141,Kr .u32 (pad kb s.2.2 (m+1))),(bd,141,Kr .u32 (pad kb D n)),(b3,141,Kr .u32 (pad kb (kb^s.1*s.2.1) M))]) (λs=>s.1) (M,0,X*2^c)
    ⟨aH _,by simp,by simp only;rw[hM];exact hUD,vi rfl oO,vi rfl (by rw[hn]),by rw[hn];rfl,by rw[hm];rfl,rfl,vi rfl oO,hS⟩ ?_
   clear hS;rintro⟨k,Q,V⟩ ρ w6 ⟨hk,hinv,hV,h8,h9,h10,h11,h12,h13,hS⟩;simp only at hk hinv hV h8 h9 h10 h11 h12 h13 hS;refine V2 ?_;by_cases hk0:0<k
   ·refine V1 ?_;have hpk:0<kb^(k-1):=cG dD;have hkk:kb^k=kb^(k-1)*kb:=by rw[<-bC];congr 1;omega
    have hVs:V%kb^(k-1)+kb^(k-1)*(V/kb^(k-1))=V:=fo _ _;have hU:V/kb^(k-1)<D*kb:=by
     refine di ?_;rw[hkk]at hV;rw[iw];exact hV
    have hlo:V%kb^(k-1)<kb^(k-1):=bG _ hpk;obtain⟨lo,hloe⟩:=jz (V%kb^(k-1));obtain⟨U,hUe⟩:=jz (V/kb^(k-1));rw[<-hloe,<-hUe]at hVs;rw[<-hUe]at hU;rw[<-hloe]at hlo;have hq0:U/D<kb:=di hU;have hQ:kb^k*Q<kb^M:=by
     rcases bI (kb^k*Q) (kb^M)with h|h
     ·exact h
     ·exfalso;have h3:D*kb^M<=D*(kb^k*Q):=bB _ h;have h4:D*(kb^k*Q)=Q*D*kb^k:=by ac_rfl
      rw[<-hM]at hUD;omega
    obtain⟨e1,e2⟩:=tW (b:=kb) (q:=Q) (i:=k) (e:=U/D) (n:=M) dD hq0 hk0 hk hQ;rw[<-hVs]at hS;refine J8 ?_;refine jp (Uw (lo:=k-1) (hi:=k-1+n+1) (o':=k-1) (n':=n+1) (c':=m+1-(k-1)) rfl rfl rfl oO oO oO oO oO oO oO rfl li ?_);refine J1 ?_;refine jh (j6 Tryz.call156 rfl (Rq w w6 [(b3,141,Kr .u32 (pad kb (kb^k*Q) M))] bu bd (k-1) (m+1-(k-1)) n (m+1) lo U D hS hlo oO hD hD2 hU oO oO) ?_);rintro r w7 ⟨rfl,hS⟩;have hq1:U/D<=4294967295:=oO;refine jp (kD (i:=k-1) rfl rfl oO dO li (jh (pf (k:=2) (i:=k-1) (a:=(U/D)) rfl rfl rfl kI hS rfl oO dO ?_)));intro wz5 hS;refine ja ?_;rw[show∀(a b c d:kU),[a,b,c].set 2 d=[a,b,d]from λ_ _ _ _=>rfl,e1]at hS;refine V3 ?_;refine⟨(k-1,kb*Q+U/D,lo+kb^(k-1)*(U%D)),_,rfl,⟨by simp only;omega,?_,?_,h8,h9,h10,h11,h12,vi rfl (by simp only;omega),hS⟩,by simp only;omega⟩
    ·simp only;have g1:=cJ U D;have g2:kb^(k-1)*U=kb^(k-1)*(D*(U/D))+kb^(k-1)*(U%D):=by rw[<-ba,g1]
     have g3:(kb*Q+U/D)*D*kb^(k-1)=Q*D*kb^k+kb^(k-1)*(D*(U/D)):=by
      rw[hkk,bA,bA];congr 1<;>ac_rfl
     rw[g3,hinv,<-hVs,g2];omega
    ·simp only;have g1:U%D+1<=D:=bG _ hD0;have g2:kb^(k-1)*(U%D+1)<=kb^(k-1)*D:=bB _ g1;rw[bF D,ba]at*;omega
   ·refine J1 ?_;refine jt ?_;obtain rfl:k=0:=oO;rw[cU,eI]at hinv hV;rw[cU,dJ]at hS;rw[hDe]at hinv hV;obtain⟨f1,f2,f3⟩:=x8 hpc hinv hV;rw[<-hDe]at hinv hV;have hQM:Q<kb^M:=by
     rcases bI Q (kb^M)with h|h
     ·exact h
     ·exfalso;have h3:D*kb^M<=D*Q:=bB _ h;rw[bF D Q]at h3;rw[<-hM]at hUD;omega
    refine ja ?_;refine kC [jo 0,jo 2,jo 3,jo 4,jo 5,jv 1,jv 6,jo 7,jo 8] kR kR hS ?_;intro wz6 hS hBz6;refine J3 ?_;refine jl rfl (E0 (hi:=n) rfl rfl rfl oO li ?_);refine J1 ?_;have hslq:=hS.Iu (k:=2) rfl (n:=M) (cap:=M) (by simp) (aH _) oO;rw[aV (by simp)]at hslq;refine jn rfl (j6 Tryz.call112 rfl (xz _ _ _ hslq (sP dD _ _)) ?_);rintro q w8 ⟨hq,rfl⟩;refine⟨(Below.refl _ _),?_⟩;have hslu:=hS.Iu (k:=0) rfl (n:=n) (cap:=m+1) (by simp;omega) oO oO;rw[OD _ _ oO]at hslu;refine jn rfl (j6 Tryz.call157 rfl (II _ V c n _ hslu hc oO oO) ?_);rintro s w9 ⟨hs,hB9⟩;refine⟨hB9,?_⟩;refine J2 ?_;refine jt ?_;refine rD rfl rfl rfl ?_;rw[mP hQM,<-f1]at hq;rw[f3]at hs;exact⟨⟨_,_,rfl,hq.j4 hB9,hs⟩,hS.j4.trans (hB9.mono hS.j4.size)⟩
theorem oM {m n:Nat} (h:m<=n):(kJ m).length<=(kJ n).length:=nH dD h
theorem qY {n:Nat}:(kJ n).length=0↔n=0:=by
 rw[gl];exact AS dD
theorem Mg (a b:ByteArray) (w:World) (ha:a.size<=4398046511104) (hb:b.size<=4398046511104) (h0:val b≠0):
  lU Tryz.prog 68 #[.string a,.string b] w λr w'=>r= .tuple #[.string (kG (val a/val b)),.string (kG (val a%val b)),.bool true]/\Below w.heap.size w w':=by
 have hla:=mS a;have hlb:=mS b;have hne:(kJ (val b)).length≠0:=λh=>h0 (qY.1 h);have hS:=St.init w;refine enter Tryz.func68 rfl Tryz.ntmps68 rfl ?_;refine J4 ?_;refine jh (j6 Tryz.call69 rfl (qo _ _ oO) ?_);rintro vy w1 ⟨hy,hB1⟩;replace hS:=hS.km hB1;refine J2 ?_;refine jp (ki rfl hy ⟨_,Tryz.underlying139⟩ ?_);refine J3 ?_;refine jh (j6 Tryz.call69 rfl (qo _ _ oO) ?_);rintro vx w2 ⟨hx,hB2⟩;replace hS:=hS.km hB2;refine J1 ?_;refine jh (j6 Tryz.call111 rfl (DE _ _ _ _ _ hx (hy.j4 hB2) oO oO oO) ?_);rintro r w3 ⟨⟨q,s,rfl,hq,hs⟩,hB3⟩;replace hS:=hS.km hB3;refine V5 ?_;have hlq:=oM (dE (val a) (val b));have hls:=oM (Nat.mod_le (val a) (val b));refine J1 ?_;refine jh (j6 Tryz.call70 rfl (u7 _ _ _ hq (xG _) oO) ?_);rintro r w4 ⟨rfl,hB4⟩;replace hS:=hS.km hB4;refine J1 ?_;refine jh (j6 Tryz.call70 rfl (u7 _ _ _ (hs.j4 hB4) (xG _) oO) ?_);rintro r w5 ⟨rfl,hB5⟩;replace hS:=hS.km hB5;refine J3 ?_;refine jt ?_;refine EW rfl rfl rfl rfl ?_;refine⟨?_,hS.j4⟩;rw[qH,qH];rfl
theorem PL (a b:ByteArray) (w:World) (ha:a.size<=4398046511104) (hb:b.size<=4398046511104):
  lU Tryz.prog 67 #[.string a,.string b] w λr w'=>r= .string (kG (Nat.gcd (val a) (val b)))/\Below w.heap.size w w':=by
 have hla:=mS a;have hlb:=mS b;have hS:=St.init w;refine enter Tryz.func67 rfl Tryz.ntmps67 rfl ?_;refine J2 ?_;refine jh (j6 Tryz.call69 rfl (qo _ _ oO) ?_);rintro vx w1 ⟨hx,hB1⟩;replace hS:=hS.km hB1;refine J1 ?_;refine jh (j6 Tryz.call69 rfl (qo _ _ oO) ?_);rintro vy w2 ⟨hy,hB2⟩;replace hS:=hS.km hB2;refine V2 ?_;refine ku (σ:=Nat×Nat) (λs ρ w'=>Nat.gcd s.1 s.2=Nat.gcd (val a) (val b)/\(kJ s.1).length<=4398046511104/\(kJ s.2).length<=4398046511104/\(∃vx vy,ρ 5=vx/\ρ 6=vy/\Sl (uk .u32) 1 w' vx (kJ s.1)/\Sl (uk .u32) 1 w' vy (kJ s.2))/\St w w' []) (λs=>s.2) (val a,val b)
  ⟨rfl,by simp only;omega,by simp only;omega,⟨_,_,rfl,rfl,hx.j4 hB2,hy⟩,hS⟩ ?_
 clear hS hx hy;rintro⟨X,Y⟩ ρ w3 ⟨hg,hX,hY,⟨vx,vy,h5,h6,hx,hy⟩,hS⟩;simp only at hg hX hY hx hy;refine J1 ?_;refine jp (ki rfl hy ⟨_,Tryz.underlying139⟩ ?_);refine V1 ?_;have hyn:(kJ Y).length=0↔Y=0:=qY;by_cases hY0:Y=0
 ·refine J2 ?_;refine jh (j6 Tryz.call70 rfl (u7 _ _ _ hx (xG _) oO) ?_);rintro r w4 ⟨rfl,hB4⟩;refine J1 ?_;refine jt ?_;refine kB rfl rfl ?_;rw[qH];rw[hY0,Nat.gcd_zero_right]at hg;rw[hg];exact⟨rfl,hS.j4.trans (hB4.mono hS.j4.size)⟩
 ·refine V1 ?_;have hlt:X%Y<Y:=bG _ oO;have hls:=oM (fS hlt);refine J2 ?_;refine jh (j6 Tryz.call111 rfl (DE _ _ _ _ _ hx hy oO oO oO) ?_);rintro r w4 ⟨⟨q,s,rfl,hq,hs⟩,hB4⟩;refine V9 ?_;refine⟨(Y,X%Y),_,rfl,⟨?_,hY,by simp only;omega,⟨vy,s,rfl,rfl,hy.j4 hB4,hs⟩,hS.km hB4⟩,hlt⟩;simp only;rw[<-hg,jL Y,<-Nat.gcd_rec,jL]
abbrev MX:Nat:=1099511627776
theorem SH (m n:Nat) (w:World) (hm:(kG m).size<=4398046511104) (hn:(kG n).size<=4398046511104):
  lU Tryz.prog 67 #[.string (kG m),.string (kG n)] w λr w'=>r= .string (kG (Nat.gcd m n))/\Below w.heap.size w w':=by
 have h:=PL (kG m) (kG n) w hm hn;rwa[kY,kY]at h
theorem Hc (m n:Nat) (w:World) (hm:(kG m).size<=4398046511104) (hn:(kG n).size<=4398046511104) (h0:n≠0):
  lU Tryz.prog 68 #[.string (kG m),.string (kG n)] w λr w'=>r= .tuple #[.string (kG (m/n)),.string (kG (m%n)),.bool true]/\Below w.heap.size w w':=by
 have h:=Mg (kG m) (kG n) w hm hn (by rwa[kY]);rwa[kY,kY]at h
theorem vZ (m n:Nat) (w:World) (hm:(kG m).size<=4398046511104) (hn:(kG n).size<=4398046511104):
  lU Tryz.prog 30 #[.string (kG m),.string (kG n)] w λr w'=>r= .string (kG (m*n))/\Below w.heap.size w w':=by
 have h:=HV (kG m) (kG n) w hm hn;rwa[kY,kY]at h
theorem Sq (m n:Nat) (w:World) (hm:(kG m).size<=4398046511104) (hn:(kG n).size<=4398046511104):
  lU Tryz.prog 74 #[.string (kG m),.string (kG n)] w λr w'=>r= .string (kG (m+n))/\Below w.heap.size w w':=by
 have h:=UG (kG m) (kG n) w hm hn;rwa[kY,kY]at h
theorem VH (m n:Nat) (w:World) (hm:(kG m).size<=4398046511104) (hn:(kG n).size<=4398046511104):
  lU Tryz.prog 90 #[.string (kG m),.string (kG n)] w λr w'=>r= .int .i64 (sn m n)/\w'=w:=by
 have h:=IC (kG m) (kG n) w oO oO;rwa[kY,kY]at h
theorem Ky (m n:Nat) (w:World) (hm:(kG m).size<=4398046511104) (hn:(kG n).size<=4398046511104) (hle:n<=m):
  lU Tryz.prog 75 #[.string (kG m),.string (kG n)] w λr w'=>r= .tuple #[.string (kG (m-n)),.bool true]/\Below w.heap.size w w':=by
 have h:=AN (kG m) (kG n) w hm hn;rw[kY,kY]at h;exact h.mono λ_ _ g=>by rwa[aj hle]at g
theorem GA (m n:Nat) (w:World) (hm:(kG m).size<=4398046511104) (hn:(kG n).size<=4398046511104) (hlt:m<n):
  lU Tryz.prog 75 #[.string (kG m),.string (kG n)] w λr w'=>r= .tuple #[.string ⟨#[]⟩,.bool false]/\Below w.heap.size w w':=by
 have h:=AN (kG m) (kG n) w hm hn;rw[kY,kY]at h;exact h.mono λ_ _ g=>by rwa[ah (Nat.not_le_of_gt hlt)]at g
theorem WY (s:ByteArray) {k:Nat} (h:s.size<=k):(kG (val s)).size<=k:=dx (p8 s) h
theorem B9 {n:Nat}:kG n=⟨#[1]⟩↔n=1:=by rw[<-wG];exact⟨λh=>CI h,λh=>by rw[h]⟩
theorem zW {n:Nat} (h:n=1):kG n=⟨#[1]⟩:=B9.2 h
theorem HJ (r:RR) (w:World) (hr:Lr r<=MX):
  lU Tryz.prog 65 #[kW r] w λv w'=>v= .bool (decide (Ka r))/\Below w.heap.size w w':=by
 have hM:MX=1099511627776:=rfl;have hn:=H2 r;have hd:=Hd r;have hV:=QO r;have hS:=St.init w;refine enter Tryz.func65 rfl Tryz.ntmps65 rfl ?_;refine jr ?_;refine jh (kZ (new:=j5 r) rfl rfl hS ?_);intro b1 wz2 hS hBz2;refine V1 ?_;by_cases h1:kG (val r.num)=r.num
 ·by_cases h2:kG (val r.den)=r.den
  ·refine ja ?_;refine kC [jo 0,ju 1,jo 3,ju 4,jv 2,jo 5,jo 6,jo 7,ju 8,jo 10,ju 11,jv 9,jo 12,jo 13] kR kR hS ?_;intro wz3 hS hBz3;refine J4 ?_;refine jn rfl (j6 Tryz.call66 rfl (ng _ _ (show r.num.size<=_ by omega)) ?_);rintro _ wq4 ⟨rfl,hq4⟩;replace hq4:=hq4.symm;subst hq4;refine⟨Below.refl _ _,?_⟩;refine jl rfl (wh rfl rfl ?_);refine J1 ?_;refine kN rfl (j7 9 kR rfl (ae (by exact cj h1))) (lC rfl rE (mG rfl (j7 9 kR rfl (ae (by exact cj h1))) (kO (k:=0) rfl tT hS rfl rfl rfl (.inr rfl) (kN rfl (j7 9 kR rfl (ae (by exact cj h1))) (lC rfl rE (mG rfl (j7 9 kR rfl (ae (by exact cj h1))) (kO (k:=0) rfl tT hS rfl rfl rfl (.inr rfl) (yr rfl (j7 9 kR rfl (ae (cj h1))) (j6 Tryz.call66 rfl (ng _ _ (show r.den.size<=_ by omega)) ?_)))))))));rintro _ wq5 ⟨rfl,hq5⟩;replace hq5:=hq5.symm;subst hq5;refine⟨Below.refl _ _,?_⟩;refine kN rfl (j7 9 kR rfl (ae (by exact cj h1))) (wh rfl rfl (jl rfl (kA (vb rfl (ae (by exact cj h1))) rfl ?_)));refine ja ?_;refine lx rfl (ae (cj h2)) ?_;refine J2 ?_;refine jp (sW rfl rfl ?_);refine ja ?_;by_cases h3:r.num=⟨#[]⟩
   ·refine k9 rfl (ao h3) ?_;refine ja ?_;by_cases h4:r.neg=false
    ·refine J4 ?_;refine ke (j7 23 kR rfl (by show(!r.neg)=true;rw[h4];rfl)) (lC rfl rE (lj (j7 23 kR rfl (by show(!r.neg)=true;rw[h4];rfl)) (kO (k:=0) rfl tT hS rfl rfl rfl (.inr rfl) (ke (j7 23 kR rfl (by show(!r.neg)=true;rw[h4];rfl)) (sW rfl rfl (jp (kA (vb rfl (by show(!r.neg)=true;rw[h4];rfl)) rfl ?_)))))));refine J1 ?_;refine jt ?_;refine kB rfl rfl ?_;refine⟨bQ Value.bool ?_,hS.j4⟩;rw[en,hV];exact⟨λh=>⟨h1,h2,λ_=>⟨h4,h⟩,λh=>absurd h3 h⟩,λh=>(h.2.2.1 h3).2⟩
    ·refine J4 ?_;refine kL (ka 23 kR rfl (by show(!r.neg)=false;rw[iD]at h4;rw[h4];rfl)) (kL (ka 23 kR rfl (by show(!r.neg)=false;rw[iD]at h4;rw[h4];rfl)) (kL (ka 23 kR rfl (by show(!r.neg)=false;rw[iD]at h4;rw[h4];rfl)) (jp (kA (vb rfl (by show(!r.neg)=false;rw[iD]at h4;rw[h4];rfl)) rfl ?_))));refine J1 ?_;refine jt ?_;refine kB rfl rfl ?_;refine⟨bQ Value.bool ?_,hS.j4⟩;symm;rw[fA,hV]
     exact λh=>h4 (h.2.2.1 h3).1
   ·refine lx rfl (ae h3) ?_;refine ja ?_;by_cases h4:r.den=⟨#[]⟩
    ·refine J2 ?_;refine jp (sW rfl rfl ?_);refine J1 ?_;refine kL (ka 31 kR rfl (ao h4)) (kL (ka 31 kR rfl (ao h4)) (kL (ka 31 kR rfl (ao h4)) (kL (ka 31 kR rfl (ao h4)) (kL (qy 35 kR rfl) (kL (qy 35 kR rfl) (kL (qy 35 kR rfl) (kL (qy 35 kR rfl) (kL (qy 35 kR rfl) (kL (qy 35 kR rfl) (kL (ka 31 kR rfl (ao h4)) (jp (kA (vb rfl (ao h4)) rfl ?_))))))))))));refine J1 ?_;refine jt ?_;refine kB rfl rfl ?_;refine⟨bQ Value.bool ?_,hS.j4⟩;symm;rw[fI,hV]
     exact⟨h1,h2,λh=>absurd h h3,λ_=> .inl h4⟩
    ·by_cases h5:r.den=⟨#[1]⟩
     ·refine J2 ?_;refine jp (sW rfl rfl ?_);refine J1 ?_;refine ke (j7 31 kR rfl (ae h4)) (lC rfl rE (lj (j7 31 kR rfl (ae h4)) (kO (k:=0) rfl tT hS rfl rfl rfl (.inr rfl) (ke (j7 31 kR rfl (ae h4)) (wh rfl rfl (ke (j7 31 kR rfl (ae h4)) (ko rfl (kL (ka 35 kR rfl (ae (cj h5))) (kL (ka 35 kR rfl (ae (cj h5))) (kL (ka 35 kR rfl (ae (cj h5))) (kL (ka 35 kR rfl (ae (cj h5))) (kL (ka 35 kR rfl (ae (cj h5))) (kL (ka 35 kR rfl (ae (cj h5))) (ke (j7 31 kR rfl (ae h4)) (kA (vb rfl (ae (cj h5))) rfl (jp (kA (vb rfl (ae h4)) rfl ?_)))))))))))))))));refine J1 ?_;refine jt ?_;refine kB rfl rfl ?_;refine⟨bQ Value.bool ?_,hS.j4⟩;symm;rw[fA,hV]
      exact λh=>(h.2.2.2 h3).elim h4 (λg=>g.1 h5)
     ·refine J2 ?_;refine jp (sW rfl rfl ?_);refine J1 ?_;refine ke (j7 31 kR rfl (ae h4)) (lC rfl rE (lj (j7 31 kR rfl (ae h4)) (kO (k:=0) rfl tT hS rfl rfl rfl (.inr rfl) (ke (j7 31 kR rfl (ae h4)) (wh rfl rfl (ke (j7 31 kR rfl (ae h4)) (ko rfl (ke (j7 35 kR rfl (ao h5)) (lC rfl Be (lj (j7 35 kR rfl (ao h5)) (kO (k:=0) rfl tT hS rfl rfl rfl (.inr rfl) (ke (j7 35 kR rfl (ao h5)) (lC rfl rE (lj (j7 35 kR rfl (ao h5)) (kO (k:=0) rfl tT hS rfl rfl rfl (.inr rfl) (pj (j7 35 kR rfl (ao h5)) (j6 Tryz.call67 rfl (PL _ _ _ (show r.num.size<=_ by omega) (show r.den.size<=_ by omega)) ?_)))))))))))))))));rintro _ wc6 ⟨rfl,hBc6⟩;replace hS:=hS.km hBc6;refine ke (j7 35 kR rfl (ao h5)) (sW rfl rfl (ke (j7 31 kR rfl (ae h4)) (kA (vb rfl (ao h5)) rfl (jp (kA (vb rfl (ae h4)) rfl ?_)))));refine J1 ?_;refine jt ?_;refine kB rfl rfl ?_;refine⟨bQ Value.bool ?_,hS.j4⟩;rw[en,hV,B9];exact⟨λh=>⟨h1,h2,λh=>absurd h h3,λ_=> .inr ⟨h5,h⟩⟩,λh=>(h.2.2.2 h3).elim (λg=>absurd g h4) (λg=>g.2)⟩
  ·refine ja ?_;refine kC [jo 0,ju 1,jo 3,ju 4,jv 2,jo 5,jo 6,jo 7,ju 8,jo 10,ju 11,jv 9,jo 12,jo 13] kR kR hS ?_;intro wz7 hS hBz7;refine J4 ?_;refine jn rfl (j6 Tryz.call66 rfl (ng _ _ (show r.num.size<=_ by omega)) ?_);rintro _ wq8 ⟨rfl,hq8⟩;replace hq8:=hq8.symm;subst hq8;refine⟨Below.refl _ _,?_⟩;refine jl rfl (wh rfl rfl ?_);refine J1 ?_;refine kN rfl (j7 9 kR rfl (ae (by exact cj h1))) (lC rfl rE (mG rfl (j7 9 kR rfl (ae (by exact cj h1))) (kO (k:=0) rfl tT hS rfl rfl rfl (.inr rfl) (kN rfl (j7 9 kR rfl (ae (by exact cj h1))) (lC rfl rE (mG rfl (j7 9 kR rfl (ae (by exact cj h1))) (kO (k:=0) rfl tT hS rfl rfl rfl (.inr rfl) (yr rfl (j7 9 kR rfl (ae (cj h1))) (j6 Tryz.call66 rfl (ng _ _ (show r.den.size<=_ by omega)) ?_)))))))));rintro _ wq9 ⟨rfl,hq9⟩;replace hq9:=hq9.symm;subst hq9;refine⟨Below.refl _ _,?_⟩;refine kN rfl (j7 9 kR rfl (ae (by exact cj h1))) (wh rfl rfl (jl rfl (kA (vb rfl (ae (by exact cj h1))) rfl ?_)));refine ja ?_;refine k9 rfl (ao h2) ?_;refine J1 ?_;refine jt ?_;refine kB rfl rfl ?_;refine⟨bQ Value.bool ?_,hS.j4⟩;symm;rw[fA,hV]
   exact λh=>h2 h.2.1
 ·refine ja ?_;refine kC [jo 0,ju 1,jo 3,ju 4,jv 2,jo 5,jo 6,jo 7,ju 8,jo 10,ju 11,jv 9,jo 12,jo 13] kR kR hS ?_;intro wz10 hS hBz10;refine J4 ?_;refine jn rfl (j6 Tryz.call66 rfl (ng _ _ (show r.num.size<=_ by omega)) ?_);rintro _ wq11 ⟨rfl,hq11⟩;replace hq11:=hq11.symm;subst hq11;refine⟨Below.refl _ _,?_⟩;refine jl rfl (wh rfl rfl ?_);refine J1 ?_;refine nO rfl (ka 9 kR rfl (ao h1)) (nO rfl (ka 9 kR rfl (ao h1)) (nO rfl (ka 9 kR rfl (ao h1)) (nO rfl (ka 9 kR rfl (ao h1)) (nO rfl (ka 9 kR rfl (ao h1)) (nO rfl (ka 9 kR rfl (ao h1)) (jl rfl (kA (vb rfl (ao h1)) rfl ?_)))))));refine ja ?_;refine k9 rfl (rfl) ?_;refine J1 ?_;refine jt ?_;refine kB rfl rfl ?_;refine⟨bQ Value.bool ?_,hS.j4⟩;symm;rw[fA,hV]
  exact λh=>h1 h.1
theorem nT (r:RR) (w:World) (hr:Lr r<=MX):
  lU Tryz.prog 28 #[kW r] w λv w'=>v=kW (fx r)/\Below w.heap.size w w':=by
 have hS:=St.init w;refine enter Tryz.func28 rfl Tryz.ntmps28 rfl ?_;refine jr ?_;refine jh (kZ (new:=j5 r) rfl rfl hS ?_);intro b1 wz2 hS hBz2;refine J1 ?_;intro b3 wz4 hS hBz4;refine J1 ?_;refine jh (j6 Tryz.call65 rfl (HJ r _ hr) ?_);rintro _ wc5 ⟨rfl,hBc5⟩;replace hS:=hS.km hBc5;refine V1 ?_;by_cases h:Ka r
 ·refine lx rfl (by rw[ao h];rfl) ?_;refine J2 ?_;intro wz6 hS;refine jt ?_;refine mb (k:=0) rfl rfl kf hS rfl rfl ?_;rw[Tf h];exact⟨rfl,hS.j4⟩
 ·refine k9 rfl (by rw[ae h];rfl) ?_;refine jr ?_;refine jp (kT rfl px ?_);refine J1 ?_;intro wz7 hS;refine jt ?_;refine mb (k:=0) rfl rfl kf hS rfl rfl ?_;rw[TZ h];exact⟨rfl,hS.j4⟩
theorem Q7 (q:Rat):(j8 q).den=if q.den=1 then⟨#[]⟩else kG q.den:=rfl
theorem Td (q:Rat):(if(j8 q).den=⟨#[]⟩then(⟨#[1]⟩:ByteArray)else(j8 q).den)=kG q.den:=by
 rw[Q7];by_cases h:q.den=1
 ·simp only[h,gZ];exact wG.symm
 ·have h1:kG q.den≠⟨#[]⟩:=λh0=>q.den_nz (n4.1 h0);simp only[h,jH,h1]
theorem tL (q:Rat) (w:World):
  lU Tryz.prog 31 #[kW (j8 q)] w λv w'=>v= .string (kG q.den)/\Below w.heap.size w w':=by
 have hS:=St.init w;have hq:=Td q;refine enter Tryz.func31 rfl Tryz.ntmps31 rfl ?_;refine jr ?_;refine jh (kZ (new:=j5 (j8 q)) rfl rfl hS ?_);intro b1 wz2 hS hBz2;refine J3 ?_;refine jp (sW rfl rfl ?_);refine ja ?_;by_cases h:(j8 q).den=⟨#[]⟩
 ·refine k9 rfl (ao h) ?_;refine J1 ?_;refine jt ?_;refine kB rfl rfl ?_;rw[aj h]at hq;exact⟨bQ Value.string hq,hS.j4⟩
 ·refine lx rfl (ae h) ?_;refine J3 ?_;refine jt ?_;refine kB rfl rfl ?_;rw[ah h]at hq;exact⟨bQ Value.string hq,hS.j4⟩
theorem Wm {n m k:Nat} (h:m<=n) (hk:(kG n).size<=k):(kG m).size<=k:=dx (lP h) hk
theorem M0 (b:Bool) (s d:ByteArray):Tryz.prog.built 32 [(0,.bool b),(1,.string s),(2,.string d)]=some #[.bool b,.string s,.string d]:=by kernel_rfl
theorem rX (b:Bool) (num den:ByteArray) (w:World) (hn:num.size<=2*MX) (hd:den.size<=2*MX) (h0:val den≠0):
  lU Tryz.prog 29 #[.bool b,.string num,.string den] w λv w'=>v=kW (j8 (mkRat (sg b (val num)) (val den)))/\Below w.heap.size w w':=by
 have hM:MX=1099511627776:=rfl;have h1:=WY num hn;have h2:=WY den hd;have hS:=St.init w;refine enter Tryz.func29 rfl Tryz.ntmps29 rfl ?_;refine J1 ?_;intro b1 wz2 hS hBz2;refine J1 ?_;refine jh (j6 Tryz.call66 rfl (ng _ _ (show num.size<=_ by omega)) ?_);rintro _ wq3 ⟨rfl,hq3⟩;replace hq3:=hq3.symm;subst hq3;refine J1 ?_;refine jh (j6 Tryz.call66 rfl (ng _ _ (show den.size<=_ by omega)) ?_);rintro _ wq4 ⟨rfl,hq4⟩;replace hq4:=hq4.symm;subst hq4;refine V2 ?_;obtain⟨n,hnn⟩:=jz (val num);obtain⟨d,hdd⟩:=jz (val den);rw[<-hnn,<-hdd];rw[<-hnn]at h1;rw[<-hdd]at h0 h2;refine J1 ?_;refine jp (sW rfl rfl ?_);refine ja ?_;by_cases hz:n=0
 ·refine k9 rfl (ao (n4.2 hz)) ?_;refine jr ?_;refine jp (kT rfl px ?_);refine J1 ?_;intro wz5 hS;refine jt ?_;refine mb (k:=0) rfl rfl kf hS rfl rfl ?_;refine⟨?_,hS.j4⟩;have:mkRat (sg b 0) d=0:=by cases b<;>simp[sg]
  rw[hz,this,ol];rfl
 ·refine lx rfl (ae (λh=>hz (n4.1 h))) ?_;refine J1 ?_;refine jp (wh rfl rfl ?_);refine ja ?_;refine kx (λρ w'=>∃n' d':Nat,0<n'/\d'≠0/\Nat.gcd n' d'=1/\mkRat (sg b n) d=mkRat (sg b n') d'/\ρ 0= .bool b/\ρ 1= .string (kG n')/\ρ 2= .string (kG d')/\ρ 6=pB b1/\St w w' [(b1,32,j5 ⟨false,⟨#[]⟩,⟨#[]⟩⟩)]) ?_ ?_
  ·refine ja ?_;by_cases hd1:d=1
   ·refine lx rfl (ae (cj (zW hd1))) ?_;refine ja ?_;exact⟨_,rfl,n,d,oO,h0,by rw[hd1];exact jK _,rfl,rfl,rfl,rfl,rfl,hS⟩
   ·refine k9 rfl (ao (λh=>hd1 (B9.1 h))) ?_;refine J2 ?_;refine jh (j6 Tryz.call67 rfl (SH _ _ _ (show(kG n).size<=_ by omega) (show(kG d).size<=_ by omega)) ?_);rintro _ wc6 ⟨rfl,hBc6⟩;replace hS:=hS.km hBc6;refine J2 ?_;refine jp (wh rfl rfl ?_);refine ja ?_;have hgp:0<Nat.gcd n d:=iE _ oO;by_cases hg:Nat.gcd n d=1
    ·refine lx rfl (ae (cj (zW hg))) ?_;refine ja ?_;exact⟨_,rfl,n,d,oO,h0,hg,rfl,rfl,rfl,rfl,rfl,hS⟩
    ·refine k9 rfl (ao (λh=>hg (B9.1 h))) ?_;refine ja ?_;have hgn:Nat.gcd n d<=n:=Nat.gcd_le_left _ oO;have hgs:=Wm hgn h1;have hnp:0<n/Nat.gcd n d:=ix hgn hgp;have hdp:0<d/Nat.gcd n d:=ix (Nat.gcd_le_right _ oO) hgp;refine J2 ?_;refine jh (j6 Tryz.call68 rfl (Hc n (Nat.gcd n d) _ (show(kG n).size<=_ by omega) (show(kG (Nat.gcd n d)).size<=_ by omega) oO) ?_);rintro _ wc7 ⟨rfl,hBc7⟩;replace hS:=hS.km hBc7;refine J7 ?_;refine jh (j6 Tryz.call68 rfl (Hc d (Nat.gcd n d) _ (show(kG d).size<=_ by omega) (show(kG (Nat.gcd n d)).size<=_ by omega) oO) ?_);rintro _ wc8 ⟨rfl,hBc8⟩;replace hS:=hS.km hBc8;refine V5 ?_;exact⟨_,rfl,n/Nat.gcd n d,d/Nat.gcd n d,hnp,oO,(by rw[Nat.gcd_div (iK _ _) (fq _ _),Nat.div_self hgp]),Ei h0 rfl,rfl,rfl,rfl,rfl,hS⟩
  clear hS;rintro ρ w' ⟨n',d',hn',hd',hc,he,g0,g1,g2,g6,hS⟩;rw[he,CC hn' hd' hc];refine jr ?_;refine jp (ko g2 (jp (sW rfl rfl ?_)));refine ja ?_;refine kx (λρ w'=>ρ 0= .bool b/\ρ 1= .string (kG n')/\ρ 2= .string (if d'=1 then⟨#[]⟩else kG d')/\ρ 6=pB b1/\St w w' [(b1,32,j5 ⟨false,⟨#[]⟩,⟨#[]⟩⟩)]) ?_ ?_
  ·refine ja ?_;by_cases hd1:d'=1
   ·refine k9 rfl (ao (zW hd1)) ?_;refine V1 ?_;exact⟨_,rfl,g0,g1,bQ Value.string (by rw[aj hd1]),g6,hS⟩
   ·refine lx rfl (ae (λh=>hd1 (B9.1 h))) ?_;refine ja ?_;exact⟨_,rfl,g0,g1,g2.trans (bQ Value.string (by rw[ah hd1])),g6,hS⟩
  clear hS g0 g1 g2 g6;rintro ρ w' ⟨g0,g1,g2,g6,hS⟩;refine jr ?_;refine jp (ko g0 (jp (ko g1 (jp (ko g2 (jp (kT rfl (M0 _ _ _) (jh (lI (k:=0) g6 rfl kf hS rfl rfl rfl dM rfl ?_)))))))));intro wz9 hS;refine jt ?_;refine mb (k:=0) rfl g6 kf hS rfl rfl ?_;exact⟨rfl,hS.j4⟩
theorem RQ {p q:Rat} (h:r5 p=r5 q):(if decide (p.num<0)=true then-sn (p.num.natAbs*q.den) (q.num.natAbs*p.den)else sn (p.num.natAbs*q.den) (q.num.natAbs*p.den))=sU p q:=by
 have hp:=C2 p;have hq:=C2 q;have l1:=Rat.lt_iff p q;have l2:=Rat.lt_iff q p;unfold r5 at h;rw[<-hp,<-hq]at l1 l2;have e1:((p.num.natAbs*q.den:Nat):Int)=(p.num.natAbs:Int)*q.den:=by push_cast;rfl
 have e2:((q.num.natAbs*p.den:Nat):Int)=(q.num.natAbs:Int)*p.den:=by push_cast;rfl
 by_cases h1:p.num<0
 ·have h2:q.num<0:=by
   rw[ah oO,aj h1]at h;by_cases g:q.num<0
   ·exact g
   ·exfalso;split at h<;>(try rw[ah g]at h)<;>omega
  rw[aj (by simpa using h1)];simp only[ao h1,ao h2,sg,gZ,jV,<-e1,<-e2]at l1 l2;unfold sn sU;split
  ·rw[ah (by rw[l1];omega),aj (by rw[l2];omega)];rfl
  ·split
   ·rw[aj (by rw[l1];omega)]
   ·rw[ah (by rw[l1];omega),ah (by rw[l2];omega)];rfl
 ·have h2:¬q.num<0:=by
   intro g;rw[ah (show¬q.num=0 by omega),aj g]at h;split at h<;>(try rw[ah h1]at h)<;>omega
  rw[ah (by simpa using h1)];simp only[ae h1,ae h2,sg,<-e1,<-e2,jF,jH]at l1 l2;unfold sn sU;split
  ·rw[aj (by rw[l1];omega)]
  ·split
   ·rw[ah (by rw[l1];omega),aj (by rw[l2];omega)]
   ·rw[ah (by rw[l1];omega),ah (by rw[l2];omega)]
theorem Ro {p q:Rat} (h:r5 p≠r5 q):sU p q=if r5 p<r5 q then-1 else 1:=by
 have a1:=zf (q:=p);have a2:=xq (q:=p);have a3:=ny (q:=p);have b1:=zf (q:=q);have b2:=xq (q:=q);have b3:=ny (q:=q);rcases CV p with e|e|e<;>rcases CV q with f|f|f<;>rw[e,f]at h⊢<;>rw[e]at a1 a2 a3<;>rw[f]at b1 b2 b3<;>simp at h a1 a2 a3 b1 b2 b3⊢<;>first|(refine Kg ?_;grind)|(refine KH ?_;grind)
theorem An (q:Rat) (w:World):
  lU Tryz.prog 89 #[kW (j8 q)] w λv w'=>v= .int .i64 (r5 q)/\Below w.heap.size w w':=by
 have hS:=St.init w;refine enter Tryz.func89 rfl Tryz.ntmps89 rfl ?_;refine jr ?_;refine jh (kZ (new:=j5 (j8 q)) rfl rfl hS ?_);intro b1 wz2 hS hBz2;refine J3 ?_;refine jp (sW rfl rfl ?_);refine V1 ?_;by_cases h:q=0
 ·refine k9 rfl (ao (sw.2 h)) ?_;refine J1 ?_;refine jt ?_;refine kB rfl rfl ?_;exact⟨vi rfl (xq.2 h).symm,hS.j4⟩
 ·refine lx rfl (ae (λg=>h (sw.1 g))) ?_;refine V3 ?_;have hn:q.num≠0:=λg=>h (fN.1 g);by_cases h2:q.num<0
  ·refine k9 rfl (ao h2) ?_;refine J1 ?_;refine jt ?_;refine kB rfl rfl ?_;exact⟨vi rfl (by unfold r5;rw[ah hn,aj h2]),hS.j4⟩
  ·refine lx rfl (ae h2) ?_;refine J1 ?_;refine jt ?_;refine kB rfl rfl ?_;exact⟨vi rfl (by unfold r5;rw[ah hn,ah h2]),hS.j4⟩
theorem sb (r:RR) (w:World) (hr:Lr r<=MX):
  lU Tryz.prog 80 #[kW r] w λv w'=>v= .int .i64 (r5 (toQ r))/\Below w.heap.size w w':=by
 have hS:=St.init w;refine enter Tryz.func80 rfl Tryz.ntmps80 rfl ?_;refine jr ?_;refine jh (kZ (new:=j5 r) rfl rfl hS ?_);intro b1 wz2 hS hBz2;refine J2 ?_;refine jh (j6 Tryz.call28 rfl (nT r _ hr) ?_);rintro _ wc3 ⟨rfl,hBc3⟩;replace hS:=hS.km hBc3;refine jh (j6 Tryz.call89 rfl (An (toQ r) _) ?_);rintro _ wc4 ⟨rfl,hBc4⟩;replace hS:=hS.km hBc4;refine J1 ?_;refine jt ?_;refine kB rfl rfl ?_;exact⟨rfl,hS.j4⟩
theorem Jc (q:Rat):(⟨!decide (q.num<0)&&decide ((j8 q).num≠⟨#[]⟩),(j8 q).num,(j8 q).den⟩:RR)=j8 (-q):=by
 have h1:(j8 (-q)).num=(j8 q).num:=by show kG (-q).num.natAbs=kG q.num.natAbs;rw[Rat.neg_num,Int.natAbs_neg]
 have h2:(j8 (-q)).den=(j8 q).den:=by show(if(-q).den=1 then _ else kG (-q).den)=_;rw[Rat.neg_den];rfl
 have h3:(j8 (-q)).neg=decide ((-q).num<0):=rfl;have h4:(!decide (q.num<0)&&decide ((j8 q).num≠⟨#[]⟩))=decide ((-q).num<0):=by
  have:(j8 q).num=⟨#[]⟩↔q.num=0:=by rw[sw,fN]
  rw[Rat.neg_num,gg];simp only[bl,fQ,fA,fP,ne_eq,this];omega
 rw[h4,<-h1,<-h2,<-h3]
theorem Ej (q:Rat) (w:World):
  lU Tryz.prog 37 #[kW (j8 q)] w λv w'=>v=kW (j8 (-q))/\Below w.heap.size w w':=by
 have hS:=St.init w;have he:=Jc q;refine enter Tryz.func37 rfl Tryz.ntmps37 rfl ?_;refine jr ?_;refine jh (kZ (new:=j5 (j8 q)) rfl rfl hS ?_);intro b1 wz2 hS hBz2;refine J1 ?_;intro b3 wz4 hS hBz4;refine ja ?_;by_cases h:q.num<0
 ·refine J4 ?_;refine kL (ka 6 kR rfl (by show(!decide (q.num<0))=false;rw[ao h];rfl)) (kL (ka 6 kR rfl (by show(!decide (q.num<0))=false;rw[ao h];rfl)) (kL (ka 6 kR rfl (by show(!decide (q.num<0))=false;rw[ao h];rfl)) (jp (kA (vb rfl (by show(!decide (q.num<0))=false;rw[ao h];rfl)) rfl ?_))));refine J1 ?_;refine jh (nM (k:=1) rfl rfl p9 hS rfl dM rfl ?_);intro wz5 hS;refine J2 ?_;intro wz6 hS;refine jt ?_;refine mb (k:=0) rfl rfl kf hS rfl rfl ?_;rw[<-he,ao h];exact⟨rfl,hS.j4⟩
 ·refine J4 ?_;refine ke (j7 6 kR rfl (by show(!decide (q.num<0))=true;rw[ae h];rfl)) (lC rfl Be (lj (j7 6 kR rfl (by show(!decide (q.num<0))=true;rw[ae h];rfl)) (kO (k:=1) rfl tT hS rfl rfl rfl (.inr rfl) (ke (j7 6 kR rfl (by show(!decide (q.num<0))=true;rw[ae h];rfl)) (wh rfl rfl (jp (kA (vb rfl (by show(!decide (q.num<0))=true;rw[ae h];rfl)) rfl ?_)))))));refine J1 ?_;refine jh (nM (k:=1) rfl rfl p9 hS rfl dM rfl ?_);intro wz7 hS;refine J2 ?_;intro wz8 hS;refine jt ?_;refine mb (k:=0) rfl rfl kf hS rfl rfl ?_;rw[<-he,ae h];exact⟨rfl,hS.j4⟩
end Go.Proofs.YtoeiejliehgopaaGreatDoor
