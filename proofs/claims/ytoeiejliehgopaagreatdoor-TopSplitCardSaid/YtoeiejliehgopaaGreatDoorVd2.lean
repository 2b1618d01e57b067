/-
  Part 2 of the proof of TopSplit: framework, walks, plain laws.
-/
import Derived.Test.YtoeiejliehgopaaGreatDoorVd1
set_option maxRecDepth 20000
set_option maxHeartbeats 8000000
namespace Go.Proofs.YtoeiejliehgopaaGreatDoor
open Go Go.RowKit Go.Sx
theorem bt {a b c:World} (h:Below a.heap.size a b) (k:Below b.heap.size b c):Below a.heap.size a c:=h.trans (k.mono h.size)
theorem xD {b r i d n:Nat} (hb:2<=b) (hr:r<b^i) (hd:d<b):(pad b r n).set i d=pad b (r+b^i*d) n/\r+b^i*d<b^(i+1):=by
 have h1:b^(i+1)=b^i*b:=bC ..;have h2:b^i*(d+1)<=b^i*b:=bA _ hd;rw[aV]at h2;have h3:r+b^i*d<b^(i+1):=oO;have h4:b^i<=b^(i+1):=bJ oO oO;have h:=zI (b:=b) (v:=r) (n:=n) (k:=i) (x:=d) hb oO h3;rw[uj hr,bX]at h;exact⟨h,h3⟩
theorem Dk (u:Nat):lN km [u%4294967296,u/4294967296]=u:=by
 simp only[lN,km];omega
theorem l9 (v:Nat):v<km^(kY v).length:=nt dD v
theorem xp {v k:Nat} (h:v<km^k):(kY v).length<=k:=qq dD k v h
theorem mP (s:ByteArray):(kY (val s)).length<=s.size:=by
 refine xp (dq (Fb s) ?_);exact Nat.pow_le_pow_left dD _
theorem sW (u:Nat) (w:World) (hu:u<18446744073709551616):
  mb Tryz.prog 113 #[.int .u64 u] w λr w'=>r= .string (kQ u)/\Below w.heap.size w w':=by
 have hS:=St.init w;refine enter Tryz.func113 rfl Tryz.ntmps113 rfl ?_;refine J2 ?_;refine jp (kT rfl Tryz.underlying141 ⟨_,Tryz.underlying99⟩ (sR _) ?_);refine J1 ?_;refine jp (qu rfl rfl oO (r:=((u/4294967296:Nat):Int)) (by exact qN _ 32 dD) (jp (kT rfl Tryz.underlying141 ⟨_,Tryz.underlying99⟩ (r:=((u/4294967296:Nat):Int)) (by exact pX _ oO) (jh (np (vs:=[_,_]) rfl lI rfl dD dD dD (by simp[Value.cells]) rfl hS ?_)))));intro b1 wz2 hS hBz2;have hsl:=St.IH (L:=[u%4294967296,u/4294967296]) hS (k:=0) rfl (n:=2) (cap:=2) (by simp) oO oO;have hd:∀d∈[u%4294967296,u/4294967296],d<km:=by
  intro d hd;simp only[bM,cG,fS]at hd;unfold km;omega
 refine jh (kf Tryz.call70 rfl (vK _ _ _ hsl hd (by simp)) ?_);rintro r w3 ⟨rfl,hB3⟩;refine J1 ?_;refine jt ?_;refine kJ rfl rfl ?_;exact⟨vs rfl (bB kQ (Dk u)),bt hS.kb hB3⟩
theorem T7 (a b:ByteArray) (w:World) (ha:a.size<=4398046511104) (hb:b.size<=4398046511104):
  mb Tryz.prog 74 #[.string a,.string b] w λr w'=>r= .string (kQ (val a+val b))/\Below w.heap.size w w':=by
 have hla:=mP a;have hlb:=mP b;have hS:=St.init w;refine enter Tryz.func74 rfl Tryz.ntmps74 rfl ?_;refine J2 ?_;refine jh (kf Tryz.call69 rfl (qS _ _ oO) ?_);rintro vx w1 ⟨hx,hB1⟩;refine J1 ?_;refine jh (kf Tryz.call69 rfl (qS _ _ oO) ?_);rintro vy w2 ⟨hy,hB2⟩;refine V2 ?_;have hx:=hx.kb hB2;have hB2:=bt hB1 hB2;clear hS hB1;have hS:=St.init w2;refine J1 ?_;refine jp (ky rfl (hx.kb hS.kb) ⟨_,Tryz.underlying139⟩ ?_);refine J1 ?_;refine jp (ky rfl (hy.kb hS.kb) ⟨_,Tryz.underlying139⟩ ?_);refine V1 ?_;refine kG (λρ w'=>∃v u m n,m+n=val a+val b/\ρ 5=v/\ρ 6=u/\Sl (uk .u32) 1 w2 v (kY m)/\Sl (uk .u32) 1 w2 u (kY n)/\(kY n).length<=(kY m).length/\(kY m).length<=4398046511104/\w2=w') ?_ ?_
 ·by_cases hlt:(kY (val a)).length<(kY (val b)).length
  ·refine V5 ?_;exact⟨_,rfl,vy,vx,val b,val a,fc ..,rfl,rfl,hy,hx,oO,oO,rfl⟩
  ·refine V1 ?_;exact⟨_,rfl,vx,vy,val a,val b,rfl,rfl,rfl,hx,hy,oO,oO,rfl⟩
 clear hx hy hla hlb;rintro ρ w' ⟨vx,vy,X,Y,hsum,h5,h6,hx,hy,hle,hmx,rfl⟩;rw[<-hsum];clear hsum;obtain⟨n,hn⟩:=jz ((kY X).length);refine J1 ?_;refine jp (ky rfl (hx.kb hS.kb) ⟨_,Tryz.underlying139⟩ ?_);refine J1 ?_;refine jh (qj (n:=(kY X).length+1) rfl rfl lI oO oO oO oO hS ?_);intro b1 wz2 hS hBz2;refine J3 ?_;refine jp (ky rfl (hx.kb hS.kb) ⟨_,Tryz.underlying139⟩ ?_);refine V1 ?_;have hXn:X<km^n:=hn▸l9 X;have hYn:Y<km^n:=dq (l9 Y) (bJ dD oO);rw[<-hn,<-pi km (n+1)]at hS;refine kF (σ:=Nat×Nat×Nat) (λs ρ w'=>s.1<=n/\s.2.1<km^s.1/\s.2.2<=1/\s.2.1+km^s.1*s.2.2=X%km^s.1+Y%km^s.1/\ρ 5=vx/\ρ 6=vy/\ρ 7= .slice (some ⟨b1,0,none⟩) (n+1) (n+1)/\ρ 8= .int .u32 s.2.2/\ρ 27=iB n/\ρ 28=iB s.1/\St w2 w' [(b1,141,Kr .u32 (pad km s.2.1 (n+1)))]) (λs=>n-s.1) (0,0,0)
  ⟨aw _,dD,dD,by simp[ec],h5,h6,by rw[hn];rfl,rfl,vi rfl (by rw[hn]),rfl,hS⟩ ?_
 clear hS h5 h6;rintro⟨i,r,c⟩ ρ w3 ⟨hi,hr,hc,hinv,h5,h6,h7,h8,h27,h28,hS⟩;simp only at hi hr hc hinv h5 h6 h7 h8 h27 h28 hS;refine V1 ?_;by_cases hlt:i<n
 ·refine J6 ?_;refine jp (ky rfl (hy.kb hS.kb) ⟨_,Tryz.underlying139⟩ ?_);refine V1 ?_;refine kG (λρ w'=>ρ 5=vx/\ρ 6=vy/\ρ 7= .slice (some ⟨b1,0,none⟩) (n+1) (n+1)/\ρ 8= .int .u32 c/\ρ 9=iB i/\ρ 10= .int .u32 (lh km Y i:Nat)/\ρ 27=iB n/\ρ 28=iB i/\w3=w') ?_ ?_
  ·by_cases hlt2:i<(kY Y).length
   ·refine J3 ?_;refine jp (ks (i:=i) rfl rfl (hy.kb hS.kb) oO dO lI (jq (kC (i:=i) 0 rfl kV (hy.kb hS.kb) dO rfl rfl (.inr rfl) ?_)));refine V1 ?_;exact⟨_,rfl,h5,h6,h7,h8,rfl,vi rfl (by rw[mE]),h27,h28,rfl⟩
   ·refine V1 ?_;exact⟨_,rfl,h5,h6,h7,h8,rfl,vi rfl (by rw[uj (dq (l9 Y) (bJ dD oO))];rfl),h27,h28,rfl⟩
  clear h5 h6 h7 h8 h27 h28;rintro ρ w' ⟨h5,h6,h7,h8,h9,h10,h27,h28,rfl⟩;have hx1:lh km X i<km:=qZ dD X i;have hy1:lh km Y i<km:=qZ dD Y i;have hgx:(kY X).getD i 0=lh km X i:=mE X i;have hil:i<(kY X).length:=oO;refine J4 ?_;refine jp (ks (i:=i) rfl rfl (hx.kb hS.kb) oO dO lI (jq (kC (i:=i) 0 rfl kV (hx.kb hS.kb) dO rfl rfl (.inr rfl) ?_)));refine J2 ?_;refine jh (kf Tryz.call117 rfl (Hn _ _ _ _ (by rw[hgx];exact hx1) hy1 (by unfold km;omega)) ?_);rintro v w' ⟨rfl,rfl⟩;refine J3 ?_;refine jp (kM (i:=i) rfl rfl oO dO lI (jh (pO (k:=0) (i:=i) (a:=_) rfl rfl rfl kV hS rfl oO dO ?_)));intro wz3 hS;refine V1 ?_;obtain⟨e1,e2⟩:=xD (b:=km) (r:=r) (i:=i) (d:=(lh km X i+lh km Y i+c)%km) (n:=n+1) dD hr (bl _ dD);rw[hgx,e1]at hS;refine V2 ?_;refine⟨(i+1,r+km^i*((lh km X i+lh km Y i+c)%km),(lh km X i+lh km Y i+c)/km),_,rfl,⟨hlt,e2,?_,?_,h5,h6,h7,vi rfl (by rw[hgx]),h27,vi rfl (by simp),hS⟩,by simp only;omega⟩
  ·simp only;unfold km at*;omega
  ·simp only;rw[mod_pow_succ,mod_pow_succ,bC,dR,ba,<-aV,fz,aV,aV];omega
 ·refine J1 ?_;refine jt ?_;obtain rfl:i=n:=oO;rw[aW hXn,aW hYn]at hinv;refine J2 ?_;refine jp (ky rfl (hx.kb hS.kb) ⟨_,Tryz.underlying139⟩ ?_);refine J1 ?_;refine jp (kM (i:=i) rfl rfl oO dO lI (jh (pO (k:=0) (i:=i) (a:=_) rfl rfl rfl kV hS rfl oO dO ?_)));intro wz4 hS;refine ja ?_;obtain⟨e1,e2⟩:=xD (b:=km) (r:=r) (i:=i) (d:=c) (n:=i+1) dD hr (by unfold km;omega);rw[hn,<-hn,e1,hinv]at hS;rw[hinv]at e2;have hsl:=hS.IH (k:=0) rfl (n:=i+1) (cap:=i+1) (by simp) (aB _) oO;rw[aU (by simp)]at hsl;refine J1 ?_;refine jh (kf Tryz.call70 rfl (vK _ _ _ hsl (to dD _ _) (by simp;omega)) ?_);rintro r w4 ⟨rfl,hB4⟩;refine J1 ?_;refine jt ?_;refine kJ rfl rfl ?_;rw[nm e2];exact⟨rfl,bt hB2 (bt hS.kb hB4)⟩
theorem GY (vx vy:Value) (X Y:Nat) (w:World) (hx:Sl (uk .u32) 1 w vx (kY X)) (hy:Sl (uk .u32) 1 w vy (kY Y)) (hYX:Y<=X) (hmx:(kY X).length<=17592186044416):
  mb Tryz.prog 119 #[vx,vy] w λr w'=>Sl (uk .u32) 1 w' r (kY (X-Y))/\Below w.heap.size w w':=by
 have hS:=St.init w;obtain⟨n,hn⟩:=jz ((kY X).length);have hle:(kY Y).length<=n:=hn▸oa dD hYX;refine enter Tryz.func119 rfl Tryz.ntmps119 rfl ?_;refine J2 ?_;refine jp (ky rfl (hx.kb hS.kb) ⟨_,Tryz.underlying139⟩ (jh (qj (n:=(kY X).length) rfl rfl lI oO oO oO oO hS ?_)));intro b1 wz2 hS hBz2;refine J3 ?_;refine jp (ky rfl (hx.kb hS.kb) ⟨_,Tryz.underlying139⟩ ?_);refine V1 ?_;have hXn:X<km^n:=hn▸l9 X;have hYn:Y<km^n:=dq (l9 Y) (bJ dD oO);rw[<-hn,<-pi km n]at hS;refine kF (σ:=Nat×Nat×Nat) (λs ρ w'=>s.1<=n/\s.2.1<km^s.1/\s.2.2<=1/\s.2.1+Y%km^s.1=X%km^s.1+km^s.1*s.2.2/\ρ 0=vx/\ρ 1=vy/\ρ 5= .slice (some ⟨b1,0,none⟩) n n/\ρ 6= .int .u32 s.2.2/\ρ 13=iB n/\ρ 14=iB s.1/\St w w' [(b1,141,Kr .u32 (pad km s.2.1 n))]) (λs=>n-s.1) (0,0,0)
  ⟨aw _,dD,dD,by simp[ec],rfl,rfl,by rw[hn];rfl,rfl,vi rfl (by rw[hn]),rfl,hS⟩ ?_
 clear hS;rintro⟨i,r,c⟩ ρ w3 ⟨hi,hr,hc,hinv,h0,h1,h5,h6,h13,h14,hS⟩;simp only at hi hr hc hinv h0 h1 h5 h6 h13 h14 hS;refine V1 ?_;by_cases hlt:i<n
 ·refine J6 ?_;refine jp (ky rfl (hy.kb hS.kb) ⟨_,Tryz.underlying139⟩ ?_);refine V1 ?_;refine kG (λρ w'=>ρ 0=vx/\ρ 1=vy/\ρ 5= .slice (some ⟨b1,0,none⟩) n n/\ρ 6= .int .u32 c/\ρ 7=iB i/\ρ 8= .int .u32 (lh km Y i:Nat)/\ρ 13=iB n/\ρ 14=iB i/\w3=w') ?_ ?_
  ·by_cases hlt2:i<(kY Y).length
   ·refine J3 ?_;refine jp (ks (i:=i) rfl rfl (hy.kb hS.kb) oO dO lI (jq (kC (i:=i) 0 rfl kV (hy.kb hS.kb) dO rfl rfl (.inr rfl) ?_)));refine V1 ?_;exact⟨_,rfl,h0,h1,h5,h6,rfl,vi rfl (by rw[mE]),h13,h14,rfl⟩
   ·refine V1 ?_;exact⟨_,rfl,h0,h1,h5,h6,rfl,vi rfl (by rw[uj (dq (l9 Y) (bJ dD oO))];rfl),h13,h14,rfl⟩
  clear h0 h1 h5 h6 h13 h14;rintro ρ w' ⟨h0,h1,h5,h6,h7,h8,h13,h14,rfl⟩;have hx1:lh km X i<km:=qZ dD X i;have hy1:lh km Y i<km:=qZ dD Y i;have hgx:(kY X).getD i 0=lh km X i:=mE X i;have hil:i<(kY X).length:=oO;refine J4 ?_;refine jp (ks (i:=i) rfl rfl (hx.kb hS.kb) oO dO lI (jq (kC (i:=i) 0 rfl kV (hx.kb hS.kb) dO rfl rfl (.inr rfl) ?_)));refine J2 ?_;refine jh (kf Tryz.call161 rfl (Da _ _ _ _ (by rw[hgx];exact hx1) hy1 hc) ?_);rintro v w' ⟨rfl,rfl⟩;refine J3 ?_;refine jp (kM (i:=i) rfl rfl oO dO lI (jh (pO (k:=0) (i:=i) (a:=_) rfl rfl rfl kV hS rfl oO dO ?_)));intro wz3 hS;refine V1 ?_;obtain⟨d,hd⟩:=jz ((lh km X i+2*km-lh km Y i-c)%km);obtain⟨c',hc'⟩:∃c',c'=if lh km X i<lh km Y i+c then 1 else 0:=⟨_,rfl⟩
  have hdc:d+lh km Y i+c=lh km X i+km*c':=by
   rw[hd,hc'];unfold km at*;split<;>omega
  have hc1:c'<=1:=by rw[hc'];split<;>omega
  obtain⟨e1,e2⟩:=xD (b:=km) (r:=r) (i:=i) (d:=d) (n:=n) dD hr (hd▸bl _ dD);rw[hgx,<-hd,e1]at hS;refine V2 ?_;refine⟨(i+1,r+km^i*d,c'),_,rfl,⟨hlt,e2,hc1,?_,h0,h1,h5,vi rfl (by rw[hgx,hc']),h13,vi rfl (by simp),hS⟩,by simp only;omega⟩;simp only;have h9:km^i*d+km^i*lh km Y i+km^i*c=km^i*lh km X i+km^i*(km*c'):=by rw[<-aV,<-aV,hdc,aV]
  rw[mod_pow_succ,mod_pow_succ,bC,ba];omega
 ·refine J1 ?_;refine jt ?_;obtain rfl:i=n:=oO;rw[aW hXn,aW hYn]at hinv;have hc0:c=0:=by
   rcases bH c 1 with h|h
   ·omega
   ·obtain rfl:c=1:=oO;omega
  subst hc0;have hr2:r=X-Y:=oO;have hsl:=hS.IH (k:=0) rfl (n:=i) (cap:=i) (by simp) (aB _) oO;rw[aU (by simp)]at hsl;refine J1 ?_;refine jh (kf Tryz.call112 rfl (xP _ _ _ hsl (to dD _ _)) ?_);rintro v w3 ⟨hv,rfl⟩;refine J1 ?_;refine jt ?_;refine kJ rfl rfl ?_;rw[nm hr,hr2]at hv;exact⟨hv,hS.kb⟩
theorem AY (a b:ByteArray) (w:World) (ha:a.size<=4398046511104) (hb:b.size<=4398046511104):
  mb Tryz.prog 75 #[.string a,.string b] w λr w'=>
   (if val b<=val a then r= .tuple #[.string (kQ (val a-val b)),.bool true]else r= .tuple #[.string ⟨#[]⟩,.bool false])/\Below w.heap.size w w':=by
 have hla:=mP a;have hlb:=mP b;refine enter Tryz.func75 rfl Tryz.ntmps75 rfl ?_;refine J3 ?_;refine jh (kf Tryz.call69 rfl (qS _ _ oO) ?_);rintro vx w1 ⟨hx,hB1⟩;refine J1 ?_;refine jh (kf Tryz.call69 rfl (qS _ _ oO) ?_);rintro vy w2 ⟨hy,hB2⟩;refine V2 ?_;have hx:=hx.kb hB2;have hB2:=bt hB1 hB2;refine J2 ?_;refine jh (kf Tryz.call118 rfl (Ct _ _ _ _ _ hx hy) ?_);rintro v w3 ⟨rfl,hB3⟩;refine V1 ?_;have hx:=hx.kb hB3;have hy:=hy.kb hB3;have hB3:=bt hB2 hB3;by_cases h:val b<=val a
 ·refine lH rfl (ae (by unfold sV;split<;>(try split)<;>omega)) ?_;refine J2 ?_;refine jh (kf Tryz.call119 rfl (GY _ _ _ _ _ hx hy h oO) ?_);rintro v w4 ⟨hv,hB4⟩;have hlv:(kY (val a-val b)).length<=(kY (val a)).length:=oa dD oO;refine jh (kf Tryz.call70 rfl (vK _ _ _ hv (wg _) oO) ?_);rintro r w5 ⟨rfl,hB5⟩;refine J2 ?_;refine jt ?_;refine rP rfl rfl rfl ?_;rw[aj h,qp];exact⟨rfl,bt hB3 (bt hB4 hB5)⟩
 ·refine lu rfl (ai (by unfold sV;rw[aj oO];decide)) ?_;refine J2 ?_;refine jt ?_;refine rP rfl rfl rfl ?_;rw[ah h];exact⟨rfl,hB3⟩
theorem E5 (b v k:Nat):v=v%b^k+b^k*(lh b v k+b*(v/b^(k+1))):=by
 have h1:=pJ b v k;have h2:=fz v (b^k);rw[h1]at h2;rw[fc (lh b v k)];exact h2.symm
theorem GF {b v k d n:Nat} (hb:2<=b) (hd:d<b) (hk:k<n):∃v',(pad b v n).set k d=pad b v' n/\v'+b^k*lh b v k=v+b^k*d/\(∀m,k<m->v<b^m->v'<b^m):=by
 have hb':0<b:=oO;have hs:=E5 b v k;have hlo:v%b^k<b^k:=sE hb' v k;have hdv:=qZ hb' v k;refine⟨v%b^k+b^k*(d+b*(v/b^(k+1))),?_,?_,?_⟩
 ·rw[OV (b:=b) (v:=v%b^k+b^k*(d+b*(v/b^(k+1)))) (L:=(pad b v n).set k d) ?_]
  ·simp
  ·intro j hj;have hj':j<n:=by simpa using hj
   rw[ak,fD];split
   ·rename_i h;subst h;rw[aj (by simpa using hk),fi,IQ hb',bU hlo,bX,eO,aW hd]
   ·rename_i h;rw[<-ak,oq b v hj'];rcases bH j k with h1|h1
    ·rw[yO hb' _ _ h1];conv=>lhs;rw[hs]
     rw[yO hb' _ _ h1]
    ·have hdiv:∀e,e<b->(v%b^k+b^k*(e+b*(v/b^(k+1))))/b^j=v/b^(k+1)/b^(j-(k+1)):=by
      intro e he;have:b^j=b^k*b*b^(j-(k+1)):=by rw[<-bC,<-dA];congr 1;omega
      rw[this,<-cV,<-cV,db _ _ (cy hb'),bU hlo,bX,db _ _ hb',bU he,bX]
     unfold lh at*;rw[hdiv d hd];conv=>lhs;rw[hs,hdiv _ hdv]
 ·have hL:v%b^k+b^k*lh b v k+b^k*(b*(v/b^(k+1)))=v:=by rw[dR,<-aV];exact hs.symm
  rw[aV];omega
 ·intro m hm hv;have hm2:b^m=b^(k+1)*b^(m-(k+1)):=by rw[<-dA];congr 1;omega
  have h1:v/b^(k+1)<b^(m-(k+1)):=by rw[hm2]at hv;exact dg hv
  have h2:v%b^k+b^k*(d+b*(v/b^(k+1)))<b^k*b*(v/b^(k+1)+1):=by
   have:b^k*(d+1)<=b^k*b:=bA _ hd;rw[aV]at this;rw[aV,aV,<-ba];omega
  have h3:b^k*b*(v/b^(k+1)+1)<=b^m:=by rw[hm2,bC];exact bA _ h1
  omega
theorem mw (v j:Nat):lh km v j<=4294967295:=by
 have h1:=qZ (b:=km) dD v j;have h2:km=4294967296:=rfl;omega
theorem yM (x y q c:Nat) (hx:x<=4294967295) (hy:y<=4294967295) (hq:q<=4294967295) (hc:c<=4294967295):x*y<=18446744065119617025/\x*y+q+c<=18446744073709551615:=by
 have:x*y<=4294967295*4294967295:=fp hx hy;omega
theorem HZ (a b:ByteArray) (w:World) (ha:a.size<=4398046511104) (hb:b.size<=4398046511104):
  mb Tryz.prog 30 #[.string a,.string b] w λr w'=>r= .string (kQ (val a*val b))/\Below w.heap.size w w':=by
 have hla:=mP a;have hlb:=mP b;refine enter Tryz.func30 rfl Tryz.ntmps30 rfl ?_;refine J2 ?_;refine jh (kf Tryz.call69 rfl (qS _ _ oO) ?_);rintro vx w1 ⟨hx,hB1⟩;refine J1 ?_;refine jh (kf Tryz.call69 rfl (qS _ _ oO) ?_);rintro vy w2 ⟨hy,hB2⟩;refine V2 ?_;have hx:=hx.kb hB2;have hB2:=bt hB1 hB2;clear hB1;have hS:=St.init w2;generalize val a=X at*;generalize val b=Y at*;obtain⟨m,hm⟩:=jz ((kY X).length);obtain⟨n,hn⟩:=jz ((kY Y).length);have hXm:X<km^m:=hm▸l9 X;have hYn:Y<km^n:=hn▸l9 Y;refine J1 ?_;refine jp (ky rfl (hx.kb hS.kb) ⟨_,Tryz.underlying139⟩ ?_);refine J1 ?_;refine jp (ky rfl (hy.kb hS.kb) ⟨_,Tryz.underlying139⟩ ?_);refine J1 ?_;refine jh (qj (n:=m+n) rfl rfl lI oO oO oO oO hS ?_);intro b1 wz2 hS hBz2;refine J2 ?_;refine jp (ky rfl (hx.kb hS.kb) ⟨_,Tryz.underlying139⟩ ?_);refine V1 ?_;rw[<-pi km (m+n)]at hS;refine kF (σ:=Nat) (λi ρ w'=>i<=m/\ρ 6=vy/\ρ 7= .slice (some ⟨b1,0,none⟩) (m+n) (m+n)/\ρ 24=vx/\ρ 25=iB m/\ρ 26=iB i/\St w2 w' [(b1,141,Kr .u32 (pad km (X%km^i*Y) (m+n)))]) (λi=>m-i) 0
  ⟨aw _,rfl,rfl,rfl,vi rfl (by rw[hm]),rfl,by rw[cU,ec,fA];exact hS⟩ ?_
 clear hS;rintro i ρ w3 ⟨hi,h6,h7,h24,h25,h26,hS⟩;refine V1 ?_;by_cases hlt:i<m
 ·refine V1 ?_;have him:i<(kY X).length:=oO;refine J1 ?_;refine jp (ks (i:=i) h24 h26 (hx.kb hS.kb) oO dO lI (jq (kC (i:=i) 0 rfl kV (hx.kb hS.kb) dO rfl rfl (.inr rfl) ?_)));refine J4 ?_;refine jp (ky rfl (hy.kb hS.kb) ⟨_,Tryz.underlying139⟩ ?_);refine V1 ?_;have hP0:X%km^i*Y<km^(i+n):=by
   rw[dA];exact ie (sE dD X i) (fU hYn) (cy dD)
  refine kF (σ:=Nat×Nat×Nat) (λs ρ w'=>s.1<=n/\s.2.1<km^(i+n)/\s.2.2<=4294967295/\s.2.1+km^(i+s.1)*s.2.2=X%km^i*Y+km^i*(lh km X i*(Y%km^s.1))/\ρ 6=vy/\ρ 7= .slice (some ⟨b1,0,none⟩) (m+n) (m+n)/\ρ 8=iB i/\ρ 9= .int .u32 (lh km X i:Nat)/\ρ 10= .int .u64 s.2.2/\ρ 24=vx/\ρ 25=iB m/\ρ 26=iB i/\ρ 31=vy/\ρ 32=iB n/\ρ 33=iB s.1/\St w2 w' [(b1,141,Kr .u32 (pad km s.2.1 (m+n)))]) (λs=>n-s.1) (0,X%km^i*Y,0)
   ⟨aw _,hP0,aw _,by simp[ec],h6,h7,rfl,vi rfl (by rw[mE]),rfl,h24,h25,h26,rfl,vi rfl (by rw[hn]),rfl,hS⟩ ?_
  clear hS h6 h7 h24 h25 h26;rintro⟨k,q,c⟩ ρ w4 ⟨hk,hq,hc,hinv,h6,h7,h8,h9,h10,h24,h25,h26,h31,h32,h33,hS⟩;simp only at hk hq hc hinv h6 h7 h8 h9 h10 h24 h25 h26 h31 h32 h33 hS;refine V1 ?_;by_cases hlt2:k<n
  ·refine V1 ?_;have hkn:k<(kY Y).length:=oO;have hikm:i+k<m+n:=oO;refine J1 ?_;refine jp (ks (i:=k) h31 h33 (hy.kb hS.kb) oO dO lI (jq (kC (i:=k) 0 rfl kV (hy.kb hS.kb) dO rfl rfl (.inr rfl) ?_)));refine V2 ?_;rw[mE];have hgq:(pad km q (m+n)).getD (i+k) 0=lh km q (i+k):=oq _ _ hikm;have x1:=mw X i;have y1:=mw Y k;have q1:=mw q (i+k);obtain⟨u1,u2⟩:=yM _ _ _ _ x1 y1 q1 hc;refine J4 ?_;refine jp (wF rfl rfl (r:=((lh km X i*lh km Y k:Nat):Int)) (by exact lE _ ⟨by push_cast;rfl,oO,oO⟩) ?_);refine J4 ?_;refine jp (kM (i:=i+k) rfl rfl oO dO lI (jq (oe (k:=0) (i:=i+k) rfl kV hS rfl oO dO (jp (kT rfl Tryz.underlying99 ⟨_,Tryz.underlying141⟩ (r:=((lh km q (i+k):Nat):Int)) (by rw[hgq];exact lE _ ⟨rfl,oO,oO⟩) (jp (py rfl rfl (r:=((lh km X i*lh km Y k+lh km q (i+k):Nat):Int)) (by exact lE _ ⟨by push_cast;rfl,oO,oO⟩) ?_)))))));refine J1 ?_;refine jp (py rfl rfl (r:=((lh km X i*lh km Y k+lh km q (i+k)+c:Nat):Int)) (by exact lE _ ⟨by push_cast;rfl,oO,oO⟩) ?_);refine V1 ?_;obtain⟨t,ht⟩:=jz (lh km X i*lh km Y k+lh km q (i+k)+c);have ht2:t<=18446744073709551615:=by rw[ht];exact u2
   rw[<-ht];refine J5 ?_;refine jp (kT rfl Tryz.underlying141 ⟨_,Tryz.underlying99⟩ (sR _) (jp (kM (i:=i+k) rfl rfl oO dO lI (jh (pO (k:=0) (i:=i+k) (a:=_) rfl rfl rfl kV hS rfl oO dO ?_)))));intro wz3 hS;refine J1 ?_;refine jp (qu rfl rfl oO (r:=((t/4294967296:Nat):Int)) (by exact qN _ 32 dD) ?_);refine V1 ?_;obtain⟨q',e1,e2,e3⟩:=GF (b:=km) (v:=q) (k:=i+k) (d:=t%4294967296) (n:=m+n) dD (bl _ dD) hikm;rw[e1]at hS;refine V2 ?_;refine⟨(k+1,q',t/4294967296),_,rfl,⟨hlt2,e3 _ oO hq,by simp only;omega,?_,h6,h7,h8,h9,rfl,h24,h25,h26,h31,h32,vi rfl (by simp),hS⟩,by simp only;omega⟩;simp only;have f1:km^(i+(k+1))*(t/4294967296)=km^(i+k)*(km*(t/4294967296)):=by rw[<-dR,bC,ba]
   have f2:km^(i+k)*(t%4294967296)+km^(i+k)*(km*(t/4294967296))=km^(i+k)*t:=by rw[<-aV];congr 1;unfold km;omega
   have f3:km^(i+k)*t=km^(i+k)*(lh km X i*lh km Y k)+km^(i+k)*lh km q (i+k)+km^(i+k)*c:=by rw[ht,aV,aV]
   have f4:km^i*(lh km X i*(Y%km^(k+1)))=km^i*(lh km X i*(Y%km^k))+km^(i+k)*(lh km X i*lh km Y k):=by
    rw[mod_pow_succ,aV,aV,dA];congr 1;ac_rfl
   omega
  ·refine J1 ?_;refine jt ?_;obtain rfl:k=n:=oO;rw[aW hYn]at hinv;have hikm:i+k<m+k:=oO;refine J3 ?_;refine jp (ky rfl (hy.kb hS.kb) ⟨_,Tryz.underlying139⟩ ?_);refine J2 ?_;refine jp (kT rfl Tryz.underlying141 ⟨_,Tryz.underlying99⟩ (r:=((c:Nat):Int)) (by exact pX _ oO) (jp (kM (i:=i+k) rfl rfl oO dO lI (jh (pO (k:=0) (i:=i+k) (a:=_) rfl rfl rfl kV hS rfl oO dO ?_)))));intro wz4 hS;refine ja ?_;obtain⟨e1,e2⟩:=xD (b:=km) (r:=q) (i:=i+k) (d:=c) (n:=m+k) dD hq (by unfold km;omega);have e3:q+km^(i+k)*c=X%km^(i+1)*Y:=by rw[hinv,mod_pow_succ,bn,ba]
   rw[show [(b1,141,Kr IntKind.u32 (pad km q (m+k)))].set 0 (b1,141,Kr IntKind.u32 ((pad km q (m+k)).set (i+k) c))=[(b1,141,Kr IntKind.u32 ((pad km q (m+k)).set (i+k) c))]from rfl,e1,e3]at hS;refine V2 ?_;exact⟨i+1,_,rfl,⟨hlt,h6,h7,h24,h25,vi rfl oO,hS⟩,oO⟩
 ·refine J1 ?_;refine jt ?_;obtain rfl:i=m:=oO;rw[aW hXm]at hS;have hXY:X*Y<km^(i+n):=by
   rw[dA];exact ie hXm (fU hYn) (cy dD)
  have hsl:=hS.IH (k:=0) rfl (n:=i+n) (cap:=i+n) (by simp) (aB _) oO;rw[aU (by simp)]at hsl;refine J1 ?_;refine jh (kf Tryz.call70 rfl (vK _ _ _ hsl (to dD _ _) (by simp;omega)) ?_);rintro r w4 ⟨rfl,hB4⟩;refine J1 ?_;refine jt ?_;refine kJ rfl rfl ?_;rw[nm hXY];exact⟨rfl,bt hB2 (bt hS.kb hB4)⟩
theorem uw {b q i e n:Nat} (hb:2<=b) (he:e<b) (hi:0<i) (hin:i<=n) (hq:b^i*q<b^n):
  (pad b (b^i*q) n).set (i-1) e=pad b (b^(i-1)*(b*q+e)) n/\b^(i-1)*(b*q+e)<b^n:=by
 obtain⟨v',e1,e2,e3⟩:=GF (b:=b) (v:=b^i*q) (k:=i-1) (d:=e) (n:=n) hb he oO;have h1:b^i=b^(i-1)*b:=by rw[<-bC];congr 1;omega
 have h0:lh b (b^i*q) (i-1)=0:=by
  unfold lh;rw[h1,ba,Nat.mul_div_cancel_left _ (cy oO),Nat.mul_mod_right]
 rw[h0,eY,eh]at e2;have h2:v'=b^(i-1)*(b*q+e):=by rw[e2,aV,h1,ba]
 rw[e1,h2];exact⟨rfl,h2▸e3 n oO hq⟩
theorem Dy (vx:Value) (X d:Nat) (w:World) (hx:Sl (uk .u32) 1 w vx (kY X)) (hd:0<d) (hd2:d<=4294967295) (hmx:(kY X).length<=17592186044416):
  mb Tryz.prog 153 #[vx,.int .u32 d] w λr w'=>(∃v,r= .tuple #[v,.int .u32 (X%d:Nat)]/\Sl (uk .u32) 1 w' v (kY (X/d)))/\Below w.heap.size w w':=by
 have hS:=St.init w;obtain⟨n,hn⟩:=jz ((kY X).length);have hXn:X<km^n:=hn▸l9 X;refine enter Tryz.func153 rfl Tryz.ntmps153 rfl ?_;refine J3 ?_;refine jp (ky rfl (hx.kb hS.kb) ⟨_,Tryz.underlying139⟩ (jh (qj (n:=(kY X).length) rfl rfl lI oO oO oO oO hS ?_)));intro b1 wz2 hS hBz2;refine J3 ?_;refine jp (ky rfl (hx.kb hS.kb) ⟨_,Tryz.underlying139⟩ ?_);refine V2 ?_;rw[<-hn,<-pi km n]at hS;refine kF (σ:=Nat×Nat×Nat) (λs ρ w'=>s.1<=n/\s.2.2<d/\X/km^s.1=s.2.1*d+s.2.2/\km^s.1*s.2.1<km^n/\ρ 0=vx/\ρ 1= .int .u32 d/\ρ 6= .slice (some ⟨b1,0,none⟩) n n/\ρ 7= .int .u64 s.2.2/\ρ 8=iB ((s.1:Int)-1)/\St w w' [(b1,141,Kr .u32 (pad km (km^s.1*s.2.1) n))]) (λs=>s.1) (n,0,0)
  ⟨aB _,hd,by simp only[fA];exact bU hXn,by simp only[eY];omega,rfl,rfl,by rw[hn];rfl,rfl,vi rfl (by rw[hn]),hS⟩ ?_
 clear hS;rintro⟨i,q,r⟩ ρ w3 ⟨hi,hr,hinv,hq,h0,h1,h6,h7,h8,hS⟩;simp only at hi hr hinv hq h0 h1 h6 h7 h8 hS;refine V2 ?_;by_cases hlt:0<i
 ·refine V1 ?_;have hil:i-1<(kY X).length:=oO;have x1:=mw X (i-1);have hg:(kY X).getD (i-1) 0=lh km X (i-1):=mE X (i-1);have hor:r*2^32|||lh km X (i-1)=lh km X (i-1)+r*2^32:=by rw[gu];exact uK _ _ _ oO
  refine J1 ?_;refine jp (u6 rfl rfl oO (r:=((r*2^32:Nat):Int)) (by exact u5 r 32 _ dD (lE _ ⟨rfl,oO,oO⟩)) ?_);refine J2 ?_;refine jp (ks (i:=i-1) rfl rfl (hx.kb hS.kb) oO dO lI (jq (kC (i:=i-1) 0 rfl kV (hx.kb hS.kb) dO rfl rfl (.inr rfl) (jp (kT rfl Tryz.underlying99 ⟨_,Tryz.underlying141⟩ (r:=((lh km X (i-1):Nat):Int)) (by rw[hg];exact lE _ ⟨rfl,oO,oO⟩) (jp (y7 rfl rfl (r:=((lh km X (i-1)+r*2^32:Nat):Int)) (by rw[<-hor];exact rS rfl _ _ (by show _<18446744073709551616;omega) (by show _<18446744073709551616;omega)) ?_)))))));refine V1 ?_;obtain⟨t,ht⟩:=jz (lh km X (i-1)+r*2^32);rw[<-ht];have ht1:t/d<=4294967295:=by
   have:t<d*4294967296:=by
    have:(r+1)*4294967296<=d*4294967296:=aI _ hr;omega
   have:=dg this;omega
  refine J4 ?_;refine jp (kT rfl Tryz.underlying99 ⟨_,Tryz.underlying141⟩ (r:=((d:Nat):Int)) (by exact lE _ ⟨rfl,oO,oO⟩) (jp (sf rfl rfl oO (jj _ _ oO) (jp (kT rfl Tryz.underlying141 ⟨_,Tryz.underlying99⟩ (r:=((t/d:Nat):Int)) (by exact pX _ ⟨by push_cast;rfl,eo _,by generalize t/d=z at ht1⊢;omega⟩) (jp (kM (i:=i-1) rfl rfl oO dO lI (jh (pO (k:=0) (i:=i-1) (a:=_) rfl rfl rfl kV hS rfl oO dO ?_)))))))));intro wz3 hS;refine J2 ?_;refine jp (kT rfl Tryz.underlying99 ⟨_,Tryz.underlying141⟩ (r:=((d:Nat):Int)) (by exact lE _ ⟨rfl,oO,oO⟩) (jp (pF rfl rfl oO (r:=((t%d:Nat):Int)) (by rw[dQ oO];push_cast;rfl) ?_)));refine V1 ?_;obtain⟨e1,e2⟩:=uw (b:=km) (q:=q) (i:=i) (e:=t/d) (n:=n) dD (by unfold km;omega) hlt hi hq;rw[e1]at hS;refine V3 ?_;have hs:=pJ km X (i-1);rw[show i-1+1=i by omega,hinv]at hs;refine⟨(i-1,km*q+t/d,t%d),_,rfl,⟨by simp only;omega,bl _ hd,?_,e2,h0,h1,h6,rfl,vi rfl (by simp only;omega),hS⟩,by simp only;omega⟩;simp only;have h9:=cI t d;have h10:km=2^32:=rfl;rw[hs,bn,aV,ba,dR,dR,bF (t/d) d,h9,ht,h10];omega
 ·refine J1 ?_;refine jt ?_;obtain rfl:i=0:=oO;rw[cU,fC]at hinv;rw[cU,dG]at hS hq;have hqd:X/d=q:=by rw[hinv,fc,iZ _ _ hd,bU hr,bX]
  have hrd:X%d=r:=by rw[hinv,ig,aW hr]
  have hsl:=hS.IH (k:=0) rfl (n:=n) (cap:=n) (by simp) (aB _) oO;rw[aU (by simp)]at hsl;refine J1 ?_;refine jh (kf Tryz.call112 rfl (xP _ _ _ hsl (to dD _ _)) ?_);rintro v w3 ⟨hv,rfl⟩;refine J1 ?_;refine jp (kT rfl Tryz.underlying141 ⟨_,Tryz.underlying99⟩ (r:=((r:Nat):Int)) (by exact pX _ ⟨rfl,oO,oO⟩) ?_);refine J2 ?_;refine jt ?_;refine rP rfl rfl rfl ?_;rw[nm hq]at hv;rw[hqd,hrd];exact⟨⟨v,rfl,hv⟩,hS.kb⟩
theorem He (a x by_:Nat) (hb:by_<=32) (ha:a<2^by_):a|||(x*2^by_)%4294967296=a+(x*2^by_)%4294967296:=by
 have h:(4294967296:Nat)=2^(32-by_)*2^by_:=by rw[<-dA,eV hb]
 rw[h,iX];exact uK _ _ _ ha
theorem Ep (a x by_:Nat) (hb:by_<=32) (ha:a<2^by_):a+(x*2^by_)%4294967296<4294967296:=by
 have h:(4294967296:Nat)=2^(32-by_)*2^by_:=by rw[<-dA,eV hb]
 have h1:(x*2^by_)%4294967296=x%2^(32-by_)*2^by_:=by rw[h,iX]
 have h2:x%2^(32-by_)+1<=2^(32-by_):=bl _ (cy dD);have h3:=aI (2^by_) h2;rw[<-h,bn]at h3;omega
theorem Ic (vx:Value) (X c n:Nat) (w:World) (hx:Sl (uk .u32) 1 w vx (kY X)) (hc:c<32) (hn:(kY X).length<=n) (hXn:X*2^c<km^n) (hmx:n<=17592186044416):
  mb Tryz.prog 155 #[vx,.int .u64 c,.int .i64 n] w λr w'=>
   (∃b,r= .slice (some ⟨b,0,none⟩) n n/\w.heap.size<=b/\w'.heap[b]?=some (.cells (Kr .u32 (pad km (X*2^c) n)).toArray 141 (0,0)))/\Below w.heap.size w w':=by
 have hS:=St.init w;obtain⟨m,hm⟩:=jz ((kY X).length);have hXm:X<km^m:=hm▸l9 X;have hp2:2^c<=2^31:=bJ dD oO;have hpos:0<2^c:=cy dD;refine enter Tryz.func155 rfl Tryz.ntmps155 rfl ?_;refine J2 ?_;refine jh (qj (n:=n) rfl rfl lI oO oO oO oO hS ?_);intro b1 wz2 hS hBz2;refine J2 ?_;refine jp (ky rfl (hx.kb hS.kb) ⟨_,Tryz.underlying139⟩ ?_);refine V1 ?_;rw[<-pi km n]at hS;refine kF (σ:=Nat) (λi ρ w'=>i<=m/\ρ 1= .int .u64 c/\ρ 2=iB n/\ρ 7= .slice (some ⟨b1,0,none⟩) n n/\ρ 13=vx/\ρ 14=iB m/\ρ 15=iB i/\St w w' [(b1,141,Kr .u32 (pad km (X%km^i*2^c) n))]) (λi=>m-i) 0
  ⟨aw _,rfl,rfl,rfl,rfl,vi rfl (by rw[hm]),rfl,by rw[cU,ec,fA];exact hS⟩ ?_
 clear hS;rintro i ρ w3 ⟨hi,h1,h2,h7,h13,h14,h15,hS⟩;refine V1 ?_;by_cases hlt:i<m
 ·refine V1 ?_;have hil:i<(kY X).length:=oO;have x1:=mw X i;refine J1 ?_;refine jp (ks (i:=i) h13 h15 (hx.kb hS.kb) oO dO lI (jq (kC (i:=i) 0 rfl kV (hx.kb hS.kb) dO rfl rfl (.inr rfl) ?_)));refine V2 ?_;rw[mE];obtain⟨x,hxd⟩:=jz (lh km X i);rw[<-hxd]at x1⊢;have hx2:x*2^c<=4294967295*2^31:=fp x1 hp2;obtain⟨V,hV⟩:=jz (X%km^i*2^c);have hVs:X%km^(i+1)*2^c=V+km^i*(x*2^c):=by rw[mod_pow_succ,bn,<-hV,ba,hxd]
  have hVlt:V<km^i*2^c:=by rw[hV];exact de (sE dD X i) hpos
  have hBi:0<km^i:=cy dD;have hVd:V/km^i<2^c:=dg hVlt;have hVb:V<km^(i+1):=by
   have:km^i*2^c<=km^i*km:=bA _ (by unfold km;omega);rw[bC];omega
  have hdg:lh km V i=V/km^i:=rU dD hVb;have hfit:=Ep (V/km^i) x c oO hVd;have hget:(pad km V n).getD i 0=V/km^i:=by rw[oq _ _ oO,hdg]
  rw[<-hV]at hS;have hsplit:=cI (x*2^c) 4294967296;have hlow:V+km^i*((x*2^c)%4294967296)<km^(i+1):=by
   have h8:=cI V (km^i);have h9:=bl V hBi;have h10:km^i*(V/km^i+(x*2^c)%4294967296+1)<=km^i*km:=bA _ hfit;rw[aV,aV]at h10;rw[bC];omega
  refine J1 ?_;refine jp (kT rfl Tryz.underlying99 ⟨_,Tryz.underlying141⟩ (r:=((x:Nat):Int)) (by exact lE _ ⟨rfl,oO,oO⟩) ?_);refine J1 ?_;refine jp (u6 rfl rfl oO (u5 x c ((x*2^c:Nat):Int) (by show c<=64;omega) (lE _ ⟨rfl,oO,oO⟩)) ?_);refine J3 ?_;refine jp (kM (i:=i) rfl rfl oO dO lI (jq (oe (k:=0) (i:=i) rfl kV hS rfl oO dO ?_)));refine J1 ?_;refine jp (kT rfl Tryz.underlying141 ⟨_,Tryz.underlying99⟩ (sR _) (jp (y7 rfl rfl (r:=((V/km^i+(x*2^c)%4294967296:Nat):Int)) (by rw[hget,<-He _ _ _ oO hVd];exact rS rfl _ _ (by show _<4294967296;omega) (by show _<4294967296;omega)) (jp (kM (i:=i) rfl rfl oO dO lI (jh (pO (k:=0) (i:=i) (a:=_) rfl rfl rfl kV hS rfl oO dO ?_)))))));intro wz3 hS;refine ja ?_;have hset:=zI (b:=km) (v:=V) (n:=n) (k:=i) (x:=(x*2^c)%4294967296) dD hVb hlow;rw[hdg]at hset;rw[show [(b1,141,Kr IntKind.u32 (pad km V n))].set 0 (b1,141,Kr IntKind.u32 ((pad km V n).set i (V/km^i+(x*2^c)%4294967296)))=[(b1,141,Kr IntKind.u32 ((pad km V n).set i (V/km^i+(x*2^c)%4294967296)))]from rfl,hset]at hS;refine V4 ?_;have hnext:V+km^i*((x*2^c)%4294967296)+km^(i+1)*(x*2^c/4294967296)=X%km^(i+1)*2^c:=by
   have:km^(i+1)*(x*2^c/4294967296)=km^i*(4294967296*(x*2^c/4294967296)):=by rw[bC,ba]
   rw[hVs,this,dR,<-aV];congr 2;omega
  have hhi:x*2^c/4294967296<2147483648:=oO;by_cases hlt2:i+1<n
  ·refine V1 ?_;have hget2:(pad km (V+km^i*((x*2^c)%4294967296)) n).getD (i+1) 0=0:=by rw[oq _ _ hlt2,uj hlow]
   refine J3 ?_;refine jp (kM (i:=i+1) rfl rfl oO dO lI (jq (oe (k:=0) (i:=i+1) rfl kV hS rfl oO dO ?_)));refine J1 ?_;refine jp (qu rfl rfl oO (r:=((x*2^c/4294967296:Nat):Int)) (by exact qN _ 32 dD) (jp (kT rfl Tryz.underlying141 ⟨_,Tryz.underlying99⟩ (r:=((x*2^c/4294967296:Nat):Int)) (by exact pX _ ⟨rfl,oO,oO⟩) (jp (y7 rfl rfl (r:=((x*2^c/4294967296:Nat):Int)) (by rw[hget2,rS rfl _ _ dD (by show _<4294967296;omega),Nat.zero_or]) (jp (kM (i:=i+1) rfl rfl oO dO lI (jh (pO (k:=0) (i:=i+1) (a:=_) rfl rfl rfl kV hS rfl oO dO ?_)))))))));intro wz4 hS;refine ja ?_;obtain⟨e1,e2⟩:=xD (b:=km) (r:=V+km^i*((x*2^c)%4294967296)) (i:=i+1) (d:=x*2^c/4294967296) (n:=n) dD hlow (by unfold km;omega);rw[e1,hnext]at hS;refine V2 ?_;exact⟨i+1,_,rfl,⟨hlt,h1,h2,h7,h13,h14,vi rfl oO,hS⟩,oO⟩
  ·refine V1 ?_;have hz:x*2^c/4294967296=0:=by
    rcases df (x*2^c/4294967296)with h|h
    ·exact h
    ·exfalso;have g1:km^(i+1)*1<=km^(i+1)*(x*2^c/4294967296):=bA _ h;have g2:X%km^(i+1)*2^c<=X*2^c:=aI _ (Nat.mod_le _ _);have g3:km^n<=km^(i+1):=bJ dD oO;omega
   rw[hz,eY,eh]at hnext;rw[hnext]at hS;refine V2 ?_;exact⟨i+1,_,rfl,⟨hlt,h1,h2,h7,h13,h14,vi rfl oO,hS⟩,oO⟩
 ·refine J1 ?_;refine jt ?_;obtain rfl:i=m:=oO;rw[aW hXm]at hS;refine J2 ?_;refine jt ?_;refine kJ rfl rfl ?_;exact⟨⟨b1,rfl,hS.ge (k:=0) rfl,hS.get (k:=0) rfl⟩,hS.kb⟩
theorem Bf (R c i:Nat) (hc:c<=32):(lh km R i+lh km R (i+1)*4294967296)/2^c%4294967296=lh km (R/2^c) i:=by
 have h1:R/km^i=4294967296*(R/km^(i+1))+lh km R i:=pJ km R i;have h2:R/km^(i+1)=4294967296*(R/km^(i+2))+lh km R (i+1):=pJ km R (i+1);have h3:(4294967296:Nat)=2^(32-c)*2^c:=by rw[<-dA,eV hc]
 have hpos:0<2^c:=cy dD;have h4:lh km (R/2^c) i=R/km^i/2^c%4294967296:=by
  unfold lh;rw[cV,cV,bF]
 have h5:R/km^i=lh km R i+lh km R (i+1)*4294967296+2^c*(2^(32-c)*(4294967296*(R/km^(i+2)))):=by
  rw[<-ba (2^c),bF (2^c),<-h3,h1,h2];omega
 rw[h4,h5,db _ _ hpos];rw[show 2^(32-c)*(4294967296*(R/km^(i+2)))=4294967296*(2^(32-c)*(R/km^(i+2))) by ac_rfl,eO]
theorem I0 (vx:Value) (R c n:Nat) (w:World) (hx:Sl (uk .u32) 1 w vx (pad km R n)) (hc:c<32) (hRn:R<km^n) (hmx:n<=17592186044416):
  mb Tryz.prog 157 #[vx,.int .u64 c] w λr w'=>Sl (uk .u32) 1 w' r (kY (R/2^c))/\Below w.heap.size w w':=by
 have hS:=St.init w;have hlen:(pad km R n).length=n:=pad_length _ _ _;refine enter Tryz.func157 rfl Tryz.ntmps157 rfl ?_;refine J2 ?_;refine jp (ky rfl (hx.kb hS.kb) ⟨_,Tryz.underlying139⟩ (jh (qj (n:=n) rfl rfl lI oO oO oO oO hS ?_)));intro b1 wz2 hS hBz2;refine J2 ?_;refine jp (ky rfl (hx.kb hS.kb) ⟨_,Tryz.underlying139⟩ ?_);refine V1 ?_;rw[<-pi km n,show 0=R/2^c%km^0 by rw[cU,ec]]at hS;refine kF (σ:=Nat) (λi ρ w'=>i<=n/\ρ 0=vx/\ρ 1= .int .u64 c/\ρ 5= .slice (some ⟨b1,0,none⟩) n n/\ρ 12=iB n/\ρ 13=iB i/\St w w' [(b1,141,Kr .u32 (pad km (R/2^c%km^i) n))]) (λi=>n-i) 0
  ⟨aw _,rfl,rfl,rfl,vi rfl (by rw[hlen]),rfl,hS⟩ ?_
 clear hS;rintro i ρ w3 ⟨hi,h0,h1,h5,h12,h13,hS⟩;refine V1 ?_;by_cases hlt:i<n
 ·refine V1 ?_;have x1:=mw R i;have x2:=mw R (i+1);have hg1:(pad km R n).getD i 0=lh km R i:=oq _ _ hlt;refine J4 ?_;refine jp (ks (i:=i) rfl rfl (hx.kb hS.kb) oO dO lI (jq (kC (i:=i) 0 rfl kV (hx.kb hS.kb) dO rfl rfl (.inr rfl) (jp (kT rfl Tryz.underlying99 ⟨_,Tryz.underlying141⟩ (r:=((lh km R i:Nat):Int)) (by rw[hg1];exact lE _ ⟨rfl,oO,oO⟩) ?_)))));refine J4 ?_;refine jp (ky rfl (hx.kb hS.kb) ⟨_,Tryz.underlying139⟩ ?_);refine V1 ?_;refine kG (λρ w'=>ρ 0=vx/\ρ 1= .int .u64 c/\ρ 5= .slice (some ⟨b1,0,none⟩) n n/\ρ 6=iB i/\ρ 7= .int .u64 (lh km R i+lh km R (i+1)*4294967296:Nat)/\ρ 12=iB n/\ρ 13=iB i/\w3=w') ?_ ?_
  ·by_cases hlt2:i+1<n
   ·refine V1 ?_;have hg2:(pad km R n).getD (i+1) 0=lh km R (i+1):=oq _ _ hlt2;refine J4 ?_;refine jp (ks (i:=i+1) rfl rfl (hx.kb hS.kb) oO dO lI (jq (kC (i:=i+1) 0 rfl kV (hx.kb hS.kb) dO rfl rfl (.inr rfl) (jp (kT rfl Tryz.underlying99 ⟨_,Tryz.underlying141⟩ (r:=((lh km R (i+1):Nat):Int)) (by rw[hg2];exact lE _ ⟨rfl,oO,oO⟩) (jp (u6 rfl rfl oO (r:=((lh km R (i+1)*2^32:Nat):Int)) (by exact u5 _ 32 _ dD (lE _ ⟨rfl,oO,oO⟩)) (jp (y7 rfl rfl (r:=((lh km R i+lh km R (i+1)*2^32:Nat):Int)) (by rw[<-uK _ _ 32 oO];exact rS rfl _ _ (by show _<18446744073709551616;omega) (by show _<18446744073709551616;omega)) ?_)))))))));refine V1 ?_;exact⟨_,rfl,h0,h1,h5,rfl,rfl,h12,h13,rfl⟩
   ·refine V1 ?_;refine⟨_,rfl,h0,h1,h5,rfl,vi rfl ?_,h12,h13,rfl⟩;have:lh km R (i+1)=0:=uj (dq hRn (bJ dD oO));rw[this];simp
  clear h0 h1 h5 h12 h13;rintro ρ w' ⟨h0,h1,h5,h6,h7,h12,h13,rfl⟩;obtain⟨t,ht⟩:=jz (lh km R i+lh km R (i+1)*4294967296);rw[<-ht]at h7;refine J4 ?_;refine jp (qu rfl rfl oO (qN _ _ (show c<=64 by omega)) (jp (kT rfl Tryz.underlying141 ⟨_,Tryz.underlying99⟩ (sR _) (jp (kM (i:=i) rfl rfl oO dO lI (jh (pO (k:=0) (i:=i) (a:=_) rfl rfl rfl kV hS rfl oO dO ?_)))))));intro wz3 hS;refine ja ?_;rw[ht,Bf R c i oO,Cm dD]at hS;refine V2 ?_;exact⟨i+1,_,rfl,⟨hlt,h0,h1,h5,h12,vi rfl oO,hS⟩,oO⟩
 ·refine J1 ?_;refine jt ?_;obtain rfl:i=n:=oO;have hlt3:R/2^c<km^i:=bZ (dx _ _) hRn;rw[aW hlt3]at hS;have hsl:=hS.IH (k:=0) rfl (n:=i) (cap:=i) (by simp) (aB _) oO;rw[aU (by simp)]at hsl;refine J1 ?_;refine jh (kf Tryz.call112 rfl (xP _ _ _ hsl (to dD _ _)) ?_);rintro v w4 ⟨hv,rfl⟩;refine J1 ?_;refine jt ?_;refine kJ rfl rfl ?_;rw[nm hlt3]at hv;exact⟨hv,hS.kb⟩
structure Kn (a b U D top u2 d1 d2:Nat):Prop where
 ha:0<a
 hu:U/a=top*b+u2
 hd:D/a=d1*b+d2
 hu2:u2<b
 hd2:d2<b
 h1:0<d1
 hb:b<=2*d1
 hlt:U<D*b
namespace Kn
variable {a b U D top u2 d1 d2 : Nat}
theorem q_lt (h:Kn a b U D top u2 d1 d2):U/D<b:=by
 have hlt:=h.hlt;exact dg hlt
theorem dpos (h:Kn a b U D top u2 d1 d2):0<D:=by
 rcases df D with h0|h0
 ·have:=h.hlt;rw[h0]at this;omega
 ·exact h0
theorem qT (h:Kn a b U D top u2 d1 d2):U/D*(d1*b+d2)<=top*b+u2:=by
 rw[<-h.hd,<-h.hu];have ha:=h.ha;have h1:U/D*(D/a)*a<=U:=by
  calc U/D*(D/a)*a=U/D*(D/a*a):=ba _ _ _
   _<=U/D*D:=bA _ (g8 _ _)
   _<=U:=g8 _ _
 exact(ef ha).2 h1
theorem q_le_top (h:Kn a b U D top u2 d1 d2):U/D<=top/d1:=by
 have h1:=h.qT;rw[aV,<-ba]at h1;have hu2:=h.hu2;have hb:0<b:=oO;have h2:U/D*d1*b<(top+1)*b:=by rw[bn];omega
 have h3:U/D*d1<top+1:=Nat.lt_of_mul_lt_mul_right h2;exact(ef h.h1).2 oO
theorem refuted (h:Kn a b U D top u2 d1 d2) {g r:Nat} (hg:g*d1+r=top) (hq:U/D<=g) (hc:r*b+u2<g*d2):U/D<g:=by
 rcases bH (U/D) g with h1|h1
 ·exact h1
 ·exfalso;have h2:U/D=g:=oO;have h3:=h.qT;rw[h2,aV,<-ba,<-hg,bn]at h3;omega
theorem near (h:Kn a b U D top u2 d1 d2) {g r:Nat} (hg:g*d1+r=top) (hgb:g<b) (hc:g*d2<=r*b+u2):g<=U/D+1:=by
 have h1:g*(d1*b+d2)<=top*b+u2:=by
  rw[aV,<-ba,<-hg,bn];omega
 rw[<-h.hd,<-h.hu]at h1;have ha:=h.ha;have hD:=cI D a;have hDl:=bl D ha;have h2:g*(D/a)*a<=U:=cQ (aI _ h1) (g8 _ _);have h3:b*a<=D:=by
  have h5:b*a<=D/a*a:=by
   refine aI _ ?_;rw[h.hd];have:1*b<=d1*b:=aI _ h.h1;omega
  exact cQ h5 (g8 _ _)
 have h4:g*D<=U+D:=by
  have e:g*D=g*(D/a)*a+g*(D%a):=by
   conv=>lhs;rw[<-hD]
   rw[aV,ba,bF a]
  have f:g*(D%a)<=b*a:=fp (fU hgb) (fU hDl);omega
 have h6:(g-1)*D<=U:=by rw[Nat.sub_mul,dG];omega
 have:=(ef h.dpos).2 h6;omega
theorem rest (h:Kn a b U D top u2 d1 d2) {g r:Nat} (hg:g*d1+r=top) (hgb:g<=b) (hr:b<=r):g<=U/D:=by
 have hb0:0<b:=by have:=h.hd2;omega
 have ha:=h.ha;have hu:U/(a*b)=top:=by rw[<-cV,h.hu,bF,iT hb0,bU h.hu2,eh]
 have hd:D/(a*b)=d1:=by rw[<-cV,h.hd,bF,iT hb0,bU h.hd2,eh]
 have hab:0<a*b:=dH ha hb0;have h1:=cI D (a*b);have h2:=bl D hab;have h3:a*b*top<=U:=by rw[<-hu];exact Nat.mul_div_le _ _
 rw[hd]at h1;have h4:g*D<=U:=by
  have e:g*D=a*b*(g*d1)+g*(D% (a*b)):=by
   conv=>lhs;rw[<-h1]
   rw[aV];ac_rfl
  have f:g*(D% (a*b))<=b*(a*b):=fp hgb (fU h2);have k:a*b*(g*d1+b)<=a*b*top:=bA _ oO;rw[aV,bF (a*b) b]at k;omega
 exact(ef h.dpos).2 h4
theorem top_le (h:Kn a b U D top u2 d1 d2):top<d1*b+b:=by
 have hb0:0<b:=by have:=h.hd2;omega
 have ha:=h.ha;have hu:U/(a*b)=top:=by rw[<-cV,h.hu,bF,iT hb0,bU h.hu2,eh]
 have hd:D/(a*b)=d1:=by rw[<-cV,h.hd,bF,iT hb0,bU h.hd2,eh]
 have hab:0<a*b:=dH ha hb0;rw[<-hu];refine dg (dq h.hlt ?_);have h1:=cI D (a*b);have h2:=bl D hab;rw[hd]at h1;have h3:D<=a*b*(d1+1):=by rw[aV];omega
 calc D*b<=a*b*(d1+1)*b:=aI _ h3
  _=a*b*(d1*b+b):=by rw[ba,bn,dG]
end Kn
theorem Fx {b:Nat} (hb:0<b) {lo o:Nat} (hlo:lo<b^o) (X j:Nat):lh b (lo+b^o*X) (o+j)=lh b X j:=by
 unfold lh;rw[dA,<-cV,db _ _ (cy hb),bU hlo,bX]
theorem pN {b lo X o k d n:Nat} (hb:2<=b) (hlo:lo<b^o) (hd:d<b) (hk:o+k<n):
  ∃X',(pad b (lo+b^o*X) n).set (o+k) d=pad b (lo+b^o*X') n/\X'+b^k*lh b X k=X+b^k*d/\(∀m,k<m->X<b^m->X'<b^m):=by
 have hb':0<b:=oO;obtain⟨v',e1,e2,e3⟩:=GF (b:=b) (v:=lo+b^o*X) (k:=o+k) (d:=d) (n:=n) hb hd hk;rw[Fx hb' hlo,dA,ba,ba]at e2;have hpos:0<b^o:=cy hb';have hdv:v'/b^o=X+b^k*d-b^k*lh b X k/\v'%b^o=lo/\b^k*lh b X k<=X+b^k*d:=by
  have hle:b^k*lh b X k<=X:=by
   have:=E5 b X k;rw[aV]at this;generalize X%b^k=z at this;omega
  have:v'=lo+b^o*(X+b^k*d-b^k*lh b X k):=by
   rw[Nat.mul_sub,aV];have:b^o*(b^k*lh b X k)<=b^o*X:=bA _ hle;omega
  rw[this,db _ _ hpos,bU hlo,bX,eO,aW hlo];exact⟨rfl,rfl,oO⟩
 obtain⟨f1,f2,f3⟩:=hdv;refine⟨X+b^k*d-b^k*lh b X k,?_,oO,λm hm hX=> ?_⟩
 ·rw[e1,<-f1];congr 1;have:=fz v' (b^o);rw[f2]at this;exact this.symm
 ·have h1:lo+b^o*X<b^(o+m):=by
   rw[dA];have:b^o*(X+1)<=b^o*b^m:=bA _ hX;rw[aV]at this;omega
  have h2:=e3 (o+m) oO h1;rw[<-f1];rw[dA]at h2;exact dg h2
open Go Go.RowKit Go.Sx
theorem Kn.of (n U D:Nat) (hn:2<=n) (hD:D<km^n) (hD2:km^n<=2*D) (hU:U<D*km):
  Kn (km^(n-2)) km U D (lh km U n*km+lh km U (n-1)) (lh km U (n-2)) (lh km D (n-1)) (lh km D (n-2)):=by
 have hU1:U<km^(n+1):=by
  rw[bC];exact iR hU (de hD dD)
 have e1:=pJ km U (n-2);have e2:=pJ km U (n-1);rw[show n-2+1=n-1 by omega]at e1;rw[show n-1+1=n by omega]at e2;have e3:U/km^n=lh km U n:=(rU dD hU1).symm;have f1:=pJ km D (n-2);rw[show n-2+1=n-1 by omega]at f1;have f2:D/km^(n-1)=lh km D (n-1):=(rU dD (by rw[show n-1+1=n by omega];exact hD)).symm;have hp:0<km^(n-1):=cy dD;have hb:km<=2*lh km D (n-1):=by
  rw[<-f2];have g1:=cI D (km^(n-1));have g2:=bl D hp;have g3:km^n=km^(n-1)*km:=by rw[<-bC];congr 1;omega
  have g4:km^(n-1)*km<km^(n-1)*(2*(D/km^(n-1))+2):=by
   rw[aV,ix];omega
  have g5:=Nat.lt_of_mul_lt_mul_left g4;have hB:km=4294967296:=rfl;omega
 refine⟨cy dD,?_,?_,qZ dD _ _,qZ dD _ _,?_,hb,hU⟩
 ·rw[e1,e2,e3,bF,bF km]
 ·rw[f1,f2,bF]
 ·have hB:km=4294967296:=rfl;omega
theorem Cd (x t bb:Nat) (hx:x<=4294967295) (ht:t<=4294967295) (hb:bb<=1):
  (x+2*km-t-bb)%km+t+bb=x+4294967296*(if x<t+bb then 1 else 0):=by
 have hB:km=4294967296:=rfl;obtain⟨D,hD⟩:=jz (x+2*km-t-bb);rw[<-hD];have hD2:D+t+bb=x+8589934592:=oO;clear hD;show D%4294967296+t+bb=_;rcases bH x (t+bb)with h|h
 ·rw[aj h];omega
 ·rw[ah oO];omega
theorem Q8 (w0 w:World) (H:List lj) (bu bd o cap n m1 lo U D:Nat)
  (hS:St w0 w ((bu,141,Kr .u32 (pad km (lo+km^o*U) m1))::(bd,141,Kr .u32 (pad km D n))::H))
  (hlo:lo<km^o) (hn:2<=n) (hD:D<km^n) (hD2:km^n<=2*D) (hU:U<D*km) (hom:o+n+1<=m1) (hm:m1<=17592186044416):
  mb Tryz.prog 156 #[.slice (some ⟨bu,o,none⟩) (n+1) cap,.slice (some ⟨bd,0,none⟩) n n] w λr w'=>r= .int .u32 (U/D:Nat)/\
   St w0 w' ((bu,141,Kr .u32 (pad km (lo+km^o*(U%D)) m1))::(bd,141,Kr .u32 (pad km D n))::H):=by
 have hB:km=4294967296:=rfl;have hkn:=Kn.of n U D hn hD hD2 hU;have hq:=hkn.q_lt;have hU1:U<km^(n+1):=by
  rw[bC];exact iR hU (de hD dD)
 have hgU:∀X j,j<=n->(pad km (lo+km^o*X) m1).getD (o+j) 0=lh km X j:=λX j hj=>by rw[oq _ _ oO,Fx dD hlo]
 have hgD:∀j,j<n->(pad km D n).getD j 0=lh km D j:=λj hj=>oq _ _ hj;have hgd1:=hgD (n-1) oO;have hgd2:=hgD (n-2) oO;have a0:=mw U n;have a1:=mw U (n-1);have a2:=mw U (n-2);have c1:=mw D (n-1);have c2:=mw D (n-2);have hd1:=hkn.h1;obtain⟨top,htop⟩:=jz (lh km U n*km+lh km U (n-1));have htop2:top=lh km U (n-1)+lh km U n*2^32:=by rw[htop,fc]
 have hor:lh km U n*2^32|||lh km U (n-1)=top:=by rw[gu,uK _ _ _ oO,htop2]
 have htl:top<=18446744073709551615:=by rw[htop];omega
 refine enter Tryz.func156 rfl Tryz.ntmps156 rfl ?_;refine V4 ?_;refine kK [jo 0,jo 1,jo 2,ju 3,jo 4,jo 5,jo 6,jo 7,jo 8,jo 9,ju 10,jo 11,jo 12,jo 13] kR kR hS ?_;intro wz1 hS hBz1;refine J2 ?_;refine jl rfl (kM (i:=n) rfl rfl oO dO lI (jm rfl (oe (k:=0) (i:=o+(n)) rfl kV hS rfl oO dO (jl rfl (kT rfl Tryz.underlying99 ⟨_,Tryz.underlying141⟩ (r:=((lh km U n:Nat):Int)) (by rw[hgU U n oO];exact lE _ ⟨rfl,oO,oO⟩) (jl rfl (u6 rfl rfl oO (r:=((lh km U n*2^32:Nat):Int)) (by exact u5 _ 32 _ dD (lE _ ⟨rfl,oO,oO⟩)) ?_)))))));refine J3 ?_;refine jl rfl (kM (i:=n-1) rfl rfl oO dO lI (jm rfl (oe (k:=0) (i:=o+(n-1)) rfl kV hS rfl oO dO (jl rfl (kT rfl Tryz.underlying99 ⟨_,Tryz.underlying141⟩ (r:=((lh km U (n-1):Nat):Int)) (by rw[hgU U (n-1) oO];exact lE _ ⟨rfl,oO,oO⟩) (jl rfl (y7 rfl rfl (r:=((top:Nat):Int)) (by rw[<-hor];exact rS rfl _ _ (by show _<18446744073709551616;omega) (by show _<18446744073709551616;omega)) ?_)))))));refine V1 ?_;refine kK [jo 0,jo 1,jo 2,jo 3,jo 4,ju 5,jo 6,jo 7,jo 8,jo 9,jo 10,jo 11,jo 12,ju 13,jo 14,jo 15,jo 16,jo 17] kR kR hS ?_;intro wz2 hS hBz2;refine J4 ?_;refine jl rfl (kM (i:=n-1) rfl rfl oO dO lI (jm rfl (oe (k:=1) (i:=n-1) rfl kV hS rfl oO dO (jl rfl (kT rfl Tryz.underlying99 ⟨_,Tryz.underlying141⟩ (r:=((lh km D (n-1):Nat):Int)) (by rw[hgd1];exact lE _ ⟨rfl,oO,oO⟩) (jl rfl (sf rfl rfl oO (r:=((top/lh km D (n-1):Nat):Int)) (by rw[jj _ _ oO];push_cast;rfl) ?_)))))));refine J4 ?_;refine jl rfl (kM (i:=n-1) rfl rfl oO dO lI (jm rfl (oe (k:=1) (i:=n-1) rfl kV hS rfl oO dO (jl rfl (kT rfl Tryz.underlying99 ⟨_,Tryz.underlying141⟩ (r:=((lh km D (n-1):Nat):Int)) (by rw[hgd1];exact lE _ ⟨rfl,oO,oO⟩) (jl rfl (pF rfl rfl oO (r:=((top%lh km D (n-1):Nat):Int)) (by rw[dQ oO];push_cast;rfl) ?_)))))));refine J2 ?_;refine jb ?_;refine kG (λρ w'=>∃g,g<km/\U/D<=g/\g<=U/D+1/\ρ 0= .slice (some ⟨bu,o,none⟩) (n+1) cap/\ρ 1= .slice (some ⟨bd,0,none⟩) n n/\ρ 5=iB n/\ρ 7= .int .u64 g/\
   St w0 w' ((bu,141,Kr .u32 (pad km (lo+km^o*U) m1))::(bd,141,Kr .u32 (pad km D n))::H)) ?_ ?_
 ·refine ja ?_;refine kF (σ:=Nat×Nat) (λs ρ w'=>s.1*lh km D (n-1)+s.2=top/\U/D<=s.1/\s.2<km/\ρ 0= .slice (some ⟨bu,o,none⟩) (n+1) cap/\ρ 1= .slice (some ⟨bd,0,none⟩) n n/\ρ 5=iB n/\ρ 7= .int .u64 s.1/\ρ 8= .int .u64 s.2/\
    St w0 w' ((bu,141,Kr .u32 (pad km (lo+km^o*U) m1))::(bd,141,Kr .u32 (pad km D n))::H)) (λs=>s.1) (top/lh km D (n-1),top%lh km D (n-1))
   ⟨by simp only;rw[bF];exact cI _ _,by simp only;rw[htop];exact hkn.q_le_top,by simp only;have:=bl top hd1;omega,rfl,rfl,rfl,rfl,rfl,hS⟩ ?_
  clear hS;rintro⟨g,r⟩ ρ w3 ⟨hinv,hgq,hr,h0,h1,h5,h7,h8,hS⟩;simp only at hinv hgq hr h0 h1 h5 h7 h8 hS;have hgt:g<=top:=by
   have:g*1<=g*lh km D (n-1):=bA _ hd1;omega
  refine ja ?_;by_cases hgB:km<=g
  ·refine ja ?_;refine kK [jo 0,jo 1,jo 2,jo 3,jo 4,jo 5,jo 6,jo 7,ju 8,jo 9,jo 10,jo 11,jo 12,jo 13,jo 14,jo 15,jo 16,ju 17,jo 18,jo 19,jo 20,jo 21] kR kR hS ?_;intro wz3 hS hBz3;refine J3 ?_;refine nh rfl (kg 50 kR rfl dT) (nh rfl (kg 50 kR rfl dT) (nh rfl (kg 50 kR rfl dT) (nh rfl (kg 50 kR rfl dT) (nh rfl (kg 50 kR rfl dT) (nh rfl (kg 50 kR rfl dT) (nh rfl (kg 50 kR rfl dT) (nh rfl (kg 50 kR rfl dT) (nh rfl (kg 50 kR rfl dT) (nh rfl (kg 50 kR rfl dT) (nh rfl (kg 50 kR rfl dT) (nh rfl (kg 50 kR rfl dT) (nh rfl (kg 50 kR rfl dT) (nh rfl (kg 50 kR rfl dT) ?_)))))))))))));refine nh rfl (kg 50 kR rfl dT) (nh rfl (kg 50 kR rfl dT) (nh rfl (kg 50 kR rfl dT) (nh rfl (kg 50 kR rfl dT) (jl rfl (kH (vb rfl dT) rfl ?_)))));refine ja ?_;refine lu rfl (rfl) ?_;refine ja ?_;have hgq2:U/D<g:=oO;have hg0:0<g:=bZ (aw _) hgq2;have hg1:U/D<=g-1:=gR hgq2;refine V3 ?_;have hgd:(g-1)*lh km D (n-1)+(r+lh km D (n-1))=top:=by
    obtain⟨g',rfl⟩:∃g',g=g'+1:=⟨g-1,oO⟩;rw[bn,dG]at hinv;rw[ik];omega
   refine J4 ?_;refine jp (kM (i:=n-1) rfl rfl oO dO lI (jq (oe (k:=1) (i:=n-1) rfl kV hS rfl oO dO (jp (kT rfl Tryz.underlying99 ⟨_,Tryz.underlying141⟩ (r:=((lh km D (n-1):Nat):Int)) (by rw[hgd1];exact lE _ ⟨rfl,oO,oO⟩) (jp (py rfl rfl (r:=((r+lh km D (n-1):Nat):Int)) (by exact lE _ ⟨by push_cast;rfl,oO,oO⟩) ?_)))))));refine V3 ?_;by_cases hbrk:km<=r+lh km D (n-1)
   ·refine J1 ?_;refine jt ?_;have hgB:g-1<km:=by
     rcases bH (g-1) km with h|h
     ·exact h
     ·exfalso;have h1:km*lh km D (n-1)<=(g-1)*lh km D (n-1):=aI _ h;have h2:=hkn.top_le;rw[<-htop,bF]at h2;omega
    have hgq:=hkn.rest (by rw[<-htop];exact hgd) oO hbrk;exact⟨_,rfl,g-1,hgB,hg1,oO,h0,h1,h5,vi rfl oO,hS⟩
   ·refine V1 ?_;refine⟨(g-1,r+lh km D (n-1)),_,rfl,⟨hgd,hg1,by simp only;omega,h0,h1,h5,vi rfl (by simp only;omega),rfl,hS⟩,by simp only;omega⟩
  ·have hgd2':g*lh km D (n-2)<=4294967295*4294967295:=fp oO c2;have hor2:r*2^32|||lh km U (n-2)=r*4294967296+lh km U (n-2):=by rw[gu,uK _ _ _ oO,fc]
   refine ja ?_;refine kK [jo 0,jo 1,jo 2,jo 3,jo 4,jo 5,jo 6,jo 7,ju 8,jo 9,jo 10,jo 11,jo 12,jo 13,jo 14,jo 15,jo 16,ju 17,jo 18,jo 19,jo 20,jo 21] kR kR hS ?_;intro wz4 hS hBz4;refine J3 ?_;refine kL rfl (kd 50 kR rfl dF) (kw h7 (kL rfl (kd 50 kR rfl dF) (kw h1 (kL rfl (kd 50 kR rfl dF) (kw h5 (kL rfl (kd 50 kR rfl dF) (sh rfl rfl (ct _ oO) (kL rfl (kd 50 kR rfl dF) (kM (i:=n-2) rfl rfl oO dO lI (mC rfl (kd 50 kR rfl dF) (oe (k:=1) (i:=n-2) rfl kV hS rfl oO dO (kL rfl (kd 50 kR rfl dF) (kT rfl Tryz.underlying99 ⟨_,Tryz.underlying141⟩ (r:=((lh km D (n-2):Nat):Int)) (by rw[hgd2];exact lE _ ⟨rfl,oO,oO⟩) (kL rfl (kd 50 kR rfl dF) (wF rfl rfl (r:=((g*lh km D (n-2):Nat):Int)) (by exact lE _ ⟨by push_cast;rfl,oO,oO⟩) (kL rfl (kd 50 kR rfl dF) (kw h8 (kL rfl (kd 50 kR rfl dF) (u6 rfl rfl oO (r:=((r*2^32:Nat):Int)) (by exact u5 _ 32 _ dD (lE _ ⟨rfl,oO,oO⟩)) (kL rfl (kd 50 kR rfl dF) (kw h0 (kL rfl (kd 50 kR rfl dF) (kw h5 (kL rfl (kd 50 kR rfl dF) (sh rfl rfl (ct _ oO) (kL rfl (kd 50 kR rfl dF) (kM (i:=n-2) rfl rfl oO dO lI ?_)))))))))))))))))))))))))));refine mC rfl (kd 50 kR rfl dF) (oe (k:=0) (i:=o+(n-2)) rfl kV hS rfl oO dO (kL rfl (kd 50 kR rfl dF) (kT rfl Tryz.underlying99 ⟨_,Tryz.underlying141⟩ (r:=((lh km U (n-2):Nat):Int)) (by rw[hgU U (n-2) oO];exact lE _ ⟨rfl,oO,oO⟩) (kL rfl (kd 50 kR rfl dF) (y7 rfl rfl (r:=((r*4294967296+lh km U (n-2):Nat):Int)) (by rw[<-hor2];exact rS rfl _ _ (by show _<18446744073709551616;omega) (by show _<18446744073709551616;omega)) (kL rfl (kd 50 kR rfl dF) (sT rfl rfl (jl rfl (kH (vb rfl dF) rfl ?_)))))))));refine ja ?_;by_cases href:r*4294967296+lh km U (n-2)<g*lh km D (n-2)
   ·refine lu rfl (ai (by exact_mod_cast href)) ?_;refine ja ?_;have hgq2:U/D<g:=hkn.refuted (by rw[<-htop];exact hinv) hgq href;have hg0:0<g:=bZ (aw _) hgq2;have hg1:U/D<=g-1:=gR hgq2;refine V3 ?_;have hgd:(g-1)*lh km D (n-1)+(r+lh km D (n-1))=top:=by
     obtain⟨g',rfl⟩:∃g',g=g'+1:=⟨g-1,oO⟩;rw[bn,dG]at hinv;rw[ik];omega
    refine J4 ?_;refine jp (kM (i:=n-1) rfl rfl oO dO lI (jq (oe (k:=1) (i:=n-1) rfl kV hS rfl oO dO (jp (kT rfl Tryz.underlying99 ⟨_,Tryz.underlying141⟩ (r:=((lh km D (n-1):Nat):Int)) (by rw[hgd1];exact lE _ ⟨rfl,oO,oO⟩) (jp (py rfl rfl (r:=((r+lh km D (n-1):Nat):Int)) (by exact lE _ ⟨by push_cast;rfl,oO,oO⟩) ?_)))))));refine V3 ?_;by_cases hbrk:km<=r+lh km D (n-1)
    ·refine J1 ?_;refine jt ?_;have hgB:g-1<km:=by
      rcases bH (g-1) km with h|h
      ·exact h
      ·exfalso;have h1:km*lh km D (n-1)<=(g-1)*lh km D (n-1):=aI _ h;have h2:=hkn.top_le;rw[<-htop,bF]at h2;omega
     have hgq:=hkn.rest (by rw[<-htop];exact hgd) oO hbrk;exact⟨_,rfl,g-1,hgB,hg1,oO,h0,h1,h5,vi rfl oO,hS⟩
    ·refine V1 ?_;refine⟨(g-1,r+lh km D (n-1)),_,rfl,⟨hgd,hg1,by simp only;omega,h0,h1,h5,vi rfl (by simp only;omega),rfl,hS⟩,by simp only;omega⟩
   ·refine lH rfl (ae (by exact_mod_cast href)) ?_;refine jt ?_;have hnear:=hkn.near (by rw[<-htop];exact hinv) oO (iJ href);exact⟨_,rfl,g,oO,hgq,hnear,h0,h1,h5,h7,hS⟩
 clear hS a0 a1 a2 c1 c2 hor htl htop2;rintro ρ w2 ⟨g,hgB,hq1,hq2,h0,h1,h5,h7,hS⟩;clear htop;refine J5 ?_;refine jb ?_;refine kG (λρ w'=>∃c bb X,c<=4294967295/\bb<=1/\X<km^(n+1)/\X+g*D=U+km^n*(c+bb)/\ρ 0= .slice (some ⟨bu,o,none⟩) (n+1) cap/\ρ 1= .slice (some ⟨bd,0,none⟩) n n/\ρ 5=iB n/\ρ 7= .int .u64 g/\ρ 9= .int .u64 (c:Nat)/\ρ 10= .int .u32 (bb:Nat)/\
   St w0 w' ((bu,141,Kr .u32 (pad km (lo+km^o*X) m1))::(bd,141,Kr .u32 (pad km D n))::H)) ?_ ?_
 ·refine ja ?_;refine kF (σ:=Nat×Nat×Nat×Nat) (λs ρ w'=>s.1<=n/\s.2.1<=4294967295/\s.2.2.1<=1/\s.2.2.2<km^(n+1)/\s.2.2.2+g*(D%km^s.1)=U+km^s.1*(s.2.1+s.2.2.1)/\ρ 0= .slice (some ⟨bu,o,none⟩) (n+1) cap/\ρ 1= .slice (some ⟨bd,0,none⟩) n n/\ρ 5=iB n/\ρ 7= .int .u64 g/\ρ 9= .int .u64 s.2.1/\ρ 10= .int .u32 s.2.2.1/\
    ρ 82= .slice (some ⟨bd,0,none⟩) n n/\ρ 83=iB n/\ρ 84=iB s.1/\
    St w0 w' ((bu,141,Kr .u32 (pad km (lo+km^o*s.2.2.2) m1))::(bd,141,Kr .u32 (pad km D n))::H)) (λs=>n-s.1) (0,0,0,U)
   ⟨aw _,aw _,aw _,hU1,by simp[ec],h0,h1,h5,h7,rfl,rfl,rfl,rfl,rfl,hS⟩ ?_
  clear hS h0 h1 h5 h7;rintro⟨k,c,bb,X⟩ ρ w3 ⟨hk,hc,hbb,hX,hinv,h0,h1,h5,h7,h9,h10,h82,h83,h84,hS⟩;simp only at hk hc hbb hX hinv h0 h1 h5 h7 h9 h10 h82 h83 h84 hS;refine V1 ?_;by_cases hlt:k<n
  ·refine V1 ?_;have x1:=mw X k;have d1:=mw D k;have hgX:=hgU X k hk;obtain⟨u1,u2⟩:=yM g (lh km D k) 0 c oO d1 oO hc;refine J1 ?_;refine jp (kM (i:=k) h82 h84 oO dO lI (jq (oe (k:=1) (i:=k) rfl kV hS rfl oO dO ?_)));refine V2 ?_;rw[hgD k hlt];refine J2 ?_;refine jp (kT rfl Tryz.underlying99 ⟨_,Tryz.underlying141⟩ (r:=((lh km D k:Nat):Int)) (by exact lE _ ⟨rfl,oO,oO⟩) (jp (wF rfl rfl (r:=((g*lh km D k:Nat):Int)) (by exact lE _ ⟨by push_cast;rfl,oO,oO⟩) ?_)));refine J1 ?_;refine jp (py rfl rfl (r:=((g*lh km D k+c:Nat):Int)) (by exact lE _ ⟨by push_cast;rfl,oO,oO⟩) ?_);refine V1 ?_;obtain⟨t,ht⟩:=jz (g*lh km D k+c);rw[<-ht];have htl:t<=18446744073709551615:=oO;refine J1 ?_;refine jp (qu rfl rfl oO (r:=((t/4294967296:Nat):Int)) (by exact qN _ 32 dD) ?_);refine J5 ?_;refine jp (kM (i:=k) rfl rfl oO dO lI (jq (oe (k:=0) (i:=o+(k)) rfl kV hS rfl oO dO ?_)));refine J1 ?_;refine jp (kT rfl Tryz.underlying141 ⟨_,Tryz.underlying99⟩ (sR _) ?_);refine J1 ?_;refine jh (kf Tryz.call161 rfl (Da _ _ _ _ (by rw[hgX];omega) (bl _ dD) hbb) ?_);rintro v w4 ⟨rfl,rfl⟩;refine J3 ?_;refine jp (kM (i:=k) rfl rfl oO dO lI (jh (pO (k:=0) (i:=o+(k)) (a:=_) rfl rfl rfl kV hS rfl oO dO ?_)));intro wz5 hS;refine V1 ?_;obtain⟨u',hu'⟩:∃u',u'=(lh km X k+2*km-t%4294967296-bb)%km:=⟨_,rfl⟩;obtain⟨b',hb'⟩:∃b',b'=if lh km X k<t%4294967296+bb then 1 else 0:=⟨_,rfl⟩
   have hub:u'+t%4294967296+bb=lh km X k+4294967296*b':=by
    rw[hu',hb'];exact Cd _ _ _ x1 oO hbb
   have hb1:b'<=1:=by rw[hb'];split<;>omega
   obtain⟨X',e1,e2,e3⟩:=pN (b:=km) (lo:=lo) (X:=X) (o:=o) (k:=k) (d:=u') (n:=m1) dD hlo (hu'▸bl _ dD) oO;rw[hgX,<-hu']at hS;rw[en,e1]at hS;refine V2 ?_;refine⟨(k+1,t/4294967296,b',X'),_,rfl,⟨hlt,by simp only;omega,hb1,e3 _ oO hX,?_,h0,h1,h5,h7,rfl,vi rfl (by rw[hgX,hb']),h82,h83,vi rfl (by simp),hS⟩,by simp only;omega⟩;simp only;have f1:g*(D%km^(k+1))=g*(D%km^k)+km^k*(g*lh km D k):=by rw[mod_pow_succ,aV];congr 1;ac_rfl
   have f2:km^(k+1)*(t/4294967296+b')=km^k*(4294967296*(t/4294967296)+4294967296*b'):=by rw[bC,ba,<-aV]
   have f3:lh km X k+(4294967296*(t/4294967296)+4294967296*b')=u'+(g*lh km D k+c)+bb:=oO;have f4:km^k*lh km X k+km^k*(4294967296*(t/4294967296)+4294967296*b')=km^k*u'+km^k*(g*lh km D k)+km^k*(c+bb):=by
    rw[<-aV,f3,<-aV,<-aV];congr 1;omega
   rw[f1,f2];omega
  ·refine J1 ?_;refine jt ?_;obtain rfl:k=n:=oO;rw[aW hD]at hinv;exact⟨_,rfl,c,bb,X,hc,hbb,hX,hinv,h0,h1,h5,h7,h9,h10,hS⟩
 clear hS h0 h1 h5 h7;rintro ρ w3 ⟨c,bb,X,hc,hbb,hX,hinv,h0,h1,h5,h7,h9,h10,hS⟩;refine ja ?_;have x1:=mw X n;have hgX:=hgU X n (aB _);refine J4 ?_;refine jp (kM (i:=n) rfl rfl oO dO lI (jq (oe (k:=0) (i:=o+(n)) rfl kV hS rfl oO dO ?_)));refine J1 ?_;refine jp (kT rfl Tryz.underlying141 ⟨_,Tryz.underlying99⟩ (r:=((c:Nat):Int)) (by exact pX _ ⟨rfl,oO,oO⟩) ?_);refine J1 ?_;refine jh (kf Tryz.call161 rfl (Da _ _ _ _ (by rw[hgX];omega) oO hbb) ?_);rintro v w4 ⟨rfl,rfl⟩;refine J3 ?_;refine jp (kM (i:=n) rfl rfl oO dO lI (jh (pO (k:=0) (i:=o+(n)) (a:=_) rfl rfl rfl kV hS rfl oO dO ?_)));intro wz6 hS;refine V1 ?_;obtain⟨u',hu'⟩:∃u',u'=(lh km X n+2*km-c-bb)%km:=⟨_,rfl⟩;obtain⟨b',hb'⟩:∃b',b'=if lh km X n<c+bb then 1 else 0:=⟨_,rfl⟩
 have hub:u'+c+bb=lh km X n+4294967296*b':=by
  rw[hu',hb'];exact Cd _ _ _ x1 hc hbb
 have hb1:b'<=1:=by rw[hb'];split<;>omega
 obtain⟨Y,e1,e2,e3⟩:=pN (b:=km) (lo:=lo) (X:=X) (o:=o) (k:=n) (d:=u') (n:=m1) dD hlo (hu'▸bl _ dD) oO;have hY:=e3 _ oO hX;rw[hgX,<-hu']at hS;rw[en,e1]at hS;have hYU:Y+g*D=U+km^(n+1)*b':=by
  have f2:km^(n+1)*b'=km^n*(4294967296*b'):=by rw[bC,ba]
  have f4:km^n*lh km X n+km^n*(4294967296*b')=km^n*u'+km^n*(c+bb):=by
   rw[<-aV,<-aV];congr 1;omega
  omega
 have hbv:(if lh km X n<c+bb then 1 else 0:Nat)=b':=hb'.symm;rw[hgX,hbv];clear e1 e2 e3 hub hu' hb' hbv hgX x1 hinv hX;refine V2 ?_;have hdm:=cI U D;have hDpos:0<D:=hkn.dpos;by_cases hb0:b'=0
 ·refine V1 ?_;rw[hb0,eY,eh]at hYU;have hg1:g<=U/D:=(ef hDpos).2 oO;have hgq:g=U/D:=oO;have hYm:Y=U%D:=by rw[hgq,bF]at hYU;omega
  rw[hYm]at hS;refine J1 ?_;refine jp (kT rfl Tryz.underlying141 ⟨_,Tryz.underlying99⟩ (r:=((U/D:Nat):Int)) (by rw[hgq];exact pX _ ⟨rfl,eo _,by generalize U/D=z at hq⊢;omega⟩) ?_);refine J1 ?_;refine jt ?_;refine kJ rfl rfl ?_;exact⟨rfl,hS⟩
 ·refine V1 ?_;obtain rfl:b'=1:=oO;have hgq:g=U/D+1:=by
   rcases bH (U/D) g with h|h
   ·omega
   ·exfalso;have:g*D<=U:=(ef hDpos).1 h;omega
  have hYR:Y+D=U%D+km^(n+1):=by
   rw[hgq,bn,dG,bF]at hYU;omega
  refine J4 ?_;refine jb ?_;refine kG (λρ w'=>∃c Z,c<=1/\Z<km^(n+1)/\Z+km^n*c=Y+D/\ρ 0= .slice (some ⟨bu,o,none⟩) (n+1) cap/\ρ 5=iB n/\ρ 7= .int .u64 g/\ρ 14= .int .u32 (c:Nat)/\
    St w0 w' ((bu,141,Kr .u32 (pad km (lo+km^o*Z) m1))::(bd,141,Kr .u32 (pad km D n))::H)) ?_ ?_
  ·refine ja ?_;refine kF (σ:=Nat×Nat×Nat) (λs ρ w'=>s.1<=n/\s.2.1<=1/\s.2.2<km^(n+1)/\s.2.2+km^s.1*s.2.1=Y+D%km^s.1/\ρ 0= .slice (some ⟨bu,o,none⟩) (n+1) cap/\ρ 5=iB n/\ρ 7= .int .u64 g/\ρ 14= .int .u32 s.2.1/\
     ρ 130= .slice (some ⟨bd,0,none⟩) n n/\ρ 131=iB n/\ρ 132=iB s.1/\
     St w0 w' ((bu,141,Kr .u32 (pad km (lo+km^o*s.2.2) m1))::(bd,141,Kr .u32 (pad km D n))::H)) (λs=>n-s.1) (0,0,Y)
    ⟨aw _,aw _,hY,by simp[ec],h0,h5,h7,rfl,rfl,rfl,rfl,hS⟩ ?_
   clear hS h0 h1 h5 h7 h9 h10;rintro⟨k,c,Z⟩ ρ w3 ⟨hk,hc,hZ,hinv,h0,h5,h7,h14,h130,h131,h132,hS⟩;simp only at hk hc hZ hinv h0 h5 h7 h14 h130 h131 h132 hS;refine V1 ?_;by_cases hlt:k<n
   ·refine V1 ?_;have x1:=mw Z k;have d1:=mw D k;have hgX:=hgU Z k hk;refine J1 ?_;refine jp (kM (i:=k) h130 h132 oO dO lI (jq (oe (k:=1) (i:=k) rfl kV hS rfl oO dO ?_)));refine V2 ?_;rw[hgD k hlt];refine J4 ?_;refine jp (kM (i:=k) rfl rfl oO dO lI (jq (oe (k:=0) (i:=o+(k)) rfl kV hS rfl oO dO ?_)));refine J2 ?_;refine jh (kf Tryz.call117 rfl (Hn _ _ _ _ (by rw[hgX];omega) oO oO) ?_);rintro v w4 ⟨rfl,rfl⟩;refine J3 ?_;refine jp (kM (i:=k) rfl rfl oO dO lI (jh (pO (k:=0) (i:=o+(k)) (a:=_) rfl rfl rfl kV hS rfl oO dO ?_)));intro wz7 hS;refine V1 ?_;obtain⟨t,ht⟩:=jz (lh km Z k+lh km D k+c);obtain⟨Z',e1,e2,e3⟩:=pN (b:=km) (lo:=lo) (X:=Z) (o:=o) (k:=k) (d:=t%km) (n:=m1) dD hlo (bl _ dD) oO;rw[hgX,<-ht]at hS;rw[en,e1]at hS;refine V2 ?_;refine⟨(k+1,t/km,Z'),_,rfl,⟨hlt,by simp only[hB];omega,e3 _ oO hZ,?_,h0,h5,h7,vi rfl (by rw[hgX,<-ht]),h130,h131,vi rfl (by simp),hS⟩,by simp only;omega⟩;simp only;have f2:km^(k+1)*(t/km)=km^k*(km*(t/km)):=by rw[bC,ba]
    have f4:km^k*(t%km)+km^k*(km*(t/km))=km^k*lh km Z k+km^k*lh km D k+km^k*c:=by
     rw[<-aV,fz,ht,aV,aV]
    rw[mod_pow_succ,f2];omega
   ·refine J1 ?_;refine jt ?_;obtain rfl:k=n:=oO;rw[aW hD]at hinv;exact⟨_,rfl,c,Z,hc,hZ,hinv,h0,h5,h7,h14,hS⟩
  clear hS h0 h1 h5 h7 h9 h10;rintro ρ w4 ⟨c,Z,hc,hZ,hinv,h0,h5,h7,h14,hS⟩;refine ja ?_;have x1:=mw Z n;have hgX:=hgU Z n (aB _);refine J2 ?_;refine jp (kM (i:=n) rfl rfl oO dO lI (jq (oe (k:=0) (i:=o+(n)) rfl kV hS rfl oO dO ?_)));refine J1 ?_;refine jp (py rfl rfl (r:=(((lh km Z n+c)%4294967296:Nat):Int)) (by rw[hgX,tV];omega) (jp (kM (i:=n) rfl rfl oO dO lI (jh (pO (k:=0) (i:=o+(n)) (a:=_) rfl rfl rfl kV hS rfl oO dO ?_)))));intro wz8 hS;refine ja ?_;obtain⟨V,e1,e2,e3⟩:=pN (b:=km) (lo:=lo) (X:=Z) (o:=o) (k:=n) (d:=(lh km Z n+c)%4294967296) (n:=m1) dD hlo (bl _ dD) oO;rw[en,e1]at hS;have hV:V=U%D:=by
   have hR:U%D<km^n:=iR (bl _ hDpos) hD;have hpos:0<km^n:=cy dD;have htop:lh km Z n=Z/km^n:=rU dD hZ;have hdz:=cI Z (km^n);have hmz:=bl Z hpos;have hsum:Z%km^n+km^n*(Z/km^n+c)=U%D+km^n*4294967296:=by
    have:km^(n+1)=km^n*4294967296:=bC ..;rw[aV];omega
   have hy:Z/km^n+c=4294967296:=by
    have h1:(Z%km^n+km^n*(Z/km^n+c))/km^n=(U%D+km^n*4294967296)/km^n:=by rw[hsum]
    rwa[db _ _ hpos,db _ _ hpos,bU hmz,bU hR,bX,bX]at h1
   rw[htop,hy]at e2;rw[hy]at hsum;simp only[Nat.mod_self,eY,eh]at e2;omega
  rw[hV]at hS;refine J1 ?_;refine jp (sh rfl rfl (r:=((U/D:Nat):Int)) (by rw[hgq];exact lE _ ⟨by push_cast;omega,eo _,by generalize U/D=z at hq⊢;omega⟩) (jp (kT rfl Tryz.underlying141 ⟨_,Tryz.underlying99⟩ (r:=((U/D:Nat):Int)) (by exact pX _ ⟨rfl,eo _,by generalize U/D=z at hq⊢;omega⟩) ?_)));refine J1 ?_;refine jt ?_;refine kJ rfl rfl ?_;exact⟨rfl,hS⟩
section
variable {P : Program} {N : Nat} {ρ : Nat → Value} {ops : Array Oper}
  {d : Option Tmp} {ty : TypeId} {pos : String} {aft : Array Edge} {g : Option (Nat × Bool)} {x y z : Operand} {t e : TypeId} {b o : Nat} {K : Value → Prop}
theorem Tp {size by_ n cap o' n' c':Nat} {zz:List Value} {lo hi:Nat} {kl kh:IntKind} {ml mh:Int} (hx:ev N ρ x= .slice (some ⟨b,o,none⟩) n cap) (hl:ev N ρ y= .int kl ml) (hh:ev N ρ z= .int kh mh)
  (hml:ml=(lo:Int)) (hmh:mh=(hi:Int)) (h1:lo<=hi) (h2:hi<=cap) (h3:lo<cap) (e1:o+lo*size=o') (e2:hi-lo=n') (e3:cap-lo=c') (ht:sinfo P t=some (e,size,by_,zz)) (h:K (.slice (some ⟨b,o',none⟩) n' c')):
  mx P N ρ ⟨d,.slice t x (some y) (some z) none,ty,pos,aft,g⟩ K:=by
 subst e1 e2 e3;exact TV hx hl hh hml hmh h1 h2 h3 ht h
end
theorem Oz (b v:Nat) {n m:Nat} (h:n<=m):(pad b v m).take n=pad b v n:=by
 unfold pad;rw[<-List.map_take,List.take_range,gX h]
theorem zE {Y:Nat} (h:0<Y):0<(kY Y).length/\0<lh km Y ((kY Y).length-1):=by
 have hl:0<(kY Y).length:=by
  rcases df (kY Y).length with h0|h0
  ·have:=(Bn (b:=km) (n:=Y) dD).1 (cB h0);omega
  ·exact h0
 refine⟨hl,?_⟩;have h1:=l9 Y;have h2:km^((kY Y).length-1)<=Y:=sj dD (by show _<(kY Y).length;omega);rw[rU dD (by rw[eV hl];exact h1)];exact iy h2 (cy dD)
theorem Iu {Y n c:Nat} (hn:0<n) (hY:Y<km^n) (hc:c<32) (h1:lh km Y (n-1)*2^c<km) (h2:km<=2*(lh km Y (n-1)*2^c)):
  Y*2^c<km^n/\km^n<=2*(Y*2^c):=by
 obtain⟨x,hx⟩:=jz (lh km Y (n-1));have hxt:x=Y/km^(n-1):=by rw[hx];exact rU dD (by rw[eV hn];exact hY)
 rw[<-hx]at h1 h2;have hp:0<km^(n-1):=cy dD;have hB:km^n=km^(n-1)*km:=by rw[<-bC];congr 1;omega
 have e1:=cI Y (km^(n-1));have e2:=bl Y hp;rw[<-hxt]at e1;have h3:(x+1)*2^c<=km:=by
  have hb:km=2^(32-c)*2^c:=by rw[<-dA,eV oO]
  rw[hb]at h1⊢;exact aI _ (Nat.lt_of_mul_lt_mul_right h1)
 have hpc:0<2^c:=cy dD;constructor
 ·rw[hB];have a1:Y<km^(n-1)*(x+1):=by rw[aV];omega
  have a2:Y*2^c<km^(n-1)*(x+1)*2^c:=de a1 hpc;have a3:km^(n-1)*((x+1)*2^c)<=km^(n-1)*km:=bA _ h3;rw[<-ba]at a3;omega
 ·rw[hB];have a1:km^(n-1)*x<=Y:=by rw[hxt];exact Nat.mul_div_le _ _
  have a2:km^(n-1)*x*2^c<=Y*2^c:=aI _ a1;have a3:km^(n-1)*km<=km^(n-1)*(2*(x*2^c)):=bA _ h2;have a4:km^(n-1)*(2*(x*2^c))=2*(km^(n-1)*x*2^c):=by rw[ix,ba]
  omega
theorem yu {X Y Q V s : Nat} (hs : 0 < s) (h : X * s = Q * (Y * s) + V) (hV : V < Y * s) : X / Y = Q ∧ V = X % Y * s ∧ V / s = X % Y := by
  have hY : 0 < Y := by rcases df Y with h0 | h0; · rw [h0] at hV; omega
                        · exact h0
  have h1 : X * s / (Y * s) = Q := by
    rw [h, fc, iZ _ _ (dH hY hs), bU hV, bX]
  have h2 : X * s % (Y * s) = V := by
    rw [h, ig, aW hV]
  rw [Nat.mul_div_mul_right _ _ hs] at h1
  rw [iX] at h2
  refine ⟨h1, h2.symm, ?_⟩
  rw [← h2, Nat.mul_div_cancel _ hs]
theorem Es (vx vy:Value) (X Y:Nat) (w:World) (hx:Sl (uk .u32) 1 w vx (kY X)) (hy:Sl (uk .u32) 1 w vy (kY Y)) (hY0:0<Y) (hmx:(kY X).length<=4398046511104) (hmy:(kY Y).length<=4398046511104):
  mb Tryz.prog 111 #[vx,vy] w λr w'=>(∃q s,r= .tuple #[q,s]/\Sl (uk .u32) 1 w' q (kY (X/Y))/\Sl (uk .u32) 1 w' s (kY (X%Y)))/\Below w.heap.size w w':=by
 have hB:km=4294967296:=rfl;have hS:=St.init w;obtain⟨m,hm⟩:=jz ((kY X).length);obtain⟨n,hn⟩:=jz ((kY Y).length);have hXm:X<km^m:=hm▸l9 X;have hYn:Y<km^n:=hn▸l9 Y;obtain⟨M,hM⟩:=jz (m-n+1);obtain⟨hn0,htp⟩:=zE hY0;rw[<-hn]at hn0 htp;have htl:=mw Y (n-1);refine enter Tryz.func111 rfl Tryz.ntmps111 rfl ?_;refine J4 ?_;refine jh (kf Tryz.call118 rfl (Ct _ _ _ _ _ (hx.kb hS.kb) (hy.kb hS.kb)) ?_);rintro r w1 ⟨rfl,hB1⟩;replace hS:=hS.kx hB1;refine V1 ?_;by_cases hlt:X<Y
 ·refine lu rfl (ai (by rw[uq hlt];decide)) ?_;refine jr ?_;refine jp (kw rfl (jp (oN rfl (jp (oN rfl ?_)))));refine jt ?_;refine rP rfl rfl rfl ?_;refine⟨⟨_,_,rfl,?_,?_⟩,hS.kb⟩
  ·rw[bU hlt,kY,n6];exact Sl.nil _ _ _
  ·rw[aW hlt];exact hx.kb hS.kb
 ·have hge:Y<=X:=iJ hlt;have hnm:n<=m:=by rw[hn,hm];exact oa dD hge
  have hcmp:¬sV X Y<0:=by
   rcases bH Y X with h|h
   ·rw[ut h];decide
   ·rw[show X=Y by omega,xH];decide
  refine lH rfl (ae hcmp) ?_;refine J1 ?_;refine jp (ky rfl (hy.kb hS.kb) ⟨_,Tryz.underlying139⟩ ?_);refine V1 ?_;by_cases h1:n=1
  ·refine V1 ?_;have hg:(kY Y).getD 0 0=Y:=by
    rw[mE,lh,cU,fC];rw[h1,jf]at hYn;exact aW hYn
   have hYl:Y<=4294967295:=by rw[h1,jf]at hYn;omega
   refine J2 ?_;refine jp (ks (i:=0) rfl rfl (hy.kb hS.kb) oO dO lI (jq (kC (i:=0) 0 rfl kV (hy.kb hS.kb) dO rfl rfl (.inr rfl) ?_)));rw[hg];refine jh (kf Tryz.call153 rfl (Dy _ _ _ _ (hx.kb hS.kb) hY0 hYl oO) ?_);rintro r w2 ⟨⟨q,rfl,hq⟩,hB2⟩;replace hS:=hS.kx hB2;refine V5 ?_;have hml:X%Y<=4294967295:=by have:=bl X hY0;omega
   have hq0:Sl (uk .u32) 1 w2 q (kY (X/Y)):=hq;refine J2 ?_;refine jh (np (vs:=[_]) rfl lI rfl dD dD dD (by simp[Value.cells]) rfl hS ?_);intro b1 wz2 hS hBz2;have hq1:=hq0.kb hBz2;have hsl:=St.IH (L:=[X%Y]) hS (k:=0) rfl (n:=1) (cap:=1) (by simp) oO oO;refine jh (kf Tryz.call112 rfl (xP _ _ _ hsl (by intro d hd;rw[aU (by simp)]at hd;rw[aO.1 hd];omega)) ?_);rintro v w4 ⟨hv,rfl⟩;refine J2 ?_;refine jt ?_;refine rP rfl rfl rfl ?_;refine⟨⟨_,_,rfl,hq1,?_⟩,hS.kb⟩;have e:lN km ([X%Y].take 1)=X%Y:=by simp[lN]
   rwa[e]at hv
  ·refine V1 ?_;have hgt:(kY Y).getD (n-1) 0=lh km Y (n-1):=mE Y (n-1);refine J2 ?_;refine jp (ky rfl (hy.kb hS.kb) ⟨_,Tryz.underlying139⟩ ?_);refine J1 ?_;refine jp (ks (i:=n-1) rfl rfl (hy.kb hS.kb) oO dO lI (jq (kC (i:=n-1) 0 rfl kV (hy.kb hS.kb) dO rfl rfl (.inr rfl) ?_)));rw[hgt];refine jh (kf Tryz.call154 rfl (y9 _ _ htp oO) ?_);rintro r w2 ⟨⟨c,hc,hc1,hc2,rfl⟩,rfl⟩;obtain⟨hD,hD2⟩:=Iu hn0 hYn hc hc1 hc2;have hpc:0<2^c:=cy dD;have hpc2:2^c<=2^31:=bJ dD oO;obtain⟨D,hDe⟩:=jz (Y*2^c);rw[<-hDe]at hD hD2;have hD0:0<D:=by rw[hDe];exact dH hY0 hpc
   have hUm:X*2^c<km^(m+1):=by
    have h3:X*2^c<km^m*2^c:=de hXm hpc;have h4:km^m*2^c<=km^m*km:=bA _ oO;rw[bC];omega
   have hUD:X*2^c<D*km^(m-n+1):=by
    have h3:X*2^c<km^m*2^c:=de hXm hpc;have h4:km^m*2^c<=km^m*2^31:=bA _ hpc2;have h5:km^n*km^(m-n+1)=km^m*km:=by rw[<-dA,<-bC];congr 1;omega
    have h6:km^n*km^(m-n+1)<=2*D*km^(m-n+1):=aI _ hD2;rw[ba]at h6;have h7:km^m*km=km^m*4294967296:=rfl;omega
   refine J3 ?_;refine jp (ky rfl (hy.kb hS.kb) ⟨_,Tryz.underlying139⟩ ?_);refine J4 ?_;refine jh (kf Tryz.call155 rfl (Ic _ _ _ _ _ (hy.kb hS.kb) hc (aB _) (by rw[<-hn,<-hDe];exact hD) oO) ?_);rintro r w3 ⟨⟨bd,rfl,hbd1,hbd2⟩,hB3⟩;replace hS:=hS.push hB3 hbd1 hbd2;refine J4 ?_;refine jp (ky rfl (hx.kb hS.kb) ⟨_,Tryz.underlying139⟩ ?_);refine J1 ?_;have hs2:=Ic vx X c (m+1) w3 (hx.kb hS.kb) hc oO hUm oO;refine jh (kf Tryz.call155 rfl ((by rw[hm]at hs2;exact hs2)) ?_);rintro r w4 ⟨⟨bu,rfl,hbu1,hbu2⟩,hB4⟩;replace hS:=hS.push hB4 hbu1 hbu2;rw[<-hm,<-hn,<-hDe]at hS;refine J2 ?_;refine jp (ky rfl (hx.kb hS.kb) ⟨_,Tryz.underlying139⟩ ?_);refine J3 ?_;refine jh (qj (n:=M) rfl rfl lI oO oO oO oO hS ?_);intro b3 wz4 hS hBz4;refine V1 ?_;replace hS:=hS.perm (H':=[(bu,141,Kr .u32 (pad km (X*2^c) (m+1))),(bd,141,Kr .u32 (pad km D n)),(b3,141,Kr .u32 (pad km (km^M*0) M))])
    (by rw[eY,pi];exact(List.Perm.swap _ _ _).trans ((List.Perm.swap _ _ _).cons _))
   refine V4 ?_;refine kF (σ:=Nat×Nat×Nat) (λs ρ w'=>s.1<=M/\X*2^c=s.2.1*D*km^s.1+s.2.2/\s.2.2<D*km^s.1/\ρ 8= .int .u64 c/\ρ 9=iB n/\ρ 10= .slice (some ⟨bd,0,none⟩) n n/\ρ 11= .slice (some ⟨bu,0,none⟩) (m+1) (m+1)/\ρ 12= .slice (some ⟨b3,0,none⟩) M M/\ρ 13=iB ((s.1:Int)-1)/\
     St w w' [(bu,141,Kr .u32 (pad km s.2.2 (m+1))),(bd,141,Kr .u32 (pad km D n)),(b3,141,Kr .u32 (pad km (km^s.1*s.2.1) M))]) (λs=>s.1) (M,0,X*2^c)
    ⟨aB _,by simp,by simp only;rw[hM];exact hUD,vi rfl oO,vi rfl (by rw[hn]),by rw[hn];rfl,by rw[hm];rfl,rfl,vi rfl oO,hS⟩ ?_
   clear hS;rintro⟨k,Q,V⟩ ρ w6 ⟨hk,hinv,hV,h8,h9,h10,h11,h12,h13,hS⟩;simp only at hk hinv hV h8 h9 h10 h11 h12 h13 hS;refine V2 ?_;by_cases hk0:0<k
   ·refine V1 ?_;have hpk:0<km^(k-1):=cy dD;have hkk:km^k=km^(k-1)*km:=by rw[<-bC];congr 1;omega
    have hVs:V%km^(k-1)+km^(k-1)*(V/km^(k-1))=V:=fz _ _;have hU:V/km^(k-1)<D*km:=by
     refine dg ?_;rw[hkk]at hV;rw[ix];exact hV
    have hlo:V%km^(k-1)<km^(k-1):=bl _ hpk;obtain⟨lo,hloe⟩:=jz (V%km^(k-1));obtain⟨U,hUe⟩:=jz (V/km^(k-1));rw[<-hloe,<-hUe]at hVs;rw[<-hUe]at hU;rw[<-hloe]at hlo;have hq0:U/D<km:=dg hU;have hQ:km^k*Q<km^M:=by
     rcases bH (km^k*Q) (km^M)with h|h
     ·exact h
     ·exfalso;have h3:D*km^M<=D*(km^k*Q):=bA _ h;have h4:D*(km^k*Q)=Q*D*km^k:=by ac_rfl
      rw[<-hM]at hUD;omega
    obtain⟨e1,e2⟩:=uw (b:=km) (q:=Q) (i:=k) (e:=U/D) (n:=M) dD hq0 hk0 hk hQ;rw[<-hVs]at hS;refine J8 ?_;refine jp (Tp (lo:=k-1) (hi:=k-1+n+1) (o':=k-1) (n':=n+1) (c':=m+1-(k-1)) rfl rfl rfl oO oO oO oO oO oO oO rfl lI ?_);refine J1 ?_;refine jh (kf Tryz.call156 rfl (Q8 w w6 [(b3,141,Kr .u32 (pad km (km^k*Q) M))] bu bd (k-1) (m+1-(k-1)) n (m+1) lo U D hS hlo oO hD hD2 hU oO oO) ?_);rintro r w7 ⟨rfl,hS⟩;have hq1:U/D<=4294967295:=oO;refine jp (kM (i:=k-1) rfl rfl oO dO lI (jh (pO (k:=2) (i:=k-1) (a:=(U/D)) rfl rfl rfl kV hS rfl oO dO ?_)));intro wz5 hS;refine ja ?_;rw[show∀(a b c d:lj),[a,b,c].set 2 d=[a,b,d]from λ_ _ _ _=>rfl,e1]at hS;refine V3 ?_;refine⟨(k-1,km*Q+U/D,lo+km^(k-1)*(U%D)),_,rfl,⟨by simp only;omega,?_,?_,h8,h9,h10,h11,h12,vi rfl (by simp only;omega),hS⟩,by simp only;omega⟩
    ·simp only;have g1:=cI U D;have g2:km^(k-1)*U=km^(k-1)*(D*(U/D))+km^(k-1)*(U%D):=by rw[<-aV,g1]
     have g3:(km*Q+U/D)*D*km^(k-1)=Q*D*km^k+km^(k-1)*(D*(U/D)):=by
      rw[hkk,bn,bn];congr 1<;>ac_rfl
     rw[g3,hinv,<-hVs,g2];omega
    ·simp only;have g1:U%D+1<=D:=bl _ hD0;have g2:km^(k-1)*(U%D+1)<=km^(k-1)*D:=bA _ g1;rw[bF D,aV]at*;omega
   ·refine J1 ?_;refine jt ?_;obtain rfl:k=0:=oO;rw[cU,eN]at hinv hV;rw[cU,dG]at hS;rw[hDe]at hinv hV;obtain⟨f1,f2,f3⟩:=yu hpc hinv hV;rw[<-hDe]at hinv hV;have hQM:Q<km^M:=by
     rcases bH Q (km^M)with h|h
     ·exact h
     ·exfalso;have h3:D*km^M<=D*Q:=bA _ h;rw[bF D Q]at h3;rw[<-hM]at hUD;omega
    refine ja ?_;refine kK [jo 0,jo 2,jo 3,jo 4,jo 5,jv 1,jv 6,jo 7,jo 8] kR kR hS ?_;intro wz6 hS hBz6;refine J3 ?_;refine jl rfl (FX (hi:=n) rfl rfl rfl oO lI ?_);refine J1 ?_;have hslq:=hS.IH (k:=2) rfl (n:=M) (cap:=M) (by simp) (aB _) oO;rw[aU (by simp)]at hslq;refine jn rfl (kf Tryz.call112 rfl (xP _ _ _ hslq (to dD _ _)) ?_);rintro q w8 ⟨hq,rfl⟩;refine⟨(Below.refl _ _),?_⟩;have hslu:=hS.IH (k:=0) rfl (n:=n) (cap:=m+1) (by simp;omega) oO oO;rw[Oz _ _ oO]at hslu;refine jn rfl (kf Tryz.call157 rfl (I0 _ V c n _ hslu hc oO oO) ?_);rintro s w9 ⟨hs,hB9⟩;refine⟨hB9,?_⟩;refine J2 ?_;refine jt ?_;refine rP rfl rfl rfl ?_;rw[nm hQM,<-f1]at hq;rw[f3]at hs;exact⟨⟨_,_,rfl,hq.kb hB9,hs⟩,hS.kb.trans (hB9.mono hS.kb.size)⟩
theorem oM {m n:Nat} (h:m<=n):(kY m).length<=(kY n).length:=oa dD h
theorem sa {n:Nat}:(kY n).length=0↔n=0:=by
 rw[gw];exact Bn dD
theorem MW (a b:ByteArray) (w:World) (ha:a.size<=4398046511104) (hb:b.size<=4398046511104) (h0:val b≠0):
  mb Tryz.prog 68 #[.string a,.string b] w λr w'=>r= .tuple #[.string (kQ (val a/val b)),.string (kQ (val a%val b)),.bool true]/\Below w.heap.size w w':=by
 have hla:=mP a;have hlb:=mP b;have hne:(kY (val b)).length≠0:=λh=>h0 (sa.1 h);have hS:=St.init w;refine enter Tryz.func68 rfl Tryz.ntmps68 rfl ?_;refine J4 ?_;refine jh (kf Tryz.call69 rfl (qS _ _ oO) ?_);rintro vy w1 ⟨hy,hB1⟩;replace hS:=hS.kx hB1;refine J2 ?_;refine jp (ky rfl hy ⟨_,Tryz.underlying139⟩ ?_);refine J3 ?_;refine jh (kf Tryz.call69 rfl (qS _ _ oO) ?_);rintro vx w2 ⟨hx,hB2⟩;replace hS:=hS.kx hB2;refine J1 ?_;refine jh (kf Tryz.call111 rfl (Es _ _ _ _ _ hx (hy.kb hB2) oO oO oO) ?_);rintro r w3 ⟨⟨q,s,rfl,hq,hs⟩,hB3⟩;replace hS:=hS.kx hB3;refine V5 ?_;have hlq:=oM (dx (val a) (val b));have hls:=oM (Nat.mod_le (val a) (val b));refine J1 ?_;refine jh (kf Tryz.call70 rfl (vK _ _ _ hq (wg _) oO) ?_);rintro r w4 ⟨rfl,hB4⟩;replace hS:=hS.kx hB4;refine J1 ?_;refine jh (kf Tryz.call70 rfl (vK _ _ _ (hs.kb hB4) (wg _) oO) ?_);rintro r w5 ⟨rfl,hB5⟩;replace hS:=hS.kx hB5;refine J3 ?_;refine jt ?_;refine xI rfl rfl rfl rfl ?_;refine⟨?_,hS.kb⟩;rw[qp,qp];rfl
theorem N7 (a b:ByteArray) (w:World) (ha:a.size<=4398046511104) (hb:b.size<=4398046511104):
  mb Tryz.prog 67 #[.string a,.string b] w λr w'=>r= .string (kQ (Nat.gcd (val a) (val b)))/\Below w.heap.size w w':=by
 have hla:=mP a;have hlb:=mP b;have hS:=St.init w;refine enter Tryz.func67 rfl Tryz.ntmps67 rfl ?_;refine J2 ?_;refine jh (kf Tryz.call69 rfl (qS _ _ oO) ?_);rintro vx w1 ⟨hx,hB1⟩;replace hS:=hS.kx hB1;refine J1 ?_;refine jh (kf Tryz.call69 rfl (qS _ _ oO) ?_);rintro vy w2 ⟨hy,hB2⟩;replace hS:=hS.kx hB2;refine V2 ?_;refine kF (σ:=Nat×Nat) (λs ρ w'=>Nat.gcd s.1 s.2=Nat.gcd (val a) (val b)/\(kY s.1).length<=4398046511104/\(kY s.2).length<=4398046511104/\(∃vx vy,ρ 5=vx/\ρ 6=vy/\Sl (uk .u32) 1 w' vx (kY s.1)/\Sl (uk .u32) 1 w' vy (kY s.2))/\St w w' []) (λs=>s.2) (val a,val b)
  ⟨rfl,by simp only;omega,by simp only;omega,⟨_,_,rfl,rfl,hx.kb hB2,hy⟩,hS⟩ ?_
 clear hS hx hy;rintro⟨X,Y⟩ ρ w3 ⟨hg,hX,hY,⟨vx,vy,h5,h6,hx,hy⟩,hS⟩;simp only at hg hX hY hx hy;refine J1 ?_;refine jp (ky rfl hy ⟨_,Tryz.underlying139⟩ ?_);refine V1 ?_;have hyn:(kY Y).length=0↔Y=0:=sa;by_cases hY0:Y=0
 ·refine J2 ?_;refine jh (kf Tryz.call70 rfl (vK _ _ _ hx (wg _) oO) ?_);rintro r w4 ⟨rfl,hB4⟩;refine J1 ?_;refine jt ?_;refine kJ rfl rfl ?_;rw[qp];rw[hY0,Nat.gcd_zero_right]at hg;rw[hg];exact⟨rfl,hS.kb.trans (hB4.mono hS.kb.size)⟩
 ·refine V1 ?_;have hlt:X%Y<Y:=bl _ oO;have hls:=oM (fU hlt);refine J2 ?_;refine jh (kf Tryz.call111 rfl (Es _ _ _ _ _ hx hy oO oO oO) ?_);rintro r w4 ⟨⟨q,s,rfl,hq,hs⟩,hB4⟩;refine V9 ?_;refine⟨(Y,X%Y),_,rfl,⟨?_,hY,by simp only;omega,⟨vy,s,rfl,rfl,hy.kb hB4,hs⟩,hS.kx hB4⟩,hlt⟩;simp only;rw[<-hg,jS Y,<-Nat.gcd_rec,jS]
abbrev MX:Nat:=1099511627776
theorem SQ (m n:Nat) (w:World) (hm:(kQ m).size<=4398046511104) (hn:(kQ n).size<=4398046511104):
  mb Tryz.prog 67 #[.string (kQ m),.string (kQ n)] w λr w'=>r= .string (kQ (Nat.gcd m n))/\Below w.heap.size w w':=by
 have h:=N7 (kQ m) (kQ n) w hm hn;rwa[lF,lF]at h
theorem HT (m n:Nat) (w:World) (hm:(kQ m).size<=4398046511104) (hn:(kQ n).size<=4398046511104) (h0:n≠0):
  mb Tryz.prog 68 #[.string (kQ m),.string (kQ n)] w λr w'=>r= .tuple #[.string (kQ (m/n)),.string (kQ (m%n)),.bool true]/\Below w.heap.size w w':=by
 have h:=MW (kQ m) (kQ n) w hm hn (by rwa[lF]);rwa[lF,lF]at h
theorem wK (m n:Nat) (w:World) (hm:(kQ m).size<=4398046511104) (hn:(kQ n).size<=4398046511104):
  mb Tryz.prog 30 #[.string (kQ m),.string (kQ n)] w λr w'=>r= .string (kQ (m*n))/\Below w.heap.size w w':=by
 have h:=HZ (kQ m) (kQ n) w hm hn;rwa[lF,lF]at h
theorem Te (m n:Nat) (w:World) (hm:(kQ m).size<=4398046511104) (hn:(kQ n).size<=4398046511104):
  mb Tryz.prog 74 #[.string (kQ m),.string (kQ n)] w λr w'=>r= .string (kQ (m+n))/\Below w.heap.size w w':=by
 have h:=T7 (kQ m) (kQ n) w hm hn;rwa[lF,lF]at h
theorem VC (m n:Nat) (w:World) (hm:(kQ m).size<=4398046511104) (hn:(kQ n).size<=4398046511104):
  mb Tryz.prog 90 #[.string (kQ m),.string (kQ n)] w λr w'=>r= .int .i64 (sV m n)/\w'=w:=by
 have h:=IZ (kQ m) (kQ n) w oO oO;rwa[lF,lF]at h
theorem KK (m n:Nat) (w:World) (hm:(kQ m).size<=4398046511104) (hn:(kQ n).size<=4398046511104) (hle:n<=m):
  mb Tryz.prog 75 #[.string (kQ m),.string (kQ n)] w λr w'=>r= .tuple #[.string (kQ (m-n)),.bool true]/\Below w.heap.size w w':=by
 have h:=AY (kQ m) (kQ n) w hm hn;rw[lF,lF]at h;exact h.mono λ_ _ g=>by rwa[aj hle]at g
theorem Ib (m n:Nat) (w:World) (hm:(kQ m).size<=4398046511104) (hn:(kQ n).size<=4398046511104) (hlt:m<n):
  mb Tryz.prog 75 #[.string (kQ m),.string (kQ n)] w λr w'=>r= .tuple #[.string ⟨#[]⟩,.bool false]/\Below w.heap.size w w':=by
 have h:=AY (kQ m) (kQ n) w hm hn;rw[lF,lF]at h;exact h.mono λ_ _ g=>by rwa[ah (Nat.not_le_of_gt hlt)]at g
theorem Xr (s:ByteArray) {k:Nat} (h:s.size<=k):(kQ (val s)).size<=k:=cQ (qz s) h
theorem AN {n:Nat}:kQ n=⟨#[1]⟩↔n=1:=by rw[<-xg];exact⟨λh=>DI h,λh=>by rw[h]⟩
theorem Ax {n:Nat} (h:n=1):kQ n=⟨#[1]⟩:=AN.2 h
theorem Iw (r:RR) (w:World) (hr:Lr r<=MX):
  mb Tryz.prog 65 #[lC r] w λv w'=>v= .bool (decide (IN r))/\Below w.heap.size w w':=by
 have hM:MX=1099511627776:=rfl;have hn:=A4 r;have hd:=A9 r;have hV:=Mk r;have hS:=St.init w;refine enter Tryz.func65 rfl Tryz.ntmps65 rfl ?_;refine jr ?_;refine jh (lx (new:=ke r) rfl rfl hS ?_);intro b1 wz2 hS hBz2;refine V1 ?_;by_cases h1:kQ (val r.num)=r.num
 ·by_cases h2:kQ (val r.den)=r.den
  ·refine ja ?_;refine kK [jo 0,ju 1,jo 3,ju 4,jv 2,jo 5,jo 6,jo 7,ju 8,jo 10,ju 11,jv 9,jo 12,jo 13] kR kR hS ?_;intro wz3 hS hBz3;refine J4 ?_;refine jn rfl (kf Tryz.call66 rfl (nH _ _ (show r.num.size<=_ by omega)) ?_);rintro _ wq4 ⟨rfl,hq4⟩;replace hq4:=hq4.symm;subst hq4;refine⟨Below.refl _ _,?_⟩;refine jl rfl (rR rfl rfl ?_);refine J1 ?_;refine kL rfl (kd 9 kR rfl (ae (by exact aQ h1))) (lD rfl ol (mC rfl (kd 9 kR rfl (ae (by exact aQ h1))) (kP (k:=0) rfl qQ hS rfl rfl rfl (.inr rfl) (kL rfl (kd 9 kR rfl (ae (by exact aQ h1))) (lD rfl ol (mC rfl (kd 9 kR rfl (ae (by exact aQ h1))) (kP (k:=0) rfl qQ hS rfl rfl rfl (.inr rfl) (vB rfl (kd 9 kR rfl (ae (aQ h1))) (kf Tryz.call66 rfl (nH _ _ (show r.den.size<=_ by omega)) ?_)))))))));rintro _ wq5 ⟨rfl,hq5⟩;replace hq5:=hq5.symm;subst hq5;refine⟨Below.refl _ _,?_⟩;refine kL rfl (kd 9 kR rfl (ae (by exact aQ h1))) (rR rfl rfl (jl rfl (kH (vb rfl (ae (by exact aQ h1))) rfl ?_)));refine ja ?_;refine lH rfl (ae (aQ h2)) ?_;refine J2 ?_;refine jp (qk rfl rfl ?_);refine ja ?_;by_cases h3:r.num=⟨#[]⟩
   ·refine lu rfl (ai h3) ?_;refine ja ?_;by_cases h4:r.neg=false
    ·refine J4 ?_;refine ko (kd 23 kR rfl (by show(!r.neg)=true;rw[h4];rfl)) (lD rfl ol (lA (kd 23 kR rfl (by show(!r.neg)=true;rw[h4];rfl)) (kP (k:=0) rfl qQ hS rfl rfl rfl (.inr rfl) (ko (kd 23 kR rfl (by show(!r.neg)=true;rw[h4];rfl)) (qk rfl rfl (jp (kH (vb rfl (by show(!r.neg)=true;rw[h4];rfl)) rfl ?_)))))));refine J1 ?_;refine jt ?_;refine kJ rfl rfl ?_;refine⟨bB Value.bool ?_,hS.kb⟩;rw[dJ,hV];exact⟨λh=>⟨h1,h2,λ_=>⟨h4,h⟩,λh=>absurd h3 h⟩,λh=>(h.2.2.1 h3).2⟩
    ·refine J4 ?_;refine kS (kg 23 kR rfl (by show(!r.neg)=false;rw[fa]at h4;rw[h4];rfl)) (kS (kg 23 kR rfl (by show(!r.neg)=false;rw[fa]at h4;rw[h4];rfl)) (kS (kg 23 kR rfl (by show(!r.neg)=false;rw[fa]at h4;rw[h4];rfl)) (jp (kH (vb rfl (by show(!r.neg)=false;rw[fa]at h4;rw[h4];rfl)) rfl ?_))));refine J1 ?_;refine jt ?_;refine kJ rfl rfl ?_;refine⟨bB Value.bool ?_,hS.kb⟩;symm;rw[dh,hV]
     exact λh=>h4 (h.2.2.1 h3).1
   ·refine lH rfl (ae h3) ?_;refine ja ?_;by_cases h4:r.den=⟨#[]⟩
    ·refine J2 ?_;refine jp (qk rfl rfl ?_);refine J1 ?_;refine kS (kg 31 kR rfl (ai h4)) (kS (kg 31 kR rfl (ai h4)) (kS (kg 31 kR rfl (ai h4)) (kS (kg 31 kR rfl (ai h4)) (kS (qf 35 kR rfl) (kS (qf 35 kR rfl) (kS (qf 35 kR rfl) (kS (qf 35 kR rfl) (kS (qf 35 kR rfl) (kS (qf 35 kR rfl) (kS (kg 31 kR rfl (ai h4)) (jp (kH (vb rfl (ai h4)) rfl ?_))))))))))));refine J1 ?_;refine jt ?_;refine kJ rfl rfl ?_;refine⟨bB Value.bool ?_,hS.kb⟩;symm;rw[fo,hV]
     exact⟨h1,h2,λh=>absurd h h3,λ_=> .inl h4⟩
    ·by_cases h5:r.den=⟨#[1]⟩
     ·refine J2 ?_;refine jp (qk rfl rfl ?_);refine J1 ?_;refine ko (kd 31 kR rfl (ae h4)) (lD rfl ol (lA (kd 31 kR rfl (ae h4)) (kP (k:=0) rfl qQ hS rfl rfl rfl (.inr rfl) (ko (kd 31 kR rfl (ae h4)) (rR rfl rfl (ko (kd 31 kR rfl (ae h4)) (kw rfl (kS (kg 35 kR rfl (ae (aQ h5))) (kS (kg 35 kR rfl (ae (aQ h5))) (kS (kg 35 kR rfl (ae (aQ h5))) (kS (kg 35 kR rfl (ae (aQ h5))) (kS (kg 35 kR rfl (ae (aQ h5))) (kS (kg 35 kR rfl (ae (aQ h5))) (ko (kd 31 kR rfl (ae h4)) (kH (vb rfl (ae (aQ h5))) rfl (jp (kH (vb rfl (ae h4)) rfl ?_)))))))))))))))));refine J1 ?_;refine jt ?_;refine kJ rfl rfl ?_;refine⟨bB Value.bool ?_,hS.kb⟩;symm;rw[dh,hV]
      exact λh=>(h.2.2.2 h3).elim h4 (λg=>g.1 h5)
     ·refine J2 ?_;refine jp (qk rfl rfl ?_);refine J1 ?_;refine ko (kd 31 kR rfl (ae h4)) (lD rfl ol (lA (kd 31 kR rfl (ae h4)) (kP (k:=0) rfl qQ hS rfl rfl rfl (.inr rfl) (ko (kd 31 kR rfl (ae h4)) (rR rfl rfl (ko (kd 31 kR rfl (ae h4)) (kw rfl (ko (kd 35 kR rfl (ai h5)) (lD rfl zY (lA (kd 35 kR rfl (ai h5)) (kP (k:=0) rfl qQ hS rfl rfl rfl (.inr rfl) (ko (kd 35 kR rfl (ai h5)) (lD rfl ol (lA (kd 35 kR rfl (ai h5)) (kP (k:=0) rfl qQ hS rfl rfl rfl (.inr rfl) (oZ (kd 35 kR rfl (ai h5)) (kf Tryz.call67 rfl (N7 _ _ _ (show r.num.size<=_ by omega) (show r.den.size<=_ by omega)) ?_)))))))))))))))));rintro _ wc6 ⟨rfl,hBc6⟩;replace hS:=hS.kx hBc6;refine ko (kd 35 kR rfl (ai h5)) (qk rfl rfl (ko (kd 31 kR rfl (ae h4)) (kH (vb rfl (ai h5)) rfl (jp (kH (vb rfl (ae h4)) rfl ?_)))));refine J1 ?_;refine jt ?_;refine kJ rfl rfl ?_;refine⟨bB Value.bool ?_,hS.kb⟩;rw[dJ,hV,AN];exact⟨λh=>⟨h1,h2,λh=>absurd h h3,λ_=> .inr ⟨h5,h⟩⟩,λh=>(h.2.2.2 h3).elim (λg=>absurd g h4) (λg=>g.2)⟩
  ·refine ja ?_;refine kK [jo 0,ju 1,jo 3,ju 4,jv 2,jo 5,jo 6,jo 7,ju 8,jo 10,ju 11,jv 9,jo 12,jo 13] kR kR hS ?_;intro wz7 hS hBz7;refine J4 ?_;refine jn rfl (kf Tryz.call66 rfl (nH _ _ (show r.num.size<=_ by omega)) ?_);rintro _ wq8 ⟨rfl,hq8⟩;replace hq8:=hq8.symm;subst hq8;refine⟨Below.refl _ _,?_⟩;refine jl rfl (rR rfl rfl ?_);refine J1 ?_;refine kL rfl (kd 9 kR rfl (ae (by exact aQ h1))) (lD rfl ol (mC rfl (kd 9 kR rfl (ae (by exact aQ h1))) (kP (k:=0) rfl qQ hS rfl rfl rfl (.inr rfl) (kL rfl (kd 9 kR rfl (ae (by exact aQ h1))) (lD rfl ol (mC rfl (kd 9 kR rfl (ae (by exact aQ h1))) (kP (k:=0) rfl qQ hS rfl rfl rfl (.inr rfl) (vB rfl (kd 9 kR rfl (ae (aQ h1))) (kf Tryz.call66 rfl (nH _ _ (show r.den.size<=_ by omega)) ?_)))))))));rintro _ wq9 ⟨rfl,hq9⟩;replace hq9:=hq9.symm;subst hq9;refine⟨Below.refl _ _,?_⟩;refine kL rfl (kd 9 kR rfl (ae (by exact aQ h1))) (rR rfl rfl (jl rfl (kH (vb rfl (ae (by exact aQ h1))) rfl ?_)));refine ja ?_;refine lu rfl (ai h2) ?_;refine J1 ?_;refine jt ?_;refine kJ rfl rfl ?_;refine⟨bB Value.bool ?_,hS.kb⟩;symm;rw[dh,hV]
   exact λh=>h2 h.2.1
 ·refine ja ?_;refine kK [jo 0,ju 1,jo 3,ju 4,jv 2,jo 5,jo 6,jo 7,ju 8,jo 10,ju 11,jv 9,jo 12,jo 13] kR kR hS ?_;intro wz10 hS hBz10;refine J4 ?_;refine jn rfl (kf Tryz.call66 rfl (nH _ _ (show r.num.size<=_ by omega)) ?_);rintro _ wq11 ⟨rfl,hq11⟩;replace hq11:=hq11.symm;subst hq11;refine⟨Below.refl _ _,?_⟩;refine jl rfl (rR rfl rfl ?_);refine J1 ?_;refine nh rfl (kg 9 kR rfl (ai h1)) (nh rfl (kg 9 kR rfl (ai h1)) (nh rfl (kg 9 kR rfl (ai h1)) (nh rfl (kg 9 kR rfl (ai h1)) (nh rfl (kg 9 kR rfl (ai h1)) (nh rfl (kg 9 kR rfl (ai h1)) (jl rfl (kH (vb rfl (ai h1)) rfl ?_)))))));refine ja ?_;refine lu rfl (rfl) ?_;refine J1 ?_;refine jt ?_;refine kJ rfl rfl ?_;refine⟨bB Value.bool ?_,hS.kb⟩;symm;rw[dh,hV]
  exact λh=>h1 h.1
theorem om (r:RR) (w:World) (hr:Lr r<=MX):
  mb Tryz.prog 28 #[lC r] w λv w'=>v=lC (fx r)/\Below w.heap.size w w':=by
 have hS:=St.init w;refine enter Tryz.func28 rfl Tryz.ntmps28 rfl ?_;refine jr ?_;refine jh (lx (new:=ke r) rfl rfl hS ?_);intro b1 wz2 hS hBz2;refine J1 ?_;intro b3 wz4 hS hBz4;refine J1 ?_;refine jh (kf Tryz.call65 rfl (Iw r _ hr) ?_);rintro _ wc5 ⟨rfl,hBc5⟩;replace hS:=hS.kx hBc5;refine V1 ?_;by_cases h:IN r
 ·refine lH rfl (by rw[ai h];rfl) ?_;refine J2 ?_;intro wz6 hS;refine jt ?_;refine mA (k:=0) rfl rfl kt hS rfl rfl ?_;rw[Qq h];exact⟨rfl,hS.kb⟩
 ·refine lu rfl (by rw[ae h];rfl) ?_;refine jr ?_;refine jp (lr rfl pM ?_);refine J1 ?_;intro wz7 hS;refine jt ?_;refine mA (k:=0) rfl rfl kt hS rfl rfl ?_;rw[QD h];exact⟨rfl,hS.kb⟩
theorem R3 (q:Rat):(ki q).den=if q.den=1 then⟨#[]⟩else kQ q.den:=rfl
theorem Tw (q:Rat):(if(ki q).den=⟨#[]⟩then(⟨#[1]⟩:ByteArray)else(ki q).den)=kQ q.den:=by
 rw[R3];by_cases h:q.den=1
 ·simp only[h,g9];exact xg.symm
 ·have h1:kQ q.den≠⟨#[]⟩:=λh0=>q.den_nz (oA.1 h0);simp only[h,jN,h1]
theorem t7 (q:Rat) (w:World):
  mb Tryz.prog 31 #[lC (ki q)] w λv w'=>v= .string (kQ q.den)/\Below w.heap.size w w':=by
 have hS:=St.init w;have hq:=Tw q;refine enter Tryz.func31 rfl Tryz.ntmps31 rfl ?_;refine jr ?_;refine jh (lx (new:=ke (ki q)) rfl rfl hS ?_);intro b1 wz2 hS hBz2;refine J3 ?_;refine jp (qk rfl rfl ?_);refine ja ?_;by_cases h:(ki q).den=⟨#[]⟩
 ·refine lu rfl (ai h) ?_;refine J1 ?_;refine jt ?_;refine kJ rfl rfl ?_;rw[aj h]at hq;exact⟨bB Value.string hq,hS.kb⟩
 ·refine lH rfl (ae h) ?_;refine J3 ?_;refine jt ?_;refine kJ rfl rfl ?_;rw[ah h]at hq;exact⟨bB Value.string hq,hS.kb⟩
theorem WS {n m k:Nat} (h:m<=n) (hk:(kQ n).size<=k):(kQ m).size<=k:=cQ (me h) hk
theorem MO (b:Bool) (s d:ByteArray):Tryz.prog.built 32 [(0,.bool b),(1,.string s),(2,.string d)]=some #[.bool b,.string s,.string d]:=by kernel_rfl
theorem sF (b:Bool) (num den:ByteArray) (w:World) (hn:num.size<=2*MX) (hd:den.size<=2*MX) (h0:val den≠0):
  mb Tryz.prog 29 #[.bool b,.string num,.string den] w λv w'=>v=lC (ki (mkRat (sg b (val num)) (val den)))/\Below w.heap.size w w':=by
 have hM:MX=1099511627776:=rfl;have h1:=Xr num hn;have h2:=Xr den hd;have hS:=St.init w;refine enter Tryz.func29 rfl Tryz.ntmps29 rfl ?_;refine J1 ?_;intro b1 wz2 hS hBz2;refine J1 ?_;refine jh (kf Tryz.call66 rfl (nH _ _ (show num.size<=_ by omega)) ?_);rintro _ wq3 ⟨rfl,hq3⟩;replace hq3:=hq3.symm;subst hq3;refine J1 ?_;refine jh (kf Tryz.call66 rfl (nH _ _ (show den.size<=_ by omega)) ?_);rintro _ wq4 ⟨rfl,hq4⟩;replace hq4:=hq4.symm;subst hq4;refine V2 ?_;obtain⟨n,hnn⟩:=jz (val num);obtain⟨d,hdd⟩:=jz (val den);rw[<-hnn,<-hdd];rw[<-hnn]at h1;rw[<-hdd]at h0 h2;refine J1 ?_;refine jp (qk rfl rfl ?_);refine ja ?_;by_cases hz:n=0
 ·refine lu rfl (ai (oA.2 hz)) ?_;refine jr ?_;refine jp (lr rfl pM ?_);refine J1 ?_;intro wz5 hS;refine jt ?_;refine mA (k:=0) rfl rfl kt hS rfl rfl ?_;refine⟨?_,hS.kb⟩;have:mkRat (sg b 0) d=0:=by cases b<;>simp[sg]
  rw[hz,this,oD];rfl
 ·refine lH rfl (ae (λh=>hz (oA.1 h))) ?_;refine J1 ?_;refine jp (rR rfl rfl ?_);refine ja ?_;refine kG (λρ w'=>∃n' d':Nat,0<n'/\d'≠0/\Nat.gcd n' d'=1/\mkRat (sg b n) d=mkRat (sg b n') d'/\ρ 0= .bool b/\ρ 1= .string (kQ n')/\ρ 2= .string (kQ d')/\ρ 6=pB b1/\St w w' [(b1,32,ke ⟨false,⟨#[]⟩,⟨#[]⟩⟩)]) ?_ ?_
  ·refine ja ?_;by_cases hd1:d=1
   ·refine lH rfl (ae (aQ (Ax hd1))) ?_;refine ja ?_;exact⟨_,rfl,n,d,oO,h0,by rw[hd1];exact jR _,rfl,rfl,rfl,rfl,rfl,hS⟩
   ·refine lu rfl (ai (λh=>hd1 (AN.1 h))) ?_;refine J2 ?_;refine jh (kf Tryz.call67 rfl (SQ _ _ _ (show(kQ n).size<=_ by omega) (show(kQ d).size<=_ by omega)) ?_);rintro _ wc6 ⟨rfl,hBc6⟩;replace hS:=hS.kx hBc6;refine J2 ?_;refine jp (rR rfl rfl ?_);refine ja ?_;have hgp:0<Nat.gcd n d:=iE _ oO;by_cases hg:Nat.gcd n d=1
    ·refine lH rfl (ae (aQ (Ax hg))) ?_;refine ja ?_;exact⟨_,rfl,n,d,oO,h0,hg,rfl,rfl,rfl,rfl,rfl,hS⟩
    ·refine lu rfl (ai (λh=>hg (AN.1 h))) ?_;refine ja ?_;have hgn:Nat.gcd n d<=n:=j6 _ oO;have hgs:=WS hgn h1;have hnp:0<n/Nat.gcd n d:=iy hgn hgp;have hdp:0<d/Nat.gcd n d:=iy (Nat.gcd_le_right _ oO) hgp;refine J2 ?_;refine jh (kf Tryz.call68 rfl (HT n (Nat.gcd n d) _ (show(kQ n).size<=_ by omega) (show(kQ (Nat.gcd n d)).size<=_ by omega) oO) ?_);rintro _ wc7 ⟨rfl,hBc7⟩;replace hS:=hS.kx hBc7;refine J7 ?_;refine jh (kf Tryz.call68 rfl (HT d (Nat.gcd n d) _ (show(kQ d).size<=_ by omega) (show(kQ (Nat.gcd n d)).size<=_ by omega) oO) ?_);rintro _ wc8 ⟨rfl,hBc8⟩;replace hS:=hS.kx hBc8;refine V5 ?_;exact⟨_,rfl,n/Nat.gcd n d,d/Nat.gcd n d,hnp,oO,(by rw[Nat.gcd_div (iK _ _) (fB _ _),Nat.div_self hgp]),EP h0 rfl,rfl,rfl,rfl,rfl,hS⟩
  clear hS;rintro ρ w' ⟨n',d',hn',hd',hc,he,g0,g1,g2,g6,hS⟩;rw[he,C4 hn' hd' hc];refine jr ?_;refine jp (kw g2 (jp (qk rfl rfl ?_)));refine ja ?_;refine kG (λρ w'=>ρ 0= .bool b/\ρ 1= .string (kQ n')/\ρ 2= .string (if d'=1 then⟨#[]⟩else kQ d')/\ρ 6=pB b1/\St w w' [(b1,32,ke ⟨false,⟨#[]⟩,⟨#[]⟩⟩)]) ?_ ?_
  ·refine ja ?_;by_cases hd1:d'=1
   ·refine lu rfl (ai (Ax hd1)) ?_;refine V1 ?_;exact⟨_,rfl,g0,g1,bB Value.string (by rw[aj hd1]),g6,hS⟩
   ·refine lH rfl (ae (λh=>hd1 (AN.1 h))) ?_;refine ja ?_;exact⟨_,rfl,g0,g1,g2.trans (bB Value.string (by rw[ah hd1])),g6,hS⟩
  clear hS g0 g1 g2 g6;rintro ρ w' ⟨g0,g1,g2,g6,hS⟩;refine jr ?_;refine jp (kw g0 (jp (kw g1 (jp (kw g2 (jp (lr rfl (MO _ _ _) (jh (lX (k:=0) g6 rfl kt hS rfl rfl rfl dM rfl ?_)))))))));intro wz9 hS;refine jt ?_;refine mA (k:=0) rfl g6 kt hS rfl rfl ?_;exact⟨rfl,hS.kb⟩
theorem R7 {p q:Rat} (h:qW p=qW q):(if decide (p.num<0)=true then-sV (p.num.natAbs*q.den) (q.num.natAbs*p.den)else sV (p.num.natAbs*q.den) (q.num.natAbs*p.den))=tk p q:=by
 have hp:=C3 p;have hq:=C3 q;have l1:=Rat.lt_iff p q;have l2:=Rat.lt_iff q p;unfold qW at h;rw[<-hp,<-hq]at l1 l2;have e1:((p.num.natAbs*q.den:Nat):Int)=(p.num.natAbs:Int)*q.den:=by push_cast;rfl
 have e2:((q.num.natAbs*p.den:Nat):Int)=(q.num.natAbs:Int)*p.den:=by push_cast;rfl
 by_cases h1:p.num<0
 ·have h2:q.num<0:=by
   rw[ah oO,aj h1]at h;by_cases g:q.num<0
   ·exact g
   ·exfalso;split at h<;>(try rw[ah g]at h)<;>omega
  rw[aj (by simpa using h1)];simp only[ai h1,ai h2,sg,g9,j2,<-e1,<-e2]at l1 l2;unfold sV tk;split
  ·rw[ah (by rw[l1];omega),aj (by rw[l2];omega)];rfl
  ·split
   ·rw[aj (by rw[l1];omega)]
   ·rw[ah (by rw[l1];omega),ah (by rw[l2];omega)];rfl
 ·have h2:¬q.num<0:=by
   intro g;rw[ah (show¬q.num=0 by omega),aj g]at h;split at h<;>(try rw[ah h1]at h)<;>omega
  rw[ah (by simpa using h1)];simp only[ae h1,ae h2,sg,<-e1,<-e2,jL,jN]at l1 l2;unfold sV tk;split
  ·rw[aj (by rw[l1];omega)]
  ·split
   ·rw[ah (by rw[l1];omega),aj (by rw[l2];omega)]
   ·rw[ah (by rw[l1];omega),ah (by rw[l2];omega)]
theorem QZ {p q:Rat} (h:qW p≠qW q):tk p q=if qW p<qW q then-1 else 1:=by
 have a1:=xd (q:=p);have a2:=ve (q:=p);have a3:=nX (q:=p);have b1:=xd (q:=q);have b2:=ve (q:=q);have b3:=nX (q:=q);rcases Dx p with e|e|e<;>rcases Dx q with f|f|f<;>rw[e,f]at h⊢<;>rw[e]at a1 a2 a3<;>rw[f]at b1 b2 b3<;>simp at h a1 a2 a3 b1 b2 b3⊢<;>first|(refine Le ?_;grind)|(refine Me ?_;grind)
theorem AQ (q:Rat) (w:World):
  mb Tryz.prog 89 #[lC (ki q)] w λv w'=>v= .int .i64 (qW q)/\Below w.heap.size w w':=by
 have hS:=St.init w;refine enter Tryz.func89 rfl Tryz.ntmps89 rfl ?_;refine jr ?_;refine jh (lx (new:=ke (ki q)) rfl rfl hS ?_);intro b1 wz2 hS hBz2;refine J3 ?_;refine jp (qk rfl rfl ?_);refine V1 ?_;by_cases h:q=0
 ·refine lu rfl (ai (qo.2 h)) ?_;refine J1 ?_;refine jt ?_;refine kJ rfl rfl ?_;exact⟨vi rfl (ve.2 h).symm,hS.kb⟩
 ·refine lH rfl (ae (λg=>h (qo.1 g))) ?_;refine V3 ?_;have hn:q.num≠0:=λg=>h (fy.1 g);by_cases h2:q.num<0
  ·refine lu rfl (ai h2) ?_;refine J1 ?_;refine jt ?_;refine kJ rfl rfl ?_;exact⟨vi rfl (by unfold qW;rw[ah hn,aj h2]),hS.kb⟩
  ·refine lH rfl (ae h2) ?_;refine J1 ?_;refine jt ?_;refine kJ rfl rfl ?_;exact⟨vi rfl (by unfold qW;rw[ah hn,ah h2]),hS.kb⟩
theorem sP (r:RR) (w:World) (hr:Lr r<=MX):
  mb Tryz.prog 80 #[lC r] w λv w'=>v= .int .i64 (qW (toQ r))/\Below w.heap.size w w':=by
 have hS:=St.init w;refine enter Tryz.func80 rfl Tryz.ntmps80 rfl ?_;refine jr ?_;refine jh (lx (new:=ke r) rfl rfl hS ?_);intro b1 wz2 hS hBz2;refine J2 ?_;refine jh (kf Tryz.call28 rfl (om r _ hr) ?_);rintro _ wc3 ⟨rfl,hBc3⟩;replace hS:=hS.kx hBc3;refine jh (kf Tryz.call89 rfl (AQ (toQ r) _) ?_);rintro _ wc4 ⟨rfl,hBc4⟩;replace hS:=hS.kx hBc4;refine J1 ?_;refine jt ?_;refine kJ rfl rfl ?_;exact⟨rfl,hS.kb⟩
theorem JQ (q:Rat):(⟨!decide (q.num<0)&&decide ((ki q).num≠⟨#[]⟩),(ki q).num,(ki q).den⟩:RR)=ki (-q):=by
 have h1:(ki (-q)).num=(ki q).num:=by show kQ (-q).num.natAbs=kQ q.num.natAbs;rw[Rat.neg_num,Int.natAbs_neg]
 have h2:(ki (-q)).den=(ki q).den:=by show(if(-q).den=1 then _ else kQ (-q).den)=_;rw[Rat.neg_den];rfl
 have h3:(ki (-q)).neg=decide ((-q).num<0):=rfl;have h4:(!decide (q.num<0)&&decide ((ki q).num≠⟨#[]⟩))=decide ((-q).num<0):=by
  have:(ki q).num=⟨#[]⟩↔q.num=0:=by rw[qo,fy]
  rw[Rat.neg_num,gj];simp only[bf,fR,dh,fQ,ne_eq,this];omega
 rw[h4,<-h1,<-h2,<-h3]
theorem ES (q:Rat) (w:World):
  mb Tryz.prog 37 #[lC (ki q)] w λv w'=>v=lC (ki (-q))/\Below w.heap.size w w':=by
 have hS:=St.init w;have he:=JQ q;refine enter Tryz.func37 rfl Tryz.ntmps37 rfl ?_;refine jr ?_;refine jh (lx (new:=ke (ki q)) rfl rfl hS ?_);intro b1 wz2 hS hBz2;refine J1 ?_;intro b3 wz4 hS hBz4;refine ja ?_;by_cases h:q.num<0
 ·refine J4 ?_;refine kS (kg 6 kR rfl (by show(!decide (q.num<0))=false;rw[ai h];rfl)) (kS (kg 6 kR rfl (by show(!decide (q.num<0))=false;rw[ai h];rfl)) (kS (kg 6 kR rfl (by show(!decide (q.num<0))=false;rw[ai h];rfl)) (jp (kH (vb rfl (by show(!decide (q.num<0))=false;rw[ai h];rfl)) rfl ?_))));refine J1 ?_;refine jh (oX (k:=1) rfl rfl qB hS rfl dM rfl ?_);intro wz5 hS;refine J2 ?_;intro wz6 hS;refine jt ?_;refine mA (k:=0) rfl rfl kt hS rfl rfl ?_;rw[<-he,ai h];exact⟨rfl,hS.kb⟩
 ·refine J4 ?_;refine ko (kd 6 kR rfl (by show(!decide (q.num<0))=true;rw[ae h];rfl)) (lD rfl zY (lA (kd 6 kR rfl (by show(!decide (q.num<0))=true;rw[ae h];rfl)) (kP (k:=1) rfl qQ hS rfl rfl rfl (.inr rfl) (ko (kd 6 kR rfl (by show(!decide (q.num<0))=true;rw[ae h];rfl)) (rR rfl rfl (jp (kH (vb rfl (by show(!decide (q.num<0))=true;rw[ae h];rfl)) rfl ?_)))))));refine J1 ?_;refine jh (oX (k:=1) rfl rfl qB hS rfl dM rfl ?_);intro wz7 hS;refine J2 ?_;intro wz8 hS;refine jt ?_;refine mA (k:=0) rfl rfl kt hS rfl rfl ?_;rw[<-he,ae h];exact⟨rfl,hS.kb⟩
end Go.Proofs.YtoeiejliehgopaaGreatDoor
