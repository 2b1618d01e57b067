import Derived.Test.YtoeiejliehgopaaGreatDoorUd5
set_option maxRecDepth 20000
set_option maxHeartbeats 8000000
namespace Go.Proofs.YtoeiejliehgopaaGreatDoor
open Go Go.RowKit Go.Sx
structure Rs where
 c:Nat->Rat
 r:Rat
def C1 (s:Rs) (p:Pa):Rs:=if p.c= -1 then⟨s.c,s.r+p.q⟩else⟨λk=>if(k:Int)=p.c then s.c k+p.q else s.c k,s.r⟩
def qN (s:Rs) (l:List Pa):Rs:=l.foldl C1 s
def Bi (l:List Pa):Nat:=(l.map λp=>L p.q+1).sum
theorem xi (p:Pa) (l:List Pa):Bi (p::l)=L p.q+1+Bi l:=by unfold Bi;rw[df,iC]
theorem Cg (l m:List Pa):Bi (l++m)=Bi l+Bi m:=by unfold Bi;rw[bO,iS]
def A5 (n B:Nat) (s:Rs) (l:List Pa):Prop:=(∀k,k<n->L (s.c k)+Bi l<=B)/\L s.r+Bi l<=B
theorem A5.step {n B:Nat} {s:Rs} {p:Pa} {l:List Pa} (h:A5 n B s (p::l)):A5 n B (C1 s p) l:=by
 obtain⟨h1,h2⟩:=h;rw[xi]at h2;unfold C1;split
 ·refine⟨λk hk=> ?_,?_⟩
  ·have:=h1 k hk;rw[xi]at this;show L (s.c k)+Bi l<=B;omega
  ·have:=Bc s.r p.q;show L (s.r+p.q)+Bi l<=B;omega
 ·refine⟨λk hk=> ?_,by show L s.r+Bi l<=B;omega⟩;have g:=h1 k hk;rw[xi]at g;show L (if(k:Int)=p.c then s.c k+p.q else s.c k)+Bi l<=B;have:=Bc (s.c k) p.q;split<;>omega
theorem A5.part {n B:Nat} {s:Rs} {l m:List Pa} (h:A5 n B s (l++m)):A5 n B s l:=by
 unfold A5 at h⊢;rw[Cg]at h;exact⟨λk hk=>by have:=h.1 k hk;omega,by have:=h.2;omega⟩
def yP (n:Nat) (p:Pa):Prop:=p.c= -1\/(0<=p.c/\p.c<n)
def mW (br:Nat) (vc:Value) (r:Rat):kV:=(br,167,vc::j6 (j9 r))
theorem Lj (br n:Nat) (vc:Value) (s:Rs) (p:Pa) (H LC:List kV) (w0 w:World) (hG:Gl j6 32 3 vc (ku n λk=>j9 (s.c k)) LC) (hS:St w0 w ((mW br vc s.r::H)++LC)) (hp:yP n p) (hL:A5 n MX s [p]):
  lW Tryz.prog 131 #[.pointer (some ⟨br,0,none⟩),.int .i64 p.c,lu (j9 p.q)] w λv w'=>v= .tuple #[]/\∃LC',Gl j6 32 3 vc (ku n λk=>j9 ((C1 s p).c k)) LC'/\St w0 w' ((mW br vc (C1 s p).r::H)++LC'):=by
 have htl:=ka n λk=>j9 (s.c k);obtain⟨hL1,hL2⟩:=hL;rw[show Bi [p]=L p.q+1 from rfl]at hL1 hL2;refine enter Tryz.func131 rfl Tryz.ntmps131 rfl ?_;refine jr ?_;refine jh (lj (new:=j6 (j9 p.q)) rfl rfl hS ?_);intro b5 wz1 hS hBz1;refine ja ?_;replace hS:St w0 _ (([(b5,32,j6 (j9 p.q)),(br,167,vc::j6 (j9 s.r))]++H)++LC):=hS;refine V2 ?_;by_cases hc:p.c= -1
 ·have e:C1 s p=⟨s.c,s.r+p.q⟩:=aj hc;rw[e];refine k9 rfl (ak hc) ?_;refine ja ?_;refine kE [jo 0,jo 1,jo 2,jo 3,ju 4,ju 5,jv 6,jo 7,jo 8,jw 9] kR kR hS ?_;intro wz2 hS hBz2;refine J2 ?_;refine jl rfl (mN rfl ?_);refine J3 ?_;refine jn rfl (j7 Tryz.call18 rfl (oo (j9 s.r) (j9 p.q) _ (by rw[Lr_ofQ,Lr_ofQ];omega)) ?_);rintro r w3 ⟨rfl,hB3⟩;refine⟨hB3,?_⟩;rw[toQ_ofQ,toQ_ofQ];replace hS:=hS.ko hB3;refine jl rfl (mN rfl ?_);refine J2 ?_;intro wz3 hS;refine ja ?_;replace hS:St w0 _ ((b5,32,j6 (j9 p.q))::((mW br vc (s.r+p.q)::H)++LC)):=hS;refine jt ?_;exact FH rfl ⟨rfl,LC,hG,hS.drop (ab _ _)⟩
 ·refine lx rfl (ae hc) ?_;refine ja ?_;have hp2:0<=p.c/\p.c<n:=hp.resolve_left hc;obtain⟨k,hk⟩:=Int.eq_ofNat_of_zero_le hp2.1;have hkn:k<n:=oO;have hgk:(ku n λk=>j9 (s.c k)).getD k kP=j9 (s.c k):=kw _ _ hkn;have hLk:=hL1 k hkn;have e:C1 s p=⟨λk=>if(k:Int)=p.c then s.c k+p.q else s.c k,s.r⟩:=ah hc;rw[e];refine ja ?_;refine kE [jo 0,jo 1,jo 2,ju 3,jo 4,jo 5,jo 6,jo 7,ju 8,jo 9,jo 10,ju 11,ju 12,jv 13,jo 14,jw 15] kR kR hS ?_;intro wz4 hS hBz4;refine J1 ?_;refine jl rfl (mN rfl ?_);refine J4 ?_;refine jl rfl (mN rfl ?_);refine J3 ?_;refine jl rfl (kp (i:=k) rfl rfl (hG.sl hS kt) oO dO kM (jm rfl (ky (i:=k) kP rfl ki (hG.sl hS kt) dO rfl rfl (.inl rfl) ?_)));refine J1 ?_;refine jn rfl (j7 Tryz.call18 rfl (oo ((ku n λk=>j9 (s.c k)).getD k kP) (j9 p.q) _ (by rw[hgk,Lr_ofQ,Lr_ofQ];omega)) ?_);rintro r w3 ⟨rfl,hB3⟩;refine⟨hB3,?_⟩;rw[hgk,toQ_ofQ,toQ_ofQ];replace hS:=hS.ko hB3;refine jl rfl (kp (i:=k) rfl rfl (hG.sl hS kt) oO dO kM (jx rfl (tX (i:=k) (j9 (s.c k+p.q)) kt rfl rfl ki hG hS oO rfl rfl ?_)));intro wz5 hS;refine ja ?_;obtain⟨LC2,hG,hS⟩:=hS;rw[nx,kB (g:=λj=>j9 (if(j:Int)=p.c then s.c j+p.q else s.c j)) λj _=>by
   by_cases g:j=k
   ·rw[aj g,aj oO,g]
   ·rw[ah g,ah oO]]at hG
  replace hS:St w0 _ ((b5,32,j6 (j9 p.q))::((mW br vc s.r::H)++LC2)):=hS;exact qf rfl ⟨rfl,LC2,hG,hS.drop (ab _ _)⟩
def FZ (t:Tr) (a:Rat):List Pa:=t.ps.map λp=>⟨p.c,p.q*(a/t.sm)⟩
theorem getD_map {α β:Type} (f:α->β) (l:List α) (d:α) (d':β) {i:Nat} (h:i<l.length):(l.map f).getD i d'=f (l.getD i d):=by
 rw[nz _ d' (by rw[aO];exact h),en,nz l d h]
theorem drop_cons {α:Type} (l:List α) (d:α) {i:Nat} (h:i<l.length):l.drop i=l.getD i d::l.drop (i+1):=by
 rw[dJ h,nz l d h]
theorem A5.head {n B:Nat} {s:Rs} {p:Pa} {l:List Pa} (h:A5 n B s (p::l)):A5 n B s [p]:=A5.part (l:=[p]) (m:=l) h
theorem VG {α:Type} (x y z:α) (H:List α):([x,y,z]++H).Perm (z::x::y::H):=(List.Perm.cons x (List.Perm.swap z y H)).trans (List.Perm.swap z x (y::H))
theorem Ef (br n:Nat) (vc vp:Value) (s:Rs) (t:Tr) (a:Rat) (H LC:List kV) (w0 w:World) (hG:Gl j6 32 3 vc (ku n λk=>j9 (s.c k)) LC) (hS:St w0 w ((mW br vc s.r::H)++LC)) (hP:∀wx A B,St w0 wx ((A++H)++B)->Sl pq 4 wx vp t.ps) (hp:∀p∈t.ps,yP n p)
  (ht:t.sm≠0) (hL:A5 n MX s (FZ t a)) (hLa:L a+L t.sm<=MX) (hLp:∀p∈t.ps,L p.q+L (a/t.sm)<=MX):
  lW Tryz.prog 132 #[.pointer (some ⟨br,0,none⟩),zj t vp,lu (j9 a)] w λv w'=>v= .tuple #[]/\∃LC',Gl j6 32 3 vc (ku n λk=>j9 ((qN s (FZ t a)).c k)) LC'/\St w0 w' ((mW br vc (qN s (FZ t a)).r::H)++LC'):=by
 obtain⟨q,hq⟩:=jz (a/t.sm);have hsh:FZ t a=t.ps.map λp=>⟨p.c,p.q*q⟩:=by rw[hq];rfl
 rw[<-hq]at hLp;have hPs:=hP w [mW br vc s.r] LC hS;have hmx:=hPs.maxLen;obtain⟨pa,pc,rfl,_⟩:=hPs.form;have hal:(FZ t a).length=t.ps.length:=aO _;refine enter Tryz.func132 rfl Tryz.ntmps132 rfl ?_;refine jr ?_;refine jh (lj (new:=nh (t,.slice pa t.ps.length pc)) rfl rfl hS ?_);intro b4 wz1 hS hBz1;refine jh (lj (new:=j6 (j9 a)) rfl rfl hS ?_);intro b5 wz2 hS hBz2;refine J3 ?_;refine jh (j7 Tryz.call108 rfl (wh (j9 a) (j9 t.sm) _ (by rw[Lr_ofQ,Lr_ofQ];exact hLa) (by rw[toQ_ofQ];exact ht)) ?_);rintro r w3 ⟨rfl,hB3⟩;rw[toQ_ofQ,toQ_ofQ,<-hq];replace hS:=hS.ko hB3;refine J4 ?_;intro b6 wz3 hS hBz3;refine J1 ?_;intro wz4 hS;refine V1 ?_;replace hS:St w0 _ (([(b6,32,j6 (j9 q)),(b5,32,j6 (j9 a)),(b4,157,nh (t,.slice pa t.ps.length pc)),mW br vc s.r]++H)++LC):=hS;refine J2 ?_;refine jp (kj rfl (hP _ [(b6,32,j6 (j9 q)),(b5,32,j6 (j9 a)),(b4,157,nh (t,.slice pa t.ps.length pc)),mW br vc s.r] LC hS) ⟨_,Tryz.underlying155⟩ ?_);refine V1 ?_;refine kx (σ:=Nat) (λi ρ w'=>i<=t.ps.length/\ρ 0=pB br/\ρ 6=pB b6/\ρ 18= .slice pa t.ps.length pc/\ρ 19=iB t.ps.length/\ρ 20=iB i/\∃s' LC,A5 n MX s' ((FZ t a).drop i)/\qN s' ((FZ t a).drop i)=qN s (FZ t a)/\Gl j6 32 3 vc (ku n λk=>j9 (s'.c k)) LC/\
   St w0 w' (([(b6,32,j6 (j9 q)),mW br vc s'.r]++H)++LC)) (λi=>t.ps.length-i) 0
  ⟨ax _,rfl,rfl,rfl,rfl,rfl,s,LC,hL,rfl,hG,hS.drop (bk (bk (List.Sublist.cons_cons _ ((List.Sublist.cons _ (List.Sublist.cons _ (bJ _))))) (bJ _)) (bJ _))⟩ ?_
 clear hS hG hPs hL;rintro i ρ w4 ⟨hi,h0,h6,h18,h19,h20,s',LC,hL,hadd,hG,hS⟩;refine V1 ?_;by_cases hlt:i<t.ps.length
 ·refine V1 ?_;obtain⟨p,hpe⟩:=jz (t.ps.getD i TX);have hpm:p∈t.ps:=by rw[hpe];exact kH _ _ _ hlt
  have hd:(FZ t a).drop i=(⟨p.c,p.q*q⟩:Pa)::(FZ t a).drop (i+1):=by
   rw[drop_cons _ TX (by rw[hal];exact hlt)];congr 1;rw[hsh,getD_map _ _ TX _ hlt,<-hpe]
  rw[hd]at hL hadd;refine jr ?_;refine jp (kp (i:=i) h18 h20 (hP _ [(b6,32,j6 (j9 q)),mW br vc s'.r] LC hS) oO dO Gw (jq (ky (i:=i) TX rfl uv (hP _ [(b6,32,j6 (j9 q)),mW br vc s'.r] LC hS) dO rfl rfl (.inl rfl) ?_)));refine J1 ?_;intro b9 wz5 hS hBz5;refine J1 ?_;intro wz6 hS;refine ja ?_;rw[<-hpe]at hS;replace hS:St w0 _ (([(b9,207,pq p),(b6,32,j6 (j9 q)),mW br vc s'.r]++H)++LC):=hS;refine ja ?_;refine kE [jo 0,jo 1,ju 2,jo 3,ju 4,ju 5,jv 6,jw 7] kR kR hS ?_;intro wz7 hS hBz7;refine J6 ?_;refine jn rfl (j7 Tryz.call11 rfl (rE (j9 p.q) (j9 q) _ (by rw[Lr_ofQ,Lr_ofQ];exact hLp p hpm)) ?_);rintro r w5 ⟨rfl,hB5⟩;refine⟨hB5,?_⟩;rw[toQ_ofQ,toQ_ofQ];replace hS:=hS.ko hB5;refine jx rfl (j7 Tryz.call131 rfl (Lj br n vc s' ⟨p.c,p.q*q⟩ ((b9,207,pq p)::(b6,32,j6 (j9 q))::H) LC w0 _ hG (hS.perm (bQ _ (VG _ _ _ _))) (hp p hpm) hL.head) ?_);rintro r w6 ⟨rfl,LC',hG,hS⟩;refine V2 ?_;exact⟨i+1,_,rfl,⟨hlt,jY,jY,jY,jY,vi rfl oO,_,LC',hL.step,hadd,hG,(hS.perm (bQ _ (VG _ _ _ _).symm)).drop (ab _ _)⟩,oO⟩
 ·refine J1 ?_;refine jt ?_;obtain rfl:i=t.ps.length:=oO;rw[eY oO]at hadd;replace hadd:s'=qN s (FZ t a):=hadd;subst hadd;exact qf rfl ⟨rfl,LC,hG,hS.drop (ab _ _)⟩
def re (T:List Tr) (m:Rat):List Pa:=(T.take (md T m)).flatMap Tr.ps++if md T m<T.length then FZ (T.getD (md T m) r6) (rz T m)else []
def qz (T:List Tr) (m rate:Rat):List Pa:=if md T m<T.length then FZ (T.getD (md T m) r6) rate else []
theorem E6:∀ {T:List Tr} {m:Rat},md T m<T.length->rz T m<(T.getD (md T m) r6).sm
 | [],_,h=>absurd h (aS _)
 |t::T,m,h=>by
  unfold rz;by_cases hc:m<t.sm
  ·have e:md (t::T) m=0:=aj hc;rw[e];show m-0<t.sm;grind
  ·have e:md (t::T) m=md T (m-t.sm)+1:=ah hc;rw[e]at h⊢;have ih:=E6 (T:=T) (m:=m-t.sm) (by rw[ba]at h;omega);unfold rz at ih;rw[tI];show _<(T.getD _ r6).sm;grind
theorem Fi:∀ {T:List Tr} {m:Rat},(∀t∈T,0<=t.sm)->0<=m->0<=rz T m
 | [],m,_,h=>by show 0<=m-0;grind
 |t::T,m,ht,h=>by
  unfold rz;by_cases hc:m<t.sm
  ·have e:md (t::T) m=0:=aj hc;rw[e];show 0<=m-0;grind
  ·have e:md (t::T) m=md T (m-t.sm)+1:=ah hc;have ih:=Fi (T:=T) (m:=m-t.sm) (λt h=>ht t (aI _ h)) (by grind);unfold rz at ih;rw[e,tI];grind
structure JA (n:Nat) (T:List Tr):Prop where
 p:∀t∈T,∀p∈t.ps,yP n p
 s:∀t∈T,0<=t.sm
def DU (T:List Tr) (f i:Nat) (tl:List Pa):List Pa:=((T.take f).drop i).flatMap Tr.ps++tl
theorem MA {T:List Tr} {f i:Nat} (tl:List Pa) (hf:f<=T.length) (hi:i<f):DU T f i tl=(T.getD i r6).ps++DU T f (i+1) tl:=by
 unfold DU;have hl:i<(T.take f).length:=by rw[cG];omega
 rw[drop_cons _ r6 hl,cw,aF];congr 1;rw[nz _ _ hl,iu,nz T r6 oO]
theorem Ox (T:List Tr) (f:Nat) (tl:List Pa):DU T f f tl=tl:=by
 unfold DU;rw[eY (by rw[cG];omega)];rfl
theorem Me (br n:Nat) (vc v:Value) (T:List Tr) (vs:List Value) (m:Rat) (s:Rs) (H LC:List kV) (w0 w:World) (hT:∀wx A B,St w0 wx ((A++H)++B)->IQ wx v T vs) (hG:Gl j6 32 3 vc (ku n λk=>j9 (s.c k)) LC) (hS:St w0 w ((mW br vc s.r::H)++LC)) (hok:JA n T)
  (hm0:0<=m) (hK:2*(L m+xX T+2)<=MX) (hL:A5 n MX s (re T m)) (hLp:∀t∈T,∀p∈t.ps,L p.q+L m+2*xX T+2<=MX):
  lW Tryz.prog 87 #[v,lu (j9 m),.pointer (some ⟨br,0,none⟩)] w λu w'=>u= .tuple #[]/\∃LC',Gl j6 32 3 vc (ku n λk=>j9 ((qN s (re T m)).c k)) LC'/\St w0 w' ((mW br vc (qN s (re T m)).r::H)++LC'):=by
 have hT0:=hT w [mW br vc s.r] LC hS;have hzl:=hT0.P5;have hmx:=hT0.sl.maxLen;rw[hzl]at hmx;obtain⟨f,hf⟩:=jz (md T m);have hfl:f<=T.length:=by rw[hf];exact tG T m
 obtain⟨lq,hlq⟩:=jz (rz T m);have hLq:L lq<=L m+xX T+2:=by rw[hlq];exact GF T m (tG T m)
 obtain⟨tl,htl⟩:∃tl:List Pa,tl=if f<T.length then FZ (T.getD f r6) lq else []:=⟨_,rfl⟩
 have hpay:re T m=DU T f 0 tl:=by rw[htl,hlq,hf];rfl
 rw[hpay]at hL⊢;obtain⟨fin,hfin⟩:=jz (qN s (DU T f 0 tl));rw[<-hfin];refine enter Tryz.func87 rfl Tryz.ntmps87 rfl ?_;refine jr ?_;refine jh (lj (new:=j6 (j9 m)) rfl rfl hS ?_);intro b4 wz1 hS hBz1;refine ja ?_;replace hS:St w0 _ (([(b4,32,j6 (j9 m)),mW br vc s.r]++H)++LC):=hS;refine J2 ?_;refine jh (j7 Tryz.call130 rfl (AH v T vs m _ (hT _ [(b4,32,j6 (j9 m)),mW br vc s.r] LC hS) hK) ?_);rintro r w3 ⟨rfl,hB3⟩;rw[<-hf,<-hlq];replace hS:=hS.ko hB3;refine J4 ?_;intro b7 wz2 hS hBz2;refine J2 ?_;intro wz3 hS;refine ja ?_;replace hS:St w0 _ (([(b7,32,j6 (j9 lq)),(b4,32,j6 (j9 m)),mW br vc s.r]++H)++LC):=hS;refine ja ?_;refine nb (λρ'=>ρ' 0=v/\ρ' 2= .pointer (some ⟨br,0,none⟩)/\ρ' 6= .int .i64 f/\ρ' 7= .pointer (some ⟨b7,0,none⟩)/\True) ⟨rfl,rfl,rfl,rfl,trivial⟩ ?_;rintro ρk4 ⟨hk4_0,hk4_2,hk4_6,hk4_7,-⟩;refine J2 ?_;refine jp (zI rfl rfl (hT _ [(b7,32,j6 (j9 lq)),(b4,32,j6 (j9 m)),mW br vc s.r] LC hS).sl rfl (by rw[hzl];exact hfl) se (jp (kj rfl (Sl.sub (hT _ [(b7,32,j6 (j9 lq)),(b4,32,j6 (j9 m)),mW br vc s.r] LC hS).sl sf dD (ax f) (by rw[hzl];exact hfl)) ⟨_,Tryz.underlying109⟩ ?_)));refine J1 ?_;refine jb ?_;have hsl:(((T.zip vs).drop 0).take (f-0)).length=f:=by rw[cG,eN,hzl];omega
 have hsub:=λwx A B h=>Sl.sub (hT wx A B h).sl sf dD (ax f) (by rw[hzl];exact hfl);have hzg:∀i,i<f->(((T.zip vs).drop 0).take (f-0)).getD i (r6,undef)=(T.getD i r6,vs.getD i undef):=λi hi=>by
  rw[nz _ _ (by rw[hsl];exact hi),iu,List.getElem_drop,<-nz (T.zip vs) (r6,undef) (by rw[hzl];omega),bZ,hT0.OU oO]
 obtain⟨v20,hv20⟩:=jz (Bp v 4 0 f);rw[<-hv20]at hsub;rw[hsl];refine kz (λρ w'=>ρ 0=v/\ρ 2=pB br/\ρ 6=iB f/\ρ 7=pB b7/\∃s' LC,A5 n MX s' tl/\qN s' tl=fin/\Gl j6 32 3 vc (ku n λk=>j9 (s'.c k)) LC/\St w0 w' (([(b7,32,j6 (j9 lq)),mW br vc s'.r]++H)++LC)) ?_ ?_
 ·refine ja ?_;refine kx (σ:=Nat) (λi ρ w'=>i<=f/\ρ 0=v/\ρ 2=pB br/\ρ 6=iB f/\ρ 7=pB b7/\ρ 20=v20/\ρ 21=iB f/\ρ 22=iB i/\
    ∃s' LC,A5 n MX s' (DU T f i tl)/\qN s' (DU T f i tl)=fin/\Gl j6 32 3 vc (ku n λk=>j9 (s'.c k)) LC/\St w0 w' (([(b7,32,j6 (j9 lq)),mW br vc s'.r]++H)++LC)) (λi=>f-i) 0
   ⟨ax _,jY,jY,jY,jY,hv20.symm,rfl,rfl,s,LC,hL,hfin.symm,hG,(hS.perm (bQ _ (List.Perm.swap _ _ _))).drop (ab _ _)⟩ ?_
  clear hS hG hL;rintro i ρ w4 ⟨hi,h0,h2,h6,h7,h20,h21,h22,s1,LC,hL,hadd,hG,hS⟩;refine V1 ?_;by_cases hlt:i<f
  ·refine V1 ?_;have hli:i<T.length:=oO;obtain⟨t,ht⟩:=jz (T.getD i r6);have htm:t∈T:=by rw[ht];exact kH _ _ _ hli
   obtain⟨pv,hpv⟩:=jz (vs.getD i undef);have hpr:∀wx A B,St w0 wx ((A++H)++B)->Sl pq 4 wx pv t.ps:=λwx A B h=>by rw[hpv,ht];exact(hT wx A B h).ps i hli
   have hzi:=hzg i hlt;rw[<-ht,<-hpv]at hzi;have hp0:=hpr _ [(b7,32,j6 (j9 lq)),mW br vc s1.r] LC hS;have hpm:=hp0.maxLen;obtain⟨pa,pc,hpe,_⟩:=hp0.form;clear hp0;subst hpe;rw[MA tl hfl hlt,<-ht]at hL hadd;obtain⟨rm,hrm⟩:=jz (DU T f (i+1) tl);rw[<-hrm]at hL hadd;refine jr ?_;refine jp (kp (i:=i) h20 h22 (hsub _ [(b7,32,j6 (j9 lq)),mW br vc s1.r] LC hS) oO dO se (jq (ky (v:=zj t (.slice pa t.ps.length pc)) (i:=i) (r6,undef) rfl tj (hsub _ [(b7,32,j6 (j9 lq)),mW br vc s1.r] LC hS) oO rfl (by rw[hzi];rfl) (.inl rfl) ?_)));refine J1 ?_;intro b9 wz5 hS hBz5;refine J1 ?_;intro wz6 hS;refine ja ?_;replace hS:St w0 _ (([(b9,157,nh (t,.slice pa t.ps.length pc)),(b7,32,j6 (j9 lq)),mW br vc s1.r]++H)++LC):=hS;refine ja ?_;refine nb (λρ'=>ρ' 0=v/\ρ' 2= .pointer (some ⟨br,0,none⟩)/\ρ' 6= .int .i64 f/\ρ' 7= .pointer (some ⟨b7,0,none⟩)/\ρ' 20=v20/\ρ' 21= .int .i64 f/\ρ' 22= .int .i64 i/\ρ' 9= .pointer (some ⟨b9,0,none⟩)/\True) ⟨h0,h2,h6,h7,h20,h21,h22,rfl,trivial⟩ ?_;rintro ρk7 ⟨hk7_0,hk7_2,hk7_6,hk7_7,hk7_20,hk7_21,hk7_22,hk7_9,-⟩;refine J2 ?_;refine jp (kj rfl (hpr _ [(b9,157,nh (t,.slice pa t.ps.length pc)),(b7,32,j6 (j9 lq)),mW br vc s1.r] LC hS) ⟨_,Tryz.underlying155⟩ ?_);refine J1 ?_;refine jb ?_;refine kz (λρ w'=>ρ 0=v/\ρ 2=pB br/\ρ 6=iB f/\ρ 7=pB b7/\ρ 20=v20/\ρ 21=iB f/\ρ 22=iB i/\
    ∃s' LC,A5 n MX s' rm/\qN s' rm=fin/\Gl j6 32 3 vc (ku n λk=>j9 (s'.c k)) LC/\St w0 w' (([(b7,32,j6 (j9 lq)),mW br vc s'.r]++H)++LC)) ?_ ?_
   ·refine ja ?_;refine kx (σ:=Nat) (λj ρ w'=>j<=t.ps.length/\ρ 0=v/\ρ 2=pB br/\ρ 6=iB f/\ρ 7=pB b7/\ρ 20=v20/\ρ 21=iB f/\ρ 22=iB i/\ρ 27= .slice pa t.ps.length pc/\ρ 28=iB t.ps.length/\ρ 29=iB j/\
     ∃s' LC,A5 n MX s' (t.ps.drop j++rm)/\qN s' (t.ps.drop j++rm)=fin/\Gl j6 32 3 vc (ku n λk=>j9 (s'.c k)) LC/\St w0 w' (([(b7,32,j6 (j9 lq)),mW br vc s'.r]++H)++LC)) (λj=>t.ps.length-j) 0
     ⟨ax _,jY,jY,jY,jY,jY,jY,jY,rfl,rfl,rfl,s1,LC,hL,hadd,hG,hS.drop (ab _ _)⟩ ?_
    clear hS hG hL hadd h0 h2 h6 h7 h20 h21 h22;rintro j ρ w5 ⟨hj,h0,h2,h6,h7,h20,h21,h22,h27,h28,h29,s2,LC,hL,hadd,hG,hS⟩;refine V1 ?_;by_cases hjl:j<t.ps.length
    ·refine V1 ?_;obtain⟨p,hpe⟩:=jz (t.ps.getD j TX);have hpm:p∈t.ps:=by rw[hpe];exact kH _ _ _ hjl
     rw[drop_cons _ TX hjl,<-hpe,bW]at hL hadd;refine jr ?_;refine jp (kp (i:=j) h27 h29 (hpr _ [(b7,32,j6 (j9 lq)),mW br vc s2.r] LC hS) oO dO Gw (jq (ky (i:=j) TX rfl uv (hpr _ [(b7,32,j6 (j9 lq)),mW br vc s2.r] LC hS) dO rfl rfl (.inl rfl) ?_)));refine J1 ?_;intro b11 wz8 hS hBz8;refine J1 ?_;intro wz9 hS;refine ja ?_;rw[<-hpe]at hS;replace hS:St w0 _ (([(b11,207,pq p),(b7,32,j6 (j9 lq)),mW br vc s2.r]++H)++LC):=hS;refine J5 ?_;refine jh (j7 Tryz.call131 rfl (Lj br n vc s2 p ((b11,207,pq p)::(b7,32,j6 (j9 lq))::H) LC w0 _ hG (hS.perm (bQ _ (VG _ _ _ _))) (hok.p t htm p hpm) hL.head) ?_);rintro r w6 ⟨rfl,LC',hG,hS⟩;refine V2 ?_;exact⟨j+1,_,rfl,⟨hjl,jY,jY,jY,jY,jY,jY,jY,jY,jY,vi rfl oO,_,LC',hL.step,hadd,hG,(hS.perm (bQ _ (VG _ _ _ _).symm)).drop (ab _ _)⟩,oO⟩
    ·refine J1 ?_;refine jt ?_;rw[eY oO]at hL hadd;exact⟨_,rfl,h0,h2,h6,h7,h20,h21,h22,s2,LC,hL,hadd,hG,hS⟩
   clear hS hG hL hadd h0 h2 h6 h7 h20 h21 h22;rintro ρ w5 ⟨h0,h2,h6,h7,h20,h21,h22,s2,LC,hL,hadd,hG,hS⟩;rw[hrm]at hL hadd;refine V2 ?_;exact⟨i+1,_,rfl,⟨hlt,jY,jY,jY,jY,jY,jY,vi rfl oO,s2,LC,hL,hadd,hG,hS⟩,oO⟩
  ·refine J1 ?_;refine jt ?_;obtain rfl:i=f:=oO;rw[Ox]at hL hadd;exact⟨_,rfl,h0,h2,h6,h7,s1,LC,hL,hadd,hG,hS⟩
 clear hS hG hL;rintro ρ w4 ⟨h0,h2,h6,h7,s1,LC,hL,hadd,hG,hS⟩;refine J2 ?_;refine jp (kj rfl (hT _ [(b7,32,j6 (j9 lq)),mW br vc s1.r] LC hS).sl ⟨_,Tryz.underlying109⟩ ?_);refine V1 ?_;by_cases hlt:f<T.length
 ·refine k9 rfl (ak (by rw[hzl];omega)) ?_;refine ja ?_;obtain⟨t,ht⟩:=jz (T.getD f r6);rw[aj hlt,<-ht]at htl;have htm:t∈T:=by rw[ht];exact kH _ _ _ hlt
  have hz:=hT0.OU hlt;rw[<-ht]at hz;obtain⟨pv,hpv⟩:=jz (vs.getD f undef);rw[<-hpv]at hz;have hlt2:lq<t.sm:=by rw[hlq,ht,hf];exact E6 (by rw[<-hf];exact hlt)
  have hl0:0<=lq:=by rw[hlq];exact Fi hok.s hm0
  have hsm:L t.sm+1<=xX T:=by rw[ht];exact zf T hlt
  rw[htl]at hL hadd;refine ja ?_;refine kE [jo 0,jo 1,jo 2,jo 3,ju 4,ju 5,jw 6] kR kR hS ?_;intro wz10 hS hBz10;refine J3 ?_;refine jl rfl (kp (i:=f) rfl rfl (hT _ [(b7,32,j6 (j9 lq)),mW br vc s1.r] LC hS).sl oO oO se (jm rfl (ky (v:=zj t pv) (i:=f) (r6,undef) rfl tj (hT _ [(b7,32,j6 (j9 lq)),mW br vc s1.r] LC hS).sl oO rfl (by rw[hz];rfl) (.inl rfl) ?_)));refine J1 ?_;refine jx rfl (j7 Tryz.call132 rfl (Ef br n vc pv s1 t lq ((b7,32,j6 (j9 lq))::H) LC w0 _ hG (hS.perm (bQ _ (List.Perm.swap _ _ _))) (λwx A B h=>by rw[hpv,ht];exact(hT wx (A++[(b7,32,j6 (j9 lq))]) B (by rw[aF A];exact h)).ps f hlt) (hok.p t htm) (by intro g;rw[g]at hlt2;grind) hL oO (λp hp=>by have:=hLp t htm p hp;have:=z5 lq t.sm;omega)) ?_);rintro r w6 ⟨rfl,LC',hG,hS⟩;refine ja ?_;rw[hadd]at hG hS;exact qf rfl ⟨rfl,LC',hG,hS.drop (bk (List.Sublist.cons_cons _ (ab _ _)) (bJ _))⟩
 ·refine lx rfl (ae (by rw[hzl];omega)) ?_;refine ja ?_;rw[ah hlt]at htl;rw[htl]at hadd;replace hadd:s1=fin:=hadd;subst hadd;exact qf rfl ⟨rfl,LC,hG,hS.drop (ab _ _)⟩
theorem Ee (br n:Nat) (vc v:Value) (T:List Tr) (vs:List Value) (m rate:Rat) (s:Rs) (H LC:List kV) (w0 w:World) (hT:∀wx A B,St w0 wx ((A++H)++B)->IQ wx v T vs) (hG:Gl j6 32 3 vc (ku n λk=>j9 (s.c k)) LC) (hS:St w0 w ((mW br vc s.r::H)++LC)) (hok:JA n T)
  (hm0:0<=m) (hK:2*(L m+xX T+2)<=MX) (hL:A5 n MX s (qz T m rate)) (hLr:L rate+xX T<=MX) (hLp:∀t∈T,∀p∈t.ps,L p.q+L rate+2*xX T+2<=MX):
  lW Tryz.prog 136 #[v,lu (j9 m),lu (j9 rate),.pointer (some ⟨br,0,none⟩)] w λu w'=>u= .tuple #[]/\∃LC',Gl j6 32 3 vc (ku n λk=>j9 ((qN s (qz T m rate)).c k)) LC'/\St w0 w' ((mW br vc (qN s (qz T m rate)).r::H)++LC'):=by
 have hT0:=hT w [mW br vc s.r] LC hS;have hzl:=hT0.P5;have hmx:=hT0.sl.maxLen;rw[hzl]at hmx;obtain⟨f,hf⟩:=jz (md T m);have hfl:f<=T.length:=by rw[hf];exact tG T m
 refine enter Tryz.func136 rfl Tryz.ntmps136 rfl ?_;refine jr ?_;refine jh (lj (new:=j6 (j9 m)) rfl rfl hS ?_);intro b5 wz1 hS hBz1;refine jh (lj (new:=j6 (j9 rate)) rfl rfl hS ?_);intro b6 wz2 hS hBz2;refine ja ?_;replace hS:St w0 _ (([(b6,32,j6 (j9 rate)),(b5,32,j6 (j9 m)),mW br vc s.r]++H)++LC):=hS;refine J2 ?_;refine jh (j7 Tryz.call130 rfl (AH v T vs m _ (hT _ [(b6,32,j6 (j9 rate)),(b5,32,j6 (j9 m)),mW br vc s.r] LC hS) hK) ?_);rintro r w3 ⟨rfl,hB3⟩;rw[<-hf];replace hS:=hS.ko hB3;refine J4 ?_;intro b9 wz3 hS hBz3;refine J2 ?_;intro wz4 hS;refine ja ?_;replace hS:St w0 _ (([(b9,32,j6 (j9 (rz T m))),(b6,32,j6 (j9 rate)),(b5,32,j6 (j9 m)),mW br vc s.r]++H)++LC):=hS;have hpm:∀x y z u:kV,([x,y,z,u]++H).Perm ([y,u]++(x::z::H)):=λx y z u=>(List.Perm.swap y x _).trans (List.Perm.cons y ((List.Perm.cons x (List.Perm.swap u z H)).trans (List.Perm.swap u x _)));replace hS:St w0 _ (([(b6,32,j6 (j9 rate)),mW br vc s.r]++H)++LC):=(hS.perm (bQ _ (hpm _ _ _ _))).drop (bk (bk (bJ _) ((ab _ _).trans (ab _ _))) (bJ _));refine ja ?_;refine nb (λρ'=>ρ' 0=v/\ρ' 3= .pointer (some ⟨br,0,none⟩)/\ρ' 6= .pointer (some ⟨b6,0,none⟩)/\ρ' 8= .int .i64 f/\True) ⟨rfl,rfl,rfl,rfl,trivial⟩ ?_;rintro ρk5 ⟨hk5_0,hk5_3,hk5_6,hk5_8,-⟩;refine J2 ?_;refine jp (kj rfl (hT _ [(b6,32,j6 (j9 rate)),mW br vc s.r] LC hS).sl ⟨_,Tryz.underlying109⟩ ?_);refine V1 ?_;by_cases hlt:f<T.length
 ·refine k9 rfl (ak (by rw[hzl];omega)) ?_;refine ja ?_;obtain⟨t,ht⟩:=jz (T.getD f r6);have htm:t∈T:=by rw[ht];exact kH _ _ _ hlt
  have hz:=hT0.OU hlt;rw[<-ht]at hz;obtain⟨pv,hpv⟩:=jz (vs.getD f undef);rw[<-hpv]at hz;have hlt2:rz T m<t.sm:=by rw[ht,hf];exact E6 (by rw[<-hf];exact hlt)
  have hl0:0<=rz T m:=Fi hok.s hm0;have hsm:L t.sm+1<=xX T:=by rw[ht];exact zf T hlt
  have htl:qz T m rate=FZ t rate:=by unfold qz;rw[<-hf,aj hlt,ht]
  rw[htl]at hL⊢;refine ja ?_;refine kE [jo 0,jo 1,jo 2,jo 3,ju 4,ju 5,jw 6] kR kR hS ?_;intro wz6 hS hBz6;refine J3 ?_;refine jl rfl (kp (i:=f) rfl rfl (hT _ [(b6,32,j6 (j9 rate)),mW br vc s.r] LC hS).sl oO oO se (jm rfl (ky (v:=zj t pv) (i:=f) (r6,undef) rfl tj (hT _ [(b6,32,j6 (j9 rate)),mW br vc s.r] LC hS).sl oO rfl (by rw[hz];rfl) (.inl rfl) ?_)));refine J1 ?_;refine jx rfl (j7 Tryz.call132 rfl (Ef br n vc pv s t rate ((b6,32,j6 (j9 rate))::H) LC w0 _ hG (hS.perm (bQ _ (List.Perm.swap _ _ _))) (λwx A B h=>by rw[hpv,ht];exact(hT wx (A++[(b6,32,j6 (j9 rate))]) B (by rw[aF A];exact h)).ps f hlt) (hok.p t htm) (by intro g;rw[g]at hlt2;grind) hL oO (λp hp=>by have:=hLp t htm p hp;have:=z5 rate t.sm;omega)) ?_);rintro r w6 ⟨rfl,LC',hG,hS⟩;refine ja ?_;exact qf rfl ⟨rfl,LC',hG,hS.drop (bk (List.Sublist.cons_cons _ (ab _ _)) (bJ _))⟩
 ·refine lx rfl (ae (by rw[hzl];omega)) ?_;refine ja ?_;have htl:qz T m rate=[]:=by unfold qz;rw[<-hf,ah hlt]
  rw[htl];exact qf rfl ⟨rfl,LC,hG,hS.drop (ab _ _)⟩
theorem Lx (v:Value) (T:List Tr) (vs:List Value) (m:Rat) (w:World) (hT:IQ w v T vs) (hK:2*(L m+xX T+2)<=MX):
  lW Tryz.prog 177 #[v,lu (j9 m)] w λr w'=>r=(if md T m<T.length then .tuple #[lu (j9 ((T.getD (md T m) r6).sm-rz T m)),.bool true]else .tuple #[lu kP,.bool false])/\Below w.heap.size w w':=by
 have hzl:=hT.P5;obtain⟨f,hf⟩:=jz (md T m);have hfl:f<=T.length:=by rw[hf];exact tG T m
 have hLq:=GF T m (tG T m);have hS:=St.init w;refine enter Tryz.func177 rfl Tryz.ntmps177 rfl ?_;refine jr ?_;refine jh (lj (new:=j6 (j9 m)) rfl rfl hS ?_);intro b3 wz1 hS hBz1;refine J1 ?_;intro b4 wz2 hS hBz2;refine J3 ?_;refine jh (j7 Tryz.call130 rfl (AH v T vs m _ (hT.j5 hS.j5) hK) ?_);rintro r w3 ⟨rfl,hB3⟩;rw[<-hf];replace hS:=hS.ko hB3;refine J4 ?_;intro b7 wz3 hS hBz3;refine J2 ?_;intro wz4 hS;refine ja ?_;replace hS:St w _ [(b7,32,j6 (j9 (rz T m))),(b4,32,j6 kP),(b3,32,j6 (j9 m))]:=hS;refine ja ?_;refine nb (λρ'=>ρ' 0=v/\ρ' 4= .pointer (some ⟨b4,0,none⟩)/\ρ' 5= .bool false/\ρ' 6= .int .i64 f/\ρ' 7= .pointer (some ⟨b7,0,none⟩)/\True) ⟨rfl,rfl,rfl,rfl,rfl,trivial⟩ ?_;rintro ρk5 ⟨hk5_0,hk5_4,hk5_5,hk5_6,hk5_7,-⟩;refine J2 ?_;refine jp (kj rfl (hT.sl.j5 hS.j5) ⟨_,Tryz.underlying109⟩ ?_);refine V1 ?_;by_cases hlt:f<T.length
 ·rw[aj hlt];refine lx rfl (ae (by rw[hzl];omega)) ?_;refine ja ?_;have hz:=hT.OU hlt;have hsm:=zf T hlt;obtain⟨lq,hlq⟩:=jz (rz T m);change L (rz T m)<=_ at hLq;rw[<-hlq]at hLq hS⊢;obtain⟨pv,hpv⟩:=jz (vs.getD f undef);rw[<-hpv]at hz;obtain⟨t,ht⟩:=jz (T.getD f r6);rw[<-ht]at hz hsm⊢;refine ja ?_;refine kE [jo 0,jo 1,jo 2,jo 3,ju 4,ju 5,jv 6,jw 7,jo 8] kR kR hS ?_;intro wz6 hS hBz6;refine J2 ?_;refine jl rfl (kp (i:=f) rfl rfl (hT.sl.j5 hS.j5) oO oO se ?_);refine jl rfl (oG rfl (nc (hT.sl.j5 hS.j5) (λ_=>rfl) dD oO) CX ?_);refine jm rfl (oE (i:=f) (off:=1) (v:=lu (j9 t.sm)) (r6,undef) rfl ki (hT.sl.j5 hS.j5) (λ_=>rfl) dD oO rfl (by rw[hz];rfl) (.inl rfl) ?_);refine J1 ?_;refine jn rfl (j7 Tryz.call16 rfl (mD (j9 t.sm) (j9 lq) _ (by rw[Lr_ofQ,Lr_ofQ];omega)) ?_);rintro r w4 ⟨rfl,hB4⟩;refine⟨hB4,?_⟩;rw[toQ_ofQ,toQ_ofQ];replace hS:=hS.ko hB4;refine J1 ?_;intro wz7 hS;refine J1 ?_;refine jt ?_;refine nj (k:=1) rfl hk5_4 rfl ki hS rfl rfl ?_;exact⟨rfl,hS.j5⟩
 ·rw[ah hlt];refine k9 rfl (ak (by rw[hzl];omega)) ?_;refine jr ?_;refine jp (kQ rfl pI ?_);refine J1 ?_;intro wz8 hS;refine J1 ?_;refine jt ?_;refine nj (k:=1) rfl hk5_4 rfl ki hS rfl rfl ?_;exact⟨rfl,hS.j5⟩
structure Pl where
 mem:List Nat
 ld:List Tr
structure Ly where
 n:Nat
 rk:List Tr
 pl:List Pl
 tot:Rat
def wC:Pl:=⟨[],[]⟩
def pW:Value×Value:=(undef,undef)
def CB (p:Value×Value):List Value:=[p.1,p.2]
structure VD (w:World) (v:Value) (P:List Pl) (pv:List (Value×Value)) (lv:List (List Value)):Prop where
 len:pv.length=P.length
 sl:Sl CB 2 w v pv
 mem:∀i,i<P.length->Sl tg 1 w (pv.getD i pW).1 (nI (P.getD i wC).mem)
 ld:∀i,i<P.length->IQ w (pv.getD i pW).2 (P.getD i wC).ld (lv.getD i [])
theorem VD.j5 {w w':World} {v:Value} {P:List Pl} {pv:List (Value×Value)} {lv:List (List Value)} (h:VD w v P pv lv) (hb:Below w.heap.size w w'):VD w' v P pv lv:=⟨h.len,h.sl.j5 hb,λi hi=>(h.mem i hi).j5 hb,λi hi=>(h.ld i hi).j5 hb⟩
def NL (n:Nat) (vR vP:Value) (tot:Rat):Value:= .agg #[.int .i64 n,vR,vP,.bool (j9 tot).neg,.string (j9 tot).num,.string (j9 tot).den]
def pK (n:Nat) (vR vP:Value) (tot:Rat):List Value:= .int .i64 n::vR::vP::j6 (j9 tot)
structure QH (w:World) (vR vP:Value) (y:Ly) (vs:List Value) (pv:List (Value×Value)) (lv:List (List Value)):Prop where
 rk:IQ w vR y.rk vs
 pl:VD w vP y.pl pv lv
theorem QH.j5 {w w':World} {vR vP:Value} {y:Ly} {vs:List Value} {pv:List (Value×Value)} {lv:List (List Value)} (h:QH w vR vP y vs pv lv) (hb:Below w.heap.size w w'):QH w' vR vP y vs pv lv:=⟨h.rk.j5 hb,h.pl.j5 hb⟩
def oq (mem:List Nat) (f:Nat->Rat):Rat:=(mem.map f).foldl (· + ·) 0
theorem Eg (mem:List Nat) (i:Nat) (f:Nat->Rat):oq (mem++[i]) f=oq mem f+f i:=by unfold oq;rw[bO,ey];rfl
def GP (mem:List Nat) (f:Nat->Rat):Nat:=(mem.map λi=>L (f i)+1).sum
theorem OP (mem:List Nat) (f:Nat->Rat):∀k,k<=mem.length->L (oq (mem.take k) f)<=GP (mem.take k) f+1
 |0,_=>by rw[fc];show L 0<=_;rw[n8];omega
 |k+1,h=>by
  have ih:=OP mem f k oO;rw[lC mem k 0 h,Eg];have:=Bc (oq (mem.take k) f) (f (mem.getD k 0));have e:GP (mem.take k++[mem.getD k 0]) f=GP (mem.take k) f+(L (f (mem.getD k 0))+1):=by unfold GP;rw[bO,iS];rfl
  rw[e];omega
theorem QK (mem:List Nat) (f:Nat->Rat) (k:Nat):GP (mem.take k) f<=GP mem f:=by
 have e:GP mem f=GP (mem.take k) f+GP (mem.drop k) f:=by
  unfold GP;rw[<-iS,<-bO,da]
 omega
theorem uQ (vm vl va:Value) (mem:List Nat) (n:Nat) (f:Nat->Rat) (w:World) (hM:Sl tg 1 w vm (nI mem)) (hA:Sl j6 3 w va (ku n λk=>j9 (f k))) (hm:∀i∈mem,i<n) (hK:GP mem f+1<=MX):
  lW Tryz.prog 88 #[.agg #[vm,vl],va] w λr w'=>r=lu (j9 (oq mem f))/\Below w.heap.size w w':=by
 have hmx:=hM.maxLen;have hnl:=sc mem;have htl:=ka n λk=>j9 (f k);have hS:=St.init w;have hz:j6 kP=j6 (j9 (oq (mem.take 0) f)):=by rw[lA];rfl
 refine enter Tryz.func88 rfl Tryz.ntmps88 rfl ?_;refine jr ?_;refine jh (lj (new:=[vm,vl]) rfl rfl hS ?_);intro b2 wz1 hS hBz1;refine J1 ?_;intro b4 wz2 hS hBz2;refine jr ?_;refine jp (kQ rfl pI ?_);refine J1 ?_;intro b5 wz3 hS hBz3;refine J1 ?_;intro wz4 hS;refine ja ?_;replace hS:St w _ [(b5,32,j6 kP),(b4,32,j6 kP),(b2,160,[vm,vl])]:=hS;rw[hz]at hS;refine J2 ?_;refine jp (kj rfl (hM.j5 hS.j5) ⟨_,Tryz.underlying46⟩ ?_);refine J1 ?_;refine jb ?_;rw[hnl];refine kz (λρ w'=>ρ 4=pB b4/\ρ 5=pB b5/\∃x,St w w' [(b5,32,j6 (j9 (oq mem f))),(b4,32,x)]/\x.length=3) ?_ ?_
 ·refine ja ?_;refine kx (σ:=Nat) (λk ρ w'=>k<=mem.length/\ρ 1=va/\ρ 4=pB b4/\ρ 5=pB b5/\ρ 10=vm/\ρ 11=iB mem.length/\ρ 12=iB k/\∃x,St w w' [(b5,32,j6 (j9 (oq (mem.take k) f))),(b4,32,x)]/\x.length=3) (λk=>mem.length-k) 0
   ⟨ax _,rfl,rfl,rfl,rfl,rfl,rfl,_,hS.drop (ap [_,_] [_]),rfl⟩ ?_
  clear hS hz;rintro k ρ w2 ⟨hk,h1,h4,h5,h10,h11,h12,x,hS,hx⟩;refine V1 ?_;by_cases hlt:k<mem.length
  ·refine V1 ?_;obtain⟨i,hi⟩:=jz (mem.getD k 0);have hin:i<n:=hm i (by rw[hi];exact kH _ _ _ hlt);have hni:(nI mem).getD k 0=(i:Int):=by unfold nI;rw[getD_map _ _ 0 _ hlt,hi]
   have hgi:(ku n λk=>j9 (f k)).getD i kP=j9 (f i):=kw _ _ hin;have ht:=lC mem k 0 hlt;rw[<-hi]at ht;have h1':=OP mem f k hk;have h2':=QK mem f (k+1);have h3':GP (mem.take (k+1)) f=GP (mem.take k) f+(L (f i)+1):=by rw[ht];unfold GP;rw[bO,iS];rfl
   refine jr ?_;refine jp (kp (i:=k) h10 h12 (hM.j5 hS.j5) oO dO pH (jq (ky (i:=k) 0 rfl ni (hM.j5 hS.j5) dO rfl rfl (.inr rfl) ?_)));refine V1 ?_;rw[hni];refine ja ?_;refine kE [ju 0,jo 1,jo 2,jo 3,ju 4,jv 5,jw 6] kR kR hS ?_;intro wz5 hS hBz5;refine J3 ?_;refine jl rfl (kp (i:=i) rfl rfl (hA.j5 hS.j5) oO dO kM (jm rfl (ky (i:=i) kP rfl ki (hA.j5 hS.j5) dO rfl rfl (.inl rfl) ?_)));refine jn rfl (j7 Tryz.call18 rfl (oo (j9 (oq (mem.take k) f)) ((ku n λk=>j9 (f k)).getD i kP) _ (by rw[hgi,Lr_ofQ,Lr_ofQ];omega)) ?_);rintro r w3 ⟨rfl,hB3⟩;refine⟨hB3,?_⟩;rw[hgi,toQ_ofQ,toQ_ofQ,<-Eg,<-ht];replace hS:=hS.ko hB3;refine J1 ?_;intro wz6 hS;refine V2 ?_;exact⟨k+1,_,rfl,⟨hlt,h1,h4,h5,h10,h11,vi rfl oO,x,hS,hx⟩,oO⟩
  ·refine J1 ?_;refine jt ?_;obtain rfl:k=mem.length:=oO;rw[bK]at hS;exact⟨_,rfl,h4,h5,x,hS,hx⟩
 clear hS;rintro ρ w2 ⟨h4,h5,x,hS,hx⟩;obtain⟨x0,x1,x2,rfl⟩:∃a b c,x=[a,b,c]:=by
  match x,hx with
  | [a,b,c],_=>exact⟨a,b,c,rfl⟩
 refine J2 ?_;intro wz7 hS;refine jt ?_;refine mq (k:=1) rfl h4 ki hS rfl rfl ?_;exact⟨rfl,hS.j5⟩
theorem H8 (vo:Value) (l:List RR) (w:World) (ho:Sl j6 3 w vo l) (hl:l.length<=1000000):
  lW Tryz.prog 47 #[vo] w λr w'=>∃LO,Gl j6 32 3 r l LO/\St w w' ([]++LO):=by
 obtain⟨a,c,rfl,h1,h2,h3⟩:=ho.form;have hS:=St.init w;have hW:=hS.j5;refine enter Tryz.func47 rfl Tryz.ntmps47 rfl ?_;refine J2 ?_;refine jp (BO rfl rfl (ht:=⟨_,Tryz.underlying34⟩) ?_);refine ja ?_;cases a with
 |none=>
  refine k9 rfl (rfl) ?_;refine J1 ?_;refine jt ?_;refine kD rfl rfl ?_;have:=h3 rfl;obtain rfl:l=[]:=cB oO;exact⟨[],Gl.nil _ _ _,hS⟩
 |some a=>
  refine lx rfl (rfl) ?_;refine jr ?_;refine jh (Oh kM hS ?_);intro b5 wz1 hS hBz1;refine J1 ?_;refine jh (AP rfl rfl kM dD (H:=[]) (Gl.OL (z:=j6 kP) (n:=0) rfl dD) hS (ho.j5 hS.j5) kt (tZ l) (by simp;omega) (by simp;omega) ?_);intro va2 La2 wa2 hG hS hga2 hgu2;refine J1 ?_;refine jt ?_;refine kD rfl rfl ?_;exact⟨_,hG,hS⟩
def zC:Rs:=⟨λ_=>0,0⟩
def lJ (y:Ly) (m:Rat):Nat->Rat:=(qN zC (re y.rk m)).c
def mr (y:Ly) (m:Rat):Nat->Rat:=(qN zC (qz y.rk m 1)).c
theorem C9 (a:Option Addr) (n c:Nat):Tryz.prog.built 167 [(0,.slice a n c)]=some #[.slice a n c,.bool false,.string ⟨#[]⟩,.string ⟨#[]⟩]:=by kernel_rfl
theorem lE (n:Nat):List.replicate n kP=ku n λk=>j9 (zC.c k):=by rw[ur];exact kB λ_ _=>by show kP=j9 0;rw[oC];rfl
theorem pN {b n:Nat} {t:TypeId} {X:List RR} (hn:X.length=n) (hm:n<=9223372036854775807):Gl j6 t 3 (.slice (some ⟨b,0,none⟩) n n) X [(b,t,X.flatMap j6)]:=
 ⟨lK kt _,.inr ⟨b,n,[],by rw[hn],by rw[aK],oO,by unfold Go.maxLen;omega,by rw[aK,lK kt,hn]⟩⟩
theorem y4 (vR vP:Value) (y:Ly) (vs:List Value) (m:Rat) (w:World) (hR:IQ w vR y.rk vs) (hn:y.n<=1000000) (hok:JA y.n y.rk) (hm0:0<=m) (hK:2*(L m+xX y.rk+2)<=MX) (hL:A5 y.n MX zC (re y.rk m)) (hLp:∀t∈y.rk,∀p∈t.ps,L p.q+L m+2*xX y.rk+2<=MX):
  lW Tryz.prog 49 #[NL y.n vR vP y.tot,lu (j9 m)] w λr w'=>∃LO,Gl j6 32 3 r (ku y.n λk=>j9 (lJ y m k)) LO/\St w w' LO:=by
 have hS:=St.init w;obtain⟨n,hn'⟩:∃n,n=y.n:=⟨_,rfl⟩;rw[<-hn']at hn hok hL⊢;refine enter Tryz.func49 rfl Tryz.ntmps49 rfl ?_;refine jr ?_;refine jh (lj (new:=pK n vR vP y.tot) rfl rfl hS ?_);intro b2 wz1 hS hBz1;refine jh (lj (new:=j6 (j9 m)) rfl rfl hS ?_);intro b3 wz2 hS hBz2;refine J3 ?_;refine jh (lU (enc:=j6) (n:=n) kP rfl rfl kM rfl oO oO oO oO hS ?_);intro b8 wz3 hS hBz3;refine jp (kQ rfl (C9 _ _ _) (jh (lj (new:= .slice (some ⟨b8,0,none⟩) n n::j6 kP) rfl rfl hS ?_)));intro b10 wz4 hS hBz4;refine V1 ?_;replace hS:St w _ ((b10,167,.slice (some ⟨b8,0,none⟩) n n::j6 kP)::(b8,32,(List.replicate n kP).flatMap j6)::[(b3,32,j6 (j9 m)),(b2,112,pK n vR vP y.tot)]):=hS;rw[lE,lA]at hS;have hG:Gl j6 32 3 (.slice (some ⟨b8,0,none⟩) n n) (ku n λk=>j9 (zC.c k)) [(b8,32,(ku n λk=>j9 (zC.c k)).flatMap j6)]:=pN (ka _ _) oO;replace hS:St w _ ((mW b10 (.slice (some ⟨b8,0,none⟩) n n) zC.r::[(b3,32,j6 (j9 m)),(b2,112,pK n vR vP y.tot)])++[(b8,32,(ku n λk=>j9 (zC.c k)).flatMap j6)]):=hS.perm (List.Perm.cons _ (ay (l₁:=[_])));refine J4 ?_;refine jh (j7 Tryz.call87 rfl (Me b10 n _ vR y.rk vs m zC [(b3,32,j6 (j9 m)),(b2,112,pK n vR vP y.tot)] _ w _ (λwx A B h=>hR.j5 h.j5) hG hS hok hm0 hK hL hLp) ?_);rintro r w3 ⟨rfl,LC,hG,hS⟩;refine J1 ?_;refine jp (mN rfl ?_);refine J3 ?_;refine jt ?_;refine kD rfl rfl ?_;exact⟨LC,hG,hS.drop (ao _ _)⟩
theorem Hw (vR vP:Value) (y:Ly) (vs:List Value) (m:Rat) (w:World) (hR:IQ w vR y.rk vs) (hn:y.n<=1000000) (hok:JA y.n y.rk) (hm0:0<=m) (hK:2*(L m+xX y.rk+2)<=MX) (hL:A5 y.n MX zC (qz y.rk m 1)) (hLp:∀t∈y.rk,∀p∈t.ps,L p.q+2*xX y.rk+3<=MX):
  lW Tryz.prog 135 #[NL y.n vR vP y.tot,lu (j9 m)] w λr w'=>∃LO,Gl j6 32 3 r (ku y.n λk=>j9 (mr y m k)) LO/\St w w' LO:=by
 have hS:=St.init w;have hL1:L 1<=1:=Fk (n:=1) dD;obtain⟨n,hn'⟩:∃n,n=y.n:=⟨_,rfl⟩;rw[<-hn']at hn hok hL⊢;refine enter Tryz.func135 rfl Tryz.ntmps135 rfl ?_;refine jr ?_;refine jh (lj (new:=pK n vR vP y.tot) rfl rfl hS ?_);intro b2 wz1 hS hBz1;refine jh (lj (new:=j6 (j9 m)) rfl rfl hS ?_);intro b3 wz2 hS hBz2;refine J3 ?_;refine jh (lU (enc:=j6) (n:=n) kP rfl rfl kM rfl oO oO oO oO hS ?_);intro b8 wz3 hS hBz3;refine jp (kQ rfl (C9 _ _ _) (jh (lj (new:= .slice (some ⟨b8,0,none⟩) n n::j6 kP) rfl rfl hS ?_)));intro b10 wz4 hS hBz4;refine V1 ?_;replace hS:St w _ ((b10,167,.slice (some ⟨b8,0,none⟩) n n::j6 kP)::(b8,32,(List.replicate n kP).flatMap j6)::[(b3,32,j6 (j9 m)),(b2,112,pK n vR vP y.tot)]):=hS;rw[lE,lA]at hS;have hG:Gl j6 32 3 (.slice (some ⟨b8,0,none⟩) n n) (ku n λk=>j9 (zC.c k)) [(b8,32,(ku n λk=>j9 (zC.c k)).flatMap j6)]:=pN (ka _ _) oO;replace hS:St w _ ((mW b10 (.slice (some ⟨b8,0,none⟩) n n) zC.r::[(b3,32,j6 (j9 m)),(b2,112,pK n vR vP y.tot)])++[(b8,32,(ku n λk=>j9 (zC.c k)).flatMap j6)]):=hS.perm (List.Perm.cons _ (ay (l₁:=[_])));refine ja ?_;refine kE [jo 0,ju 1,ju 2,jo 4,jv 3,jw 5] kR kR hS ?_;intro wz5 hS hBz5;refine J4 ?_;refine jn rfl (j7 Tryz.call33 rfl (mH 1 _ dD dD) ?_);rintro r w2 ⟨rfl,hB2⟩;refine⟨hB2,?_⟩;rw[show((1:Int):Rat)=1 from rfl];replace hS:=hS.ko hB2;refine jx rfl (j7 Tryz.call136 rfl (Ee b10 n _ vR y.rk vs m 1 zC [(b3,32,j6 (j9 m)),(b2,112,pK n vR vP y.tot)] _ w _ (λwx A B h=>hR.j5 h.j5) hG hS hok hm0 hK hL oO (λt ht p hp=>by have:=hLp t ht p hp;omega)) ?_);rintro r w3 ⟨rfl,LC,hG,hS⟩;refine J1 ?_;refine jp (mN rfl ?_);refine J3 ?_;refine jt ?_;refine kD rfl rfl ?_;exact⟨LC,hG,hS.drop (ao _ _)⟩
def DH (Z:List Nat) (f:Nat->Rat) (k:Nat):Rat:=if k∈Z then 0 else f k
def qW (y:Ly) (f:Nat->Rat):Nat->Rat:=DH (y.pl.flatMap Pl.mem) f
theorem pd:kP=j9 0:=by rw[oC];rfl
theorem PL (n:Nat) (Z:List Nat) (f:Nat->Rat) (i:Nat):(ku n λk=>j9 (DH Z f k)).set i kP=ku n λk=>j9 (DH (Z++[i]) f k):=by
 rw[nx];refine kB λk _=> ?_;unfold DH;by_cases h:k=i
 ·rw[aj h,aj (by rw[h];simp),pd]
 ·rw[ah h];have:k∈Z++[i]↔k∈Z:=by simp[h]
  simp only[this]
theorem Ng {α β:Type} (l:List α) (d:α) (f:α->List β) {i:Nat} (h:i<l.length):(l.take (i+1)).flatMap f=(l.take i).flatMap f++f (l.getD i d):=by
 rw[lC l i d h,dk,cw,gK,aK]
theorem GY (vR vP va:Value) (y:Ly) (pv:List (Value×Value)) (lv:List (List Value)) (f:Nat->Rat) (w:World) (hP:VD w vP y.pl pv lv) (hA:Sl j6 3 w va (ku y.n λk=>j9 (f k))) (hm:∀p∈y.pl,∀i∈p.mem,i<y.n) (hn:y.n<=1000):
  lW Tryz.prog 86 #[NL y.n vR vP y.tot,va] w λr w'=>∃br vc LC,r= .pointer (some ⟨br,0,none⟩)/\Gl j6 32 3 vc (ku y.n λk=>j9 (qW y f k)) LC/\St w w' ([mW br vc 0]++LC):=by
 have hS:=St.init w;obtain⟨n,hn'⟩:∃n,n=y.n:=⟨_,rfl⟩;rw[<-hn']at hn hA hm⊢;have htl:=ka n λk=>j9 (f k);have hpm:=hP.sl.maxLen;have hpl:=hP.len;rw[hpl]at hpm;refine enter Tryz.func86 rfl Tryz.ntmps86 rfl ?_;refine jr ?_;refine jh (lj (new:=pK n vR vP y.tot) rfl rfl hS ?_);intro b2 wz1 hS hBz1;refine J2 ?_;refine jh (j7 Tryz.call47 rfl (H8 va _ _ (hA.j5 hS.j5) oO) ?_);rintro r w3 ⟨LC,hG,hS3⟩;replace hS:=hS.join hS3;obtain⟨a,c,rfl⟩:=hG.len;rw[htl]at hG⊢;refine jp (kQ rfl (C9 _ _ _) (jh (lj (new:= .slice a n c::j6 kP) rfl rfl hS ?_)));intro b5 wz2 hS hBz2;refine V1 ?_;replace hS:St w _ ((b5,167,.slice a n c::j6 kP)::(LC++[(b2,112,pK n vR vP y.tot)])):=hS;replace hS:St w _ ([(b5,167,.slice a n c::j6 kP),(b2,112,pK n vR vP y.tot)]++LC):=hS.perm (List.Perm.cons _ ay);rw[lA]at hS;refine ja ?_;refine nb (λρ'=>ρ' 2= .pointer (some ⟨b2,0,none⟩)/\ρ' 5= .pointer (some ⟨b5,0,none⟩)/\True) ⟨rfl,rfl,trivial⟩ ?_;rintro ρk3 ⟨hk3_2,hk3_5,-⟩;refine J2 ?_;refine jp (kj rfl (hP.j5 hS.j5).sl ⟨_,Tryz.underlying110⟩ ?_);refine J1 ?_;refine jb ?_;rw[hpl];have hG0:Gl j6 32 3 (.slice a n c) (ku n λk=>j9 (DH ((y.pl.take 0).flatMap Pl.mem) f k)) LC:=hG;refine kz (λρ w'=>ρ 5=pB b5/\∃LC,Gl j6 32 3 (.slice a n c) (ku n λk=>j9 (qW y f k)) LC/\St w w' ([mW b5 (.slice a n c) 0]++LC)) ?_ ?_
 ·refine ja ?_;refine kx (σ:=Nat) (λi ρ w'=>i<=y.pl.length/\ρ 5=pB b5/\ρ 15=vP/\ρ 16=iB y.pl.length/\ρ 17=iB i/\∃LC,Gl j6 32 3 (.slice a n c) (ku n λk=>j9 (DH ((y.pl.take i).flatMap Pl.mem) f k)) LC/\St w w' ([mW b5 (.slice a n c) 0]++LC)) (λi=>y.pl.length-i) 0
   ⟨ax _,jY,rfl,rfl,rfl,LC,hG0,hS.drop (bk (List.Sublist.cons_cons _ (gJ _)) (bJ _))⟩ ?_
  clear hS hG hG0;rintro i ρ w4 ⟨hi,h5,h15,h16,h17,LC,hG,hS⟩;refine V1 ?_;by_cases hlt:i<y.pl.length
  ·refine V1 ?_;obtain⟨p,hp⟩:=jz (y.pl.getD i wC);have hpm':p∈y.pl:=by rw[hp];exact kH _ _ _ hlt
   have hmi:=hP.mem i hlt;have hli:=(hP.ld i hlt).sl;obtain⟨v2,hv2⟩:=jz (pv.getD i pW);rw[<-hp,<-hv2]at hmi hli;obtain⟨ma,mc,hme,_⟩:=hmi.form;obtain⟨la,lc,hle,_⟩:=hli.form;obtain⟨u1,u2⟩:=v2;dsimp only at hmi hme hle;subst hme hle;have hnl:=sc p.mem;have hmm:=hmi.maxLen;rw[hnl]at hmm hmi hv2;have htf:=Ng y.pl wC Pl.mem hlt;rw[<-hp]at htf;refine jr ?_;refine jp (kp (i:=i) h15 h17 (hP.j5 hS.j5).sl oO dO Ap (jq (ky (v:= .agg #[.slice ma p.mem.length mc,.slice la (p.ld.zip (lv.getD i [])).length lc]) (i:=i) pW rfl qG (hP.j5 hS.j5).sl oO rfl (by rw[<-hv2];rfl) (.inl rfl) ?_)));refine J1 ?_;intro b7 wz4 hS hBz4;refine J1 ?_;intro wz5 hS;refine ja ?_;replace hS:St w _ ([(b7,160,[.slice ma p.mem.length mc,.slice la (p.ld.zip (lv.getD i [])).length lc]),mW b5 (.slice a n c) 0]++LC):=hS;refine J2 ?_;refine jp (kj rfl (hmi.j5 hS.j5) ⟨_,Tryz.underlying46⟩ ?_);refine J1 ?_;refine jb ?_;rw[hnl];refine kz (λρ w'=>ρ 5=pB b5/\ρ 15=vP/\ρ 16=iB y.pl.length/\ρ 17=iB i/\∃LC,Gl j6 32 3 (.slice a n c) (ku n λk=>j9 (DH ((y.pl.take (i+1)).flatMap Pl.mem) f k)) LC/\St w w' ([mW b5 (.slice a n c) 0]++LC)) ?_ ?_
   ·rw[htf];obtain⟨Z,hZ⟩:=jz ((y.pl.take i).flatMap Pl.mem);rw[<-hZ]at hG⊢;have hG0:Gl j6 32 3 (.slice a n c) (ku n λk=>j9 (DH (Z++p.mem.take 0) f k)) LC:=by rw[fc,aK];exact hG
    refine ja ?_;refine kx (σ:=Nat) (λj ρ w'=>j<=p.mem.length/\ρ 5=pB b5/\ρ 15=vP/\ρ 16=iB y.pl.length/\ρ 17=iB i/\ρ 22= .slice ma p.mem.length mc/\ρ 23=iB p.mem.length/\ρ 24=iB j/\∃LC,Gl j6 32 3 (.slice a n c) (ku n λk=>j9 (DH (Z++p.mem.take j) f k)) LC/\St w w' ([mW b5 (.slice a n c) 0]++LC)) (λj=>p.mem.length-j) 0
     ⟨ax _,jY,jY,jY,jY,rfl,rfl,rfl,LC,hG0,hS.drop (ab _ _)⟩ ?_
    clear hS hG hG0 h5 h15 h16 h17;rintro j ρ w5 ⟨hj,h5,h15,h16,h17,h22,h23,h24,LC,hG,hS⟩;have htg:=ka n λk=>j9 (DH (Z++p.mem.take j) f k);refine V1 ?_;by_cases hjl:j<p.mem.length
    ·refine V1 ?_;obtain⟨k,hk⟩:=jz (p.mem.getD j 0);have hkn:k<n:=hm p hpm' k (by rw[hk];exact kH _ _ _ hjl);have hni:(nI p.mem).getD j 0=(k:Int):=by unfold nI;rw[getD_map _ _ 0 _ hjl,hk]
     have ht:=lC p.mem j 0 hjl;rw[<-hk]at ht;refine jr ?_;refine jp (kp (i:=j) h22 h24 (hmi.j5 hS.j5) oO dO pH (jq (ky (i:=j) 0 rfl ni (hmi.j5 hS.j5) dO rfl rfl (.inr rfl) ?_)));refine V1 ?_;rw[hni];refine J1 ?_;refine jp (mN rfl ?_);refine J3 ?_;refine jp (kQ rfl pI (jp (kp (i:=k) rfl rfl (hG.sl hS kt) oO dO kM (jh (tX (i:=k) kP kt rfl rfl ki hG hS oO rfl rfl ?_)))));intro wz6 hS;refine ja ?_;obtain⟨LC2,hG,hS⟩:=hS;rw[PL,aF,<-ht]at hG;refine V2 ?_;exact⟨j+1,_,rfl,⟨hjl,jY,jY,jY,jY,jY,jY,vi rfl oO,LC2,hG,hS⟩,oO⟩
    ·refine J1 ?_;refine jt ?_;rw[aU oO]at hG;exact⟨_,rfl,h5,h15,h16,h17,LC,hG,hS⟩
   clear hS hG h5 h15 h16 h17;rintro ρ w5 ⟨h5,h15,h16,h17,LC,hG,hS⟩;refine V2 ?_;exact⟨i+1,_,rfl,⟨hlt,jY,jY,jY,vi rfl oO,LC,hG,hS⟩,oO⟩
  ·refine J1 ?_;refine jt ?_;obtain rfl:i=y.pl.length:=oO;rw[bK]at hG;exact⟨_,rfl,h5,LC,hG,hS⟩
 clear hS hG hG0;rintro ρ w4 ⟨h5,LC,hG,hS⟩;refine J2 ?_;refine jt ?_;refine kD rfl rfl ?_;exact⟨b5,_,LC,rfl,hG,hS⟩
def Ws (y:Ly) (m:Rat) (s:Rs) (p:Pl):Rs:=qN s (re p.ld (oq p.mem (lJ y m)))
def sT (y:Ly) (m:Rat) (i:Nat):Rs:=(y.pl.take i).foldl (Ws y m) ⟨qW y (lJ y m),0⟩
def Vr (y:Ly) (m:Rat) (s:Rs) (p:Pl):Rs:=qN s (qz p.ld (oq p.mem (lJ y m)) (oq p.mem (mr y m)))
def sa (y:Ly) (m:Rat) (i:Nat):Rs:=(y.pl.take i).foldl (Vr y m) ⟨qW y (mr y m),0⟩
theorem NC (y:Ly) (m:Rat) {i:Nat} (h:i<y.pl.length):sT y m (i+1)=Ws y m (sT y m i) (y.pl.getD i wC):=by
 unfold sT;rw[lC y.pl i wC h,ey];rfl
theorem Np (y:Ly) (m:Rat) {i:Nat} (h:i<y.pl.length):sa y m (i+1)=Vr y m (sa y m i) (y.pl.getD i wC):=by
 unfold sa;rw[lC y.pl i wC h,ey];rfl
structure Oy (y:Ly) (m:Rat):Prop where
 n:y.n<=1000
 rk:JA y.n y.rk
 m0:0<=m
 k:2*(L m+xX y.rk+2)<=MX
 l:A5 y.n MX zC (re y.rk m)
 lp:∀t∈y.rk,∀p∈t.ps,L p.q+L m+2*xX y.rk+2<=MX
 mem:∀p∈y.pl,∀i∈p.mem,i<y.n
 ld:∀p∈y.pl,JA y.n p.ld
 s:∀p∈y.pl,GP p.mem (lJ y m)+1<=MX
 p0:∀p∈y.pl,0<=oq p.mem (lJ y m)
 pk:∀p∈y.pl,2*(L (oq p.mem (lJ y m))+xX p.ld+2)<=MX
 pl:∀i,i<y.pl.length->A5 y.n MX (sT y m i) (re (y.pl.getD i wC).ld (oq (y.pl.getD i wC).mem (lJ y m)))
 pp:∀p∈y.pl,∀t∈p.ld,∀q∈t.ps,L q.q+L (oq p.mem (lJ y m))+2*xX p.ld+2<=MX
structure ID (y:Ly) (m:Rat):Prop where
 d:Oy y m
 l:A5 y.n MX zC (qz y.rk m 1)
 lp:∀t∈y.rk,∀p∈t.ps,L p.q+2*xX y.rk+3<=MX
 s:∀p∈y.pl,GP p.mem (mr y m)+1<=MX
 pl:∀i,i<y.pl.length->A5 y.n MX (sa y m i) (qz (y.pl.getD i wC).ld (oq (y.pl.getD i wC).mem (lJ y m)) (oq (y.pl.getD i wC).mem (mr y m)))
 pr:∀p∈y.pl,L (oq p.mem (mr y m))+xX p.ld<=MX
 pp:∀p∈y.pl,∀t∈p.ld,∀q∈t.ps,L q.q+L (oq p.mem (mr y m))+2*xX p.ld+2<=MX
theorem WJ {α:Type} (x:α) (A LC:List α):(([x]++LC)++A).Perm ((x::A)++LC):=List.Perm.cons _ ay
theorem yF (vR vP:Value) (y:Ly) (vs:List Value) (pv:List (Value×Value)) (lv:List (List Value)) (m:Rat) (w:World) (hY:QH w vR vP y vs pv lv) (hh:Oy y m):
  lW Tryz.prog 48 #[NL y.n vR vP y.tot,lu (j9 m)] w λr w'=>∃v LO,r= .tuple #[v,lu (j9 (sT y m y.pl.length).r)]/\Gl j6 32 3 v (ku y.n λk=>j9 ((sT y m y.pl.length).c k)) LO/\St w w' LO:=by
 have hS:=St.init w;have hR:=hY.rk;have hP:=hY.pl;have hpm:=hP.sl.maxLen;have hpl:=hP.len;rw[hpl]at hpm;have hd:=hh;have hn:=hd.n;obtain⟨n,hn'⟩:∃n,n=y.n:=⟨_,rfl⟩;have hgross:=λw h=>y4 vR vP y vs m w h oO hd.rk hd.m0 hd.k hd.l hd.lp;have htake:=λva w h1 h2=>GY vR vP va y pv lv (lJ y m) w h1 h2 hd.mem hn;have hrk:=hd.rk;have hmem:=hd.mem;have hldo:=hd.ld;have hpl':=hd.pl;rw[<-hn']at hn hgross htake hmem hldo hpl'⊢;obtain⟨cl,hcl⟩:=jz (pK n vR vP y.tot);refine enter Tryz.func48 rfl Tryz.ntmps48 rfl ?_;refine jr ?_;refine jh (lj (new:=pK n vR vP y.tot) rfl rfl hS ?_);intro b2 wz1 hS hBz1;refine jh (lj (new:=j6 (j9 m)) rfl rfl hS ?_);intro b3 wz2 hS hBz2;refine J2 ?_;intro b5 wz3 hS hBz3;refine ja ?_;replace hS:St w _ [(b5,32,j6 kP),(b3,32,j6 (j9 m)),(b2,112,pK n vR vP y.tot)]:=hS;refine J2 ?_;refine jh (j7 Tryz.call49 rfl (hgross _ (hR.j5 hS.j5)) ?_);rintro vg w3 ⟨LG,hg,hB3⟩;replace hg:=hg.sl (H:=[]) hB3 kt;replace hB3:=hB3.j5;replace hS:=hS.ko hB3;refine V1 ?_;have hB0:=hS.j5;have hS0:=hS;have hP3:=hP.j5 hB0;refine J2 ?_;refine jh (j7 Tryz.call86 rfl (htake vg _ (hP.j5 hS.j5) hg) ?_);rintro r w4 ⟨br,vc,LC,rfl,hG,hS4⟩;replace hS:St w _ ([mW br vc 0,(b5,32,j6 kP),(b3,32,j6 (j9 m)),(b2,112,pK n vR vP y.tot)]++LC):=(hS.join hS4).perm (WJ _ _ _);refine V1 ?_;refine nb (λρ'=>ρ' 2= .pointer (some ⟨b2,0,none⟩)/\ρ' 5= .pointer (some ⟨b5,0,none⟩)/\ρ' 6=vg/\ρ' 7= .pointer (some ⟨br,0,none⟩)/\True) ⟨rfl,rfl,rfl,rfl,trivial⟩ ?_;rintro ρk4 ⟨hk4_2,hk4_5,hk4_6,hk4_7,-⟩;refine J2 ?_;refine jp (kj rfl (hP.j5 hS.j5).sl ⟨_,Tryz.underlying110⟩ ?_);refine J1 ?_;refine jb ?_;rw[hpl];replace hS:=hS4;clear hS4;refine kz (λρ w'=>ρ 5=pB b5/\ρ 7=pB br/\∃LC,Gl j6 32 3 vc (ku n λk=>j9 ((sT y m y.pl.length).c k)) LC/\St w3 w' ([mW br vc (sT y m y.pl.length).r]++LC)) ?_ ?_
 ·refine ja ?_;refine kx (σ:=Nat) (λi ρ w'=>i<=y.pl.length/\ρ 5=pB b5/\ρ 6=vg/\ρ 7=pB br/\ρ 17=vP/\ρ 18=iB y.pl.length/\ρ 19=iB i/\∃LC,Gl j6 32 3 vc (ku n λk=>j9 ((sT y m i).c k)) LC/\St w3 w' ([mW br vc (sT y m i).r]++LC)) (λi=>y.pl.length-i) 0
   ⟨ax _,jY,jY,jY,rfl,rfl,rfl,LC,hG,hS⟩ ?_
  clear hS hG;rintro i ρ w6 ⟨hi,h5,h6,h7,h17,h18,h19,LC,hG,hS⟩;refine V1 ?_;by_cases hlt:i<y.pl.length
  ·refine V1 ?_;obtain⟨p,hp⟩:=jz (y.pl.getD i wC);have hpm':p∈y.pl:=by rw[hp];exact kH _ _ _ hlt
   have hmi:=hP3.mem i hlt;have hld:=hP3.ld i hlt;obtain⟨v2,hv2⟩:=jz (pv.getD i pW);obtain⟨lvi,hlvi⟩:=jz (lv.getD i []);rw[<-hp,<-hv2]at hmi hld;rw[<-hlvi]at hld;have hli:=hld.sl;obtain⟨ma,mc,hme,_⟩:=hmi.form;obtain⟨la,lc,hle,_⟩:=hli.form;obtain⟨u1,u2⟩:=v2;dsimp only at hmi hld hli hme hle;obtain⟨ll,hll⟩:=jz ((p.ld.zip lvi).length);rw[<-hll]at hle;obtain⟨ml,hml⟩:=jz ((nI p.mem).length);rw[<-hml]at hme;subst hme hle;have hsucc:=NC y m hlt;have hplx:=hpl' i hlt;rw[<-hp]at hsucc hplx;refine jr ?_;refine jp (kp (i:=i) h17 h19 (hP3.j5 hS.j5).sl oO dO Ap (jq (ky (v:= .agg #[.slice ma ml mc,.slice la ll lc]) (i:=i) pW rfl qG (hP3.j5 hS.j5).sl oO rfl (by rw[<-hv2];rfl) (.inl rfl) ?_)));refine J1 ?_;intro b9 wz5 hS hBz5;refine J1 ?_;intro wz6 hS;refine ja ?_;replace hS:St w3 _ ([(b9,160,[.slice ma ml mc,.slice la ll lc]),mW br vc (sT y m i).r]++LC):=hS;refine ja ?_;refine kE [jo 0,ju 1,ju 2,jo 3,jo 5,jv 4,jw 6] kR kR hS ?_;intro wz7 hS hBz7;refine J5 ?_;refine jn rfl (j7 Tryz.call88 rfl (uQ _ _ vg p.mem n (lJ y m) _ (hmi.j5 hS.j5) (hg.j5 hS.j5) (hmem p hpm') (hd.s p hpm')) ?_);rintro r w7 ⟨rfl,hB7⟩;refine⟨hB7,?_⟩;replace hS:=hS.ko hB7;refine jx rfl (j7 Tryz.call87 rfl (Me br n vc _ p.ld lvi (oq p.mem (lJ y m)) (sT y m i) [(b9,160,[.slice ma ml mc,.slice la ll lc])] LC w3 _ (λwx A B h=>hld.j5 h.j5) hG (hS.perm (bQ _ (List.Perm.swap _ _ _))) (hldo p hpm') (hd.p0 p hpm') (hd.pk p hpm') hplx (hd.pp p hpm')) ?_);rintro r w8 ⟨rfl,LC2,hG,hS⟩;rw[show qN (sT y m i) (re p.ld (oq p.mem (lJ y m)))=sT y m (i+1)from hsucc.symm]at hG hS;refine V2 ?_;exact⟨i+1,_,rfl,⟨hlt,jY,jY,jY,jY,jY,vi rfl oO,LC2,hG,(hS.perm (bQ _ (List.Perm.swap _ _ _))).drop (ab _ _)⟩,oO⟩
  ·refine J1 ?_;refine jt ?_;obtain rfl:i=y.pl.length:=oO;exact⟨_,rfl,h5,h7,LC,hG,hS⟩
 clear hS hG;rintro ρ w6 ⟨h5,h7,LC,hG,hS⟩;replace hS:=(hS0.join hS).perm (WJ _ _ _);refine ja ?_;refine kE [jo 0,jo 1,jo 2,ju 3,jo 4,jo 5,jo 6,ju 7,jo 8,jw 9] kR kR hS ?_;intro wz8 hS hBz8;refine J1 ?_;refine jl rfl (mN rfl ?_);refine J3 ?_;refine jl rfl (mN rfl ?_);refine J4 ?_;intro wz9 hS;refine jt ?_;refine tY (k:=1) rfl h5 rfl ki hS rfl rfl ?_;exact⟨_,LC,rfl,hG,hS.drop (ao [_,_,_,_] LC)⟩
theorem AQ (vR vP:Value) (y:Ly) (vs:List Value) (pv:List (Value×Value)) (lv:List (List Value)) (m:Rat) (w:World) (hY:QH w vR vP y vs pv lv) (hh:ID y m):
  lW Tryz.prog 92 #[NL y.n vR vP y.tot,lu (j9 m)] w λr w'=>∃v LO,r= .tuple #[v,lu (j9 (sa y m y.pl.length).r)]/\Gl j6 32 3 v (ku y.n λk=>j9 ((sa y m y.pl.length).c k)) LO/\St w w' LO:=by
 have hS:=St.init w;have hR:=hY.rk;have hP:=hY.pl;have hpm:=hP.sl.maxLen;have hpl:=hP.len;rw[hpl]at hpm;have hd:=hh.d;have hn:=hd.n;obtain⟨n,hn'⟩:∃n,n=y.n:=⟨_,rfl⟩;have hgross:=λw h=>y4 vR vP y vs m w h oO hd.rk hd.m0 hd.k hd.l hd.lp;have hrates:=λw h=>Hw vR vP y vs m w h oO hd.rk hd.m0 hd.k hh.l hh.lp;have htake:=λva w h1 h2=>GY vR vP va y pv lv (mr y m) w h1 h2 hd.mem hn;have hrk:=hd.rk;have hmem:=hd.mem;have hldo:=hd.ld;have hpl':=hh.pl;rw[<-hn']at hn hgross htake hmem hldo hpl' hrates⊢;obtain⟨cl,hcl⟩:=jz (pK n vR vP y.tot);refine enter Tryz.func92 rfl Tryz.ntmps92 rfl ?_;refine jr ?_;refine jh (lj (new:=pK n vR vP y.tot) rfl rfl hS ?_);intro b2 wz1 hS hBz1;refine jh (lj (new:=j6 (j9 m)) rfl rfl hS ?_);intro b3 wz2 hS hBz2;refine J2 ?_;intro b5 wz3 hS hBz3;refine ja ?_;replace hS:St w _ [(b5,32,j6 kP),(b3,32,j6 (j9 m)),(b2,112,pK n vR vP y.tot)]:=hS;refine ja ?_;refine kE [ju 0,ju 1,ju 3,ju 4,jv 2,jv 5,jo 6,jo 7] kR kR hS ?_;intro wz4 hS hBz4;refine J4 ?_;refine jn rfl (j7 Tryz.call49 rfl (hgross _ (hR.j5 hS.j5)) ?_);rintro vg w3 ⟨LG,hg,hB3⟩;refine⟨hB3.j5,?_⟩;replace hg:=hg.sl (H:=[]) hB3 kt;replace hB3:=hB3.j5;replace hS:=hS.ko hB3;refine jn rfl (j7 Tryz.call135 rfl (hrates _ (hR.j5 hS.j5)) ?_);rintro vr w3' ⟨LR,hr,hB3'⟩;refine⟨hB3'.j5,?_⟩;replace hr:=hr.sl (H:=[]) hB3' kt;replace hB3':=hB3'.j5;replace hS:=hS.ko hB3';replace hg:=hg.j5 hB3';refine V2 ?_;have hB0:=hS.j5;have hS0:=hS;have hP3:=hP.j5 hB0;refine J2 ?_;refine jh (j7 Tryz.call86 rfl (htake vr _ (hP.j5 hS.j5) hr) ?_);rintro r w4 ⟨br,vc,LC,rfl,hG,hS4⟩;replace hS:St w _ ([mW br vc 0,(b5,32,j6 kP),(b3,32,j6 (j9 m)),(b2,112,pK n vR vP y.tot)]++LC):=(hS.join hS4).perm (WJ _ _ _);refine V1 ?_;refine nb (λρ'=>ρ' 2= .pointer (some ⟨b2,0,none⟩)/\ρ' 5= .pointer (some ⟨b5,0,none⟩)/\ρ' 6=vg/\ρ' 7=vr/\ρ' 8= .pointer (some ⟨br,0,none⟩)/\True) ⟨rfl,rfl,rfl,rfl,rfl,trivial⟩ ?_;rintro ρk5 ⟨hk5_2,hk5_5,hk5_6,hk5_7,hk5_8,-⟩;refine J2 ?_;refine jp (kj rfl (hP.j5 hS.j5).sl ⟨_,Tryz.underlying110⟩ ?_);refine J1 ?_;refine jb ?_;rw[hpl];replace hS:=hS4;clear hS4;refine kz (λρ w'=>ρ 5=pB b5/\ρ 8=pB br/\∃LC,Gl j6 32 3 vc (ku n λk=>j9 ((sa y m y.pl.length).c k)) LC/\St w3' w' ([mW br vc (sa y m y.pl.length).r]++LC)) ?_ ?_
 ·refine ja ?_;refine kx (σ:=Nat) (λi ρ w'=>i<=y.pl.length/\ρ 5=pB b5/\ρ 6=vg/\ρ 7=vr/\ρ 8=pB br/\ρ 21=vP/\ρ 22=iB y.pl.length/\ρ 23=iB i/\∃LC,Gl j6 32 3 vc (ku n λk=>j9 ((sa y m i).c k)) LC/\St w3' w' ([mW br vc (sa y m i).r]++LC)) (λi=>y.pl.length-i) 0
   ⟨ax _,jY,jY,jY,jY,rfl,rfl,rfl,LC,hG,hS⟩ ?_
  clear hS hG;rintro i ρ w6 ⟨hi,h5,h6,h7,h8,h21,h22,h23,LC,hG,hS⟩;refine V1 ?_;by_cases hlt:i<y.pl.length
  ·refine V1 ?_;obtain⟨p,hp⟩:=jz (y.pl.getD i wC);have hpm':p∈y.pl:=by rw[hp];exact kH _ _ _ hlt
   have hmi:=hP3.mem i hlt;have hld:=hP3.ld i hlt;obtain⟨v2,hv2⟩:=jz (pv.getD i pW);obtain⟨lvi,hlvi⟩:=jz (lv.getD i []);rw[<-hp,<-hv2]at hmi hld;rw[<-hlvi]at hld;have hli:=hld.sl;obtain⟨ma,mc,hme,_⟩:=hmi.form;obtain⟨la,lc,hle,_⟩:=hli.form;obtain⟨u1,u2⟩:=v2;dsimp only at hmi hld hli hme hle;obtain⟨ll,hll⟩:=jz ((p.ld.zip lvi).length);rw[<-hll]at hle;obtain⟨ml,hml⟩:=jz ((nI p.mem).length);rw[<-hml]at hme;subst hme hle;have hsucc:=Np y m hlt;have hplx:=hpl' i hlt;rw[<-hp]at hsucc hplx;refine jr ?_;refine jp (kp (i:=i) h21 h23 (hP3.j5 hS.j5).sl oO dO Ap (jq (ky (v:= .agg #[.slice ma ml mc,.slice la ll lc]) (i:=i) pW rfl qG (hP3.j5 hS.j5).sl oO rfl (by rw[<-hv2];rfl) (.inl rfl) ?_)));refine J1 ?_;intro b9 wz6 hS hBz6;refine J1 ?_;intro wz7 hS;refine ja ?_;replace hS:St w3' _ ([(b9,160,[.slice ma ml mc,.slice la ll lc]),mW br vc (sa y m i).r]++LC):=hS;refine ja ?_;refine kE [jo 0,ju 1,ju 2,jo 3,ju 5,jo 6,jo 8,jv 4,jv 7,jw 9] kR kR hS ?_;intro wz8 hS hBz8;refine J7 ?_;refine jn rfl (j7 Tryz.call88 rfl (uQ _ _ vg p.mem n (lJ y m) _ (hmi.j5 hS.j5) (hg.j5 hS.j5) (hmem p hpm') (hd.s p hpm')) ?_);rintro r w7 ⟨rfl,hB7⟩;refine⟨hB7,?_⟩;replace hS:=hS.ko hB7;refine jn rfl (j7 Tryz.call88 rfl (uQ _ _ vr p.mem n (mr y m) _ (hmi.j5 hS.j5) (hr.j5 hS.j5) (hmem p hpm') (hh.s p hpm')) ?_);rintro r w7' ⟨rfl,hB7'⟩;refine⟨hB7',?_⟩;replace hS:=hS.ko hB7';refine jx rfl (j7 Tryz.call136 rfl (Ee br n vc _ p.ld lvi (oq p.mem (lJ y m)) (oq p.mem (mr y m)) (sa y m i) [(b9,160,[.slice ma ml mc,.slice la ll lc])] LC w3' _ (λwx A B h=>hld.j5 h.j5) hG (hS.perm (bQ _ (List.Perm.swap _ _ _))) (hldo p hpm') (hd.p0 p hpm') (hd.pk p hpm') hplx (hh.pr p hpm') (hh.pp p hpm')) ?_);rintro r w8 ⟨rfl,LC2,hG,hS⟩;rw[show qN (sa y m i) (qz p.ld (oq p.mem (lJ y m)) (oq p.mem (mr y m)))=sa y m (i+1)from hsucc.symm]at hG hS;refine V2 ?_;exact⟨i+1,_,rfl,⟨hlt,jY,jY,jY,jY,jY,jY,vi rfl oO,LC2,hG,(hS.perm (bQ _ (List.Perm.swap _ _ _))).drop (ab _ _)⟩,oO⟩
  ·refine J1 ?_;refine jt ?_;obtain rfl:i=y.pl.length:=oO;exact⟨_,rfl,h5,h8,LC,hG,hS⟩
 clear hS hG;rintro ρ w6 ⟨h5,h8,LC,hG,hS⟩;replace hS:=(hS0.join hS).perm (WJ _ _ _);refine ja ?_;refine kE [jo 0,jo 1,jo 2,ju 3,jo 4,jo 5,jo 6,ju 7,jo 8,jw 9] kR kR hS ?_;intro wz9 hS hBz9;refine J1 ?_;refine jl rfl (mN rfl ?_);refine J3 ?_;refine jl rfl (mN rfl ?_);refine J4 ?_;intro wz10 hS;refine jt ?_;refine tY (k:=1) rfl h5 rfl ki hS rfl rfl ?_;exact⟨_,LC,rfl,hG,hS.drop (ao [_,_,_,_] LC)⟩
theorem OT {α:Type} (A B C:List α):(A++B++C).Perm (A++C++B):=by
 rw[aF,aF];exact bU _ ay
def rJ (T:List Tr) (m:Rat):Rat:=(T.getD (md T m) r6).sm-rz T m
def zS (y:Ly) (m:Rat) (p:Pl):Prop:=md p.ld (oq p.mem (lJ y m))<p.ld.length/\0<oq p.mem (mr y m)
instance (y:Ly) (m:Rat) (p:Pl):Decidable (zS y m p):=by unfold zS;infer_instance
def x6 (y:Ly) (m:Rat) (p:Pl):Rat:=rJ p.ld (oq p.mem (lJ y m))/oq p.mem (mr y m)
def tD (y:Ly) (m:Rat) (o:Rat) (p:Pl):Rat:=if zS y m p then zw o (x6 y m p)else o
def wK (y:Ly) (m:Rat) (i:Nat):Rat:=(y.pl.take i).foldl (tD y m) (rJ y.rk m)
theorem M0 (y:Ly) (m:Rat) {i:Nat} (h:i<y.pl.length):wK y m (i+1)=tD y m (wK y m i) (y.pl.getD i wC):=by
 unfold wK;rw[lC y.pl i wC h,ey];rfl
structure Up (y:Ly) (m:Rat):Prop where
 s:ID y m
 g:∀p∈y.pl,L (rJ p.ld (oq p.mem (lJ y m)))+L (oq p.mem (mr y m))<=MX
 o:∀i,i<y.pl.length->L (wK y m i)+L (x6 y m (y.pl.getD i wC))<=MX
theorem P4 (vR vP:Value) (y:Ly) (vs:List Value) (pv:List (Value×Value)) (lv:List (List Value)) (m:Rat) (w:World) (hY:QH w vR vP y vs pv lv) (hh:Up y m):
  lW Tryz.prog 147 #[NL y.n vR vP y.tot,lu (j9 m)] w λr w'=>r=(if md y.rk m<y.rk.length then .tuple #[lu (j9 (wK y m y.pl.length)),.bool true]else .tuple #[lu kP,.bool false])/\Below w.heap.size w w':=by
 have hS:=St.init w;have hR:=hY.rk;have hP:=hY.pl;have hpm:=hP.sl.maxLen;have hpl:=hP.len;rw[hpl]at hpm;have hd:=hh.s.d;have hn:=hd.n;obtain⟨n,hn'⟩:∃n,n=y.n:=⟨_,rfl⟩;have hgross:=λw h=>y4 vR vP y vs m w h oO hd.rk hd.m0 hd.k hd.l hd.lp;have hrates:=λw h=>Hw vR vP y vs m w h oO hd.rk hd.m0 hd.k hh.s.l hh.s.lp;have hgap:=λw h=>Lx vR y.rk vs m w h hd.k;have hmem:=hd.mem;rw[<-hn']at hn hgross hrates hmem⊢;refine enter Tryz.func147 rfl Tryz.ntmps147 rfl ?_;refine jr ?_;refine jh (lj (new:=pK n vR vP y.tot) rfl rfl hS ?_);intro b2 wz1 hS hBz1;refine jh (lj (new:=j6 (j9 m)) rfl rfl hS ?_);intro b3 wz2 hS hBz2;refine J1 ?_;intro b4 wz3 hS hBz3;refine V1 ?_;replace hS:St w _ [(b4,32,j6 kP),(b3,32,j6 (j9 m)),(b2,112,pK n vR vP y.tot)]:=hS;refine J3 ?_;refine jh (j7 Tryz.call177 rfl (hgap _ (hR.j5 hS.j5)) ?_);rintro r w3 ⟨rfl,hB3⟩;replace hS:=hS.ko hB3;by_cases hlt:md y.rk m<y.rk.length
 case neg=>
  rw[ah hlt,ah hlt];refine J4 ?_;intro b6 wz4 hS hBz4;refine J1 ?_;intro wz5 hS;refine V3 ?_;refine k9 rfl (rfl) ?_;refine jr ?_;refine jp (kQ rfl pI ?_);refine J1 ?_;intro wz6 hS;refine J1 ?_;refine jt ?_;refine nj (k:=1) rfl rfl rfl ki hS rfl rfl ?_;exact⟨rfl,hS.j5⟩
 rw[aj hlt,aj hlt];obtain⟨g0,hg0⟩:=jz ((y.rk.getD (md y.rk m) r6).sm-rz y.rk m);have hs0:wK y m 0=g0:=hg0.symm;rw[<-hg0];refine J4 ?_;intro b6 wz7 hS hBz7;refine J1 ?_;intro wz8 hS;refine V1 ?_;refine nb (λρ'=>ρ' 2= .pointer (some ⟨b2,0,none⟩)/\ρ' 3= .pointer (some ⟨b3,0,none⟩)/\ρ' 4= .pointer (some ⟨b4,0,none⟩)/\ρ' 6= .pointer (some ⟨b6,0,none⟩)/\ρ' 7= .bool true/\True) ⟨rfl,rfl,rfl,rfl,rfl,trivial⟩ ?_;rintro ρk9 ⟨hk9_2,hk9_3,hk9_4,hk9_6,hk9_7,-⟩;refine V2 ?_;refine lx rfl (rfl) ?_;refine ja ?_;refine kE [ju 0,ju 1,ju 3,ju 4,jv 2,jv 5,jo 6,jo 7] kR kR hS ?_;intro wz10 hS hBz10;refine J4 ?_;refine jn rfl (j7 Tryz.call49 rfl (hgross _ (hR.j5 hS.j5)) ?_);rintro vg w4 ⟨LG,hg,hS4⟩;refine⟨hS4.j5,?_⟩;replace hS:St w _ ([(b6,32,j6 (j9 g0)),(b4,32,j6 kP),(b3,32,j6 (j9 m)),(b2,112,pK n vR vP y.tot)]++LG):=(hS.join hS4).perm ay;refine jn rfl (j7 Tryz.call135 rfl (hrates _ (hR.j5 hS.j5)) ?_);rintro vr w5 ⟨LR,hr,hS5⟩;refine⟨hS5.j5,?_⟩;replace hS:St w _ ([(b6,32,j6 (j9 g0)),(b4,32,j6 kP),(b3,32,j6 (j9 m)),(b2,112,pK n vR vP y.tot)]++LG++LR):=(hS.join hS5).perm ay;refine V2 ?_;refine nb (λρ'=>ρ' 2= .pointer (some ⟨b2,0,none⟩)/\ρ' 4= .pointer (some ⟨b4,0,none⟩)/\ρ' 6= .pointer (some ⟨b6,0,none⟩)/\ρ' 8=vg/\ρ' 9=vr/\True) ⟨hk9_2,hk9_4,hk9_6,rfl,rfl,trivial⟩ ?_;rintro ρk11 ⟨hk11_2,hk11_4,hk11_6,hk11_8,hk11_9,-⟩;refine J2 ?_;refine jp (kj rfl (hP.j5 hS.j5).sl ⟨_,Tryz.underlying110⟩ ?_);refine J1 ?_;refine jb ?_;rw[hpl];rw[<-hs0]at hS;refine kz (λρ w'=>ρ 4=pB b4/\ρ 6=pB b6/\St w w' [(b6,32,j6 (j9 (wK y m y.pl.length))),(b4,32,j6 kP)]) ?_ ?_
 ·refine ja ?_;refine kx (σ:=Nat) (λi ρ w'=>i<=y.pl.length/\ρ 4=pB b4/\ρ 6=pB b6/\ρ 8=vg/\ρ 9=vr/\ρ 34=vP/\ρ 35=iB y.pl.length/\ρ 36=iB i/\St w w' ([(b6,32,j6 (j9 (wK y m i))),(b4,32,j6 kP)]++LG++LR)) (λi=>y.pl.length-i) 0
   ⟨ax _,jY,jY,jY,jY,rfl,rfl,rfl,hS.drop (bk (bk (ap [_,_] [_,_]) (bJ _)) (bJ _))⟩ ?_
  clear hS hs0 hS4 hS5;rintro i ρ w6 ⟨hi,h4,h6,h8,h9,h34,h35,h36,hS⟩;refine V1 ?_;by_cases hil:i<y.pl.length
  ·refine V1 ?_;obtain⟨p,hp⟩:=jz (y.pl.getD i wC);have hpm':p∈y.pl:=by rw[hp];exact kH _ _ _ hil
   have hmi:=hP.mem i hil;have hld:=hP.ld i hil;obtain⟨v2,hv2⟩:=jz (pv.getD i pW);obtain⟨lvi,hlvi⟩:=jz (lv.getD i []);rw[<-hp,<-hv2]at hmi hld;rw[<-hlvi]at hld;have hli:=hld.sl;obtain⟨ma,mc,hme,_⟩:=hmi.form;obtain⟨la,lc,hle,_⟩:=hli.form;obtain⟨u1,u2⟩:=v2;dsimp only at hmi hld hli hme hle;obtain⟨ll,hll⟩:=jz ((p.ld.zip lvi).length);rw[<-hll]at hle;obtain⟨ml,hml⟩:=jz ((nI p.mem).length);rw[<-hml]at hme;subst hme hle;have hsucc:=M0 y m hil;have hox:=hh.o i hil;rw[<-hp]at hsucc hox;have hgp:=hh.g p hpm';obtain⟨P,hPe⟩:=jz (oq p.mem (lJ y m));obtain⟨R,hRe⟩:=jz (oq p.mem (mr y m));have hpk:=hd.pk p hpm';rw[<-hPe,<-hRe]at hgp;rw[<-hPe]at hpk;obtain⟨o,ho⟩:=jz (wK y m i);rw[<-ho]at hS hsucc hox;have hstp:tD y m o p=if md p.ld P<p.ld.length/\0<R then zw o (rJ p.ld P/R)else o:=by
    unfold tD zS x6;rw[hPe,hRe]
   have hox2:L o+L (rJ p.ld P/R)<=MX:=by rw[hPe,hRe];exact hox
   rw[hstp]at hsucc;clear hstp hox;obtain⟨gp,hgpe⟩:=jz (rJ p.ld P);rw[<-hgpe]at hgp hox2 hsucc;refine jr ?_;refine jp (kp (i:=i) h34 h36 (hP.j5 hS.j5).sl oO dO Ap (jq (ky (v:= .agg #[.slice ma ml mc,.slice la ll lc]) (i:=i) pW rfl qG (hP.j5 hS.j5).sl oO rfl (by rw[<-hv2];rfl) (.inl rfl) ?_)));refine J1 ?_;intro b11 wz12 hS hBz12;refine J1 ?_;intro wz13 hS;refine ja ?_;replace hS:St w _ ([(b11,160,[.slice ma ml mc,.slice la ll lc]),(b6,32,j6 (j9 o)),(b4,32,j6 kP)]++LG++LR):=hS;refine J2 ?_;refine jh (j7 Tryz.call88 rfl (uQ _ _ vr p.mem n (mr y m) _ (hmi.j5 hS.j5) (hr.sl hS kt) (hmem p hpm') (hh.s.s p hpm')) ?_);rintro r w7 ⟨rfl,hB7⟩;rw[<-hRe];replace hS:=hS.ko hB7;refine J1 ?_;intro b12 wz14 hS hBz14;refine J1 ?_;intro wz15 hS;refine ja ?_;replace hS:St w _ ([(b12,32,j6 (j9 R)),(b11,160,[.slice ma ml mc,.slice la ll lc]),(b6,32,j6 (j9 o)),(b4,32,j6 kP)]++LG++LR):=hS;have htotg:=λw h1 h2=>uQ (.slice ma ml mc) (.slice la ll lc) vg p.mem n (lJ y m) w h1 h2 (hmem p hpm') (hd.s p hpm');rw[<-hPe]at htotg;have hgapp:=λw h=>Lx (.slice la ll lc) p.ld lvi P w h hpk;obtain⟨op,hop⟩:=jz (decide (md p.ld P<p.ld.length));obtain⟨gv,hgv⟩:∃gv:Rat,gv=if md p.ld P<p.ld.length then gp else 0:=⟨_,rfl⟩
   have hgr:(if md p.ld P<p.ld.length then Value.tuple #[lu (j9 ((p.ld.getD (md p.ld P) r6).sm-rz p.ld P)),.bool true]else .tuple #[lu kP,.bool false])= .tuple #[lu (j9 gv),.bool op]:=by
    rw[hop,hgv];by_cases g:md p.ld P<p.ld.length
    ·rw[aj g,aj g,ak g,hgpe];rfl
    ·rw[ah g,ah g,ae g,pd]
   rw[hgr]at hgapp;refine ja ?_;refine nb (λρ'=>ρ' 4= .pointer (some ⟨b4,0,none⟩)/\ρ' 6= .pointer (some ⟨b6,0,none⟩)/\ρ' 8=vg/\ρ' 9=vr/\ρ' 34=vP/\ρ' 35= .int .i64 y.pl.length/\ρ' 36= .int .i64 i/\ρ' 11= .pointer (some ⟨b11,0,none⟩)/\ρ' 12= .pointer (some ⟨b12,0,none⟩)/\True) ⟨h4,h6,h8,h9,h34,h35,h36,rfl,rfl,trivial⟩ ?_;rintro ρk16 ⟨hk16_4,hk16_6,hk16_8,hk16_9,hk16_34,hk16_35,hk16_36,hk16_11,hk16_12,-⟩;refine kz (λρ w'=>ρ 4=pB b4/\ρ 6=pB b6/\ρ 8=vg/\ρ 9=vr/\ρ 34=vP/\ρ 35=iB y.pl.length/\ρ 36=iB i/\ρ 12=pB b12/\ρ 14= .bool op/\∃b13,ρ 13=pB b13/\
    St w w' ([(b13,32,j6 (j9 gv)),(b12,32,j6 (j9 R)),(b6,32,j6 (j9 o)),(b4,32,j6 kP)]++LG++LR)) ?_ ?_
   ·refine ja ?_;refine xw 9 [jo 0,ju 1,ju 2,jo 3,jv 4,jv 5,jo 6,jo 7,jo 8,jw 10,jo 11] kR kR hS ?_;intro wz17 hS hBz17;refine mC kR rfl rfl (lI hk16_11 CC (qF kR rfl rfl (kX (k:=1) rfl t6 hS rfl rfl rfl (.inr rfl) (qF kR rfl rfl (kX (k:=1) hk16_11 qG hS rfl rfl rfl (.inl rfl) (mC kR rfl rfl (ks hk16_8 ?_)))))));refine tF rfl rfl ?_ ?_
    ·refine J1 ?_;intro b13 wz18 hS hBz18;refine⟨hBz18,?_⟩;refine jn rfl (j7 Tryz.call88 rfl (htotg _ (hmi.j5 hS.j5) (hg.sl (H:=(b13,32,j6 kP)::[(b12,32,j6 (j9 R)),(b11,160,[.slice ma ml mc,.slice la ll lc]),(b6,32,j6 (j9 o)),(b4,32,j6 kP)]++LR) (hS.perm (OT ((b13,32,j6 kP)::[_,_,_,_]) _ _)) kt)) ?_);rintro r wa ⟨rfl,hBa⟩;refine⟨hBa,?_⟩;replace hS:=hS.ko hBa;refine jn rfl (j7 Tryz.call177 rfl (hgapp _ (hld.j5 hS.j5)) ?_);rintro r wb ⟨rfl,hBb⟩;refine⟨hBb,?_⟩;replace hS:=hS.ko hBb;refine J4 ?_;intro wz19 hS;refine V1 ?_;replace hS:St w _ ([(b13,32,j6 (j9 gv)),(b12,32,j6 (j9 R)),(b11,160,[.slice ma ml mc,.slice la ll lc]),(b6,32,j6 (j9 o)),(b4,32,j6 kP)]++LG++LR):=hS;exact⟨_,rfl,jY,jY,jY,jY,jY,jY,jY,jY,rfl,b13,rfl,hS.drop (List.Sublist.cons_cons _ (List.Sublist.cons_cons _ (ab _ _)))⟩
    ·refine j7 Tryz.call88 rfl (htotg _ (hmi.j5 hS.j5) (hg.sl (hS.perm (OT _ _ _)) kt)) ?_;rintro r wa ⟨rfl,hBa⟩;refine⟨hBa,?_⟩;replace hS:=hS.ko hBa;refine tF rfl rfl ?_ ?_
     ·refine J1 ?_;intro b13 wz20 hS hBz20;refine⟨hBz20,?_⟩;refine jn rfl (j7 Tryz.call177 rfl (hgapp _ (hld.j5 hS.j5)) ?_);rintro r wb ⟨rfl,hBb⟩;refine⟨hBb,?_⟩;replace hS:=hS.ko hBb;refine J4 ?_;intro wz21 hS;refine V1 ?_;replace hS:St w _ ([(b13,32,j6 (j9 gv)),(b12,32,j6 (j9 R)),(b11,160,[.slice ma ml mc,.slice la ll lc]),(b6,32,j6 (j9 o)),(b4,32,j6 kP)]++LG++LR):=hS;exact⟨_,rfl,jY,jY,jY,jY,jY,jY,jY,jY,rfl,b13,rfl,hS.drop (List.Sublist.cons_cons _ (List.Sublist.cons_cons _ (ab _ _)))⟩
     ·refine j7 Tryz.call177 rfl (hgapp _ (hld.j5 hS.j5)) ?_;rintro r wb ⟨rfl,hBb⟩;refine⟨hBb,?_⟩;replace hS:=hS.ko hBb;refine mC kR rfl rfl (ks rfl (mC kR rfl rfl (wA rfl rfl (mC kR rfl rfl (wA rfl rfl (AR kR ?_))))));refine J1 ?_;intro b13 wz22 hS hBz22;refine⟨hBz22,?_⟩;refine J1 ?_;intro wz23 hS;refine V1 ?_;replace hS:St w _ ([(b13,32,j6 (j9 gv)),(b12,32,j6 (j9 R)),(b11,160,[.slice ma ml mc,.slice la ll lc]),(b6,32,j6 (j9 o)),(b4,32,j6 kP)]++LG++LR):=hS;exact⟨_,rfl,jY,jY,jY,jY,jY,jY,jY,jY,rfl,b13,rfl,hS.drop (List.Sublist.cons_cons _ (List.Sublist.cons_cons _ (ab _ _)))⟩
   clear hS hgapp htotg h4 h6 h8 h9 h34 h35 h36;rintro ρ w8 ⟨h4,h6,h8,h9,h34,h35,h36,h12,h14,b13,h13,hS⟩;refine ja ?_;have hdone:∀wx,St w wx ([(b13,32,j6 (j9 gv)),(b12,32,j6 (j9 R)),(b6,32,j6 (j9 o)),(b4,32,j6 kP)]++LG++LR)->¬(md p.ld P<p.ld.length/\0<R)->St w wx ([(b6,32,j6 (j9 (wK y m (i+1)))),(b4,32,j6 kP)]++LG++LR):=λwx h g=>by
    rw[hsucc,ah g];exact h.drop ((ab _ _).trans (ab _ _))
   by_cases hc:md p.ld P<p.ld.length
   ·have hopt:op=true:=by rw[hop];exact ak hc
    have hgvt:gv=gp:=by rw[hgv,aj hc]
    refine J2 ?_;refine lD (j8 53 kR rfl hopt) (kX (k:=1) h12 ki hS rfl rfl rfl (.inl rfl) (oS (j8 53 kR rfl hopt) (j7 Tryz.call80 rfl (st (j9 R) _ (by rw[Lr_ofQ];omega)) ?_)));rintro r w9 ⟨rfl,hB9⟩;rw[toQ_ofQ];replace hS:=hS.ko hB9;refine kf (j8 53 kR rfl hopt) (uc rfl rfl (jp (kC (vb rfl hopt) rfl ?_)));refine ja ?_;by_cases hr0:0<R
    ·rw[aj ⟨hc,hr0⟩]at hsucc;refine k9 rfl (ak (nB.2 hr0)) ?_;refine ja ?_;rw[hgvt]at hS;replace hS:St w _ ([(b13,32,j6 (j9 gp)),(b12,32,j6 (j9 R)),(b6,32,j6 (j9 o)),(b4,32,j6 kP)]++LG++LR):=hS;refine J2 ?_;refine jh (j7 Tryz.call108 rfl (wh (j9 gp) (j9 R) _ (by rw[Lr_ofQ,Lr_ofQ];exact hgp) (by rw[toQ_ofQ];intro g;rw[g]at hr0;exact absurd hr0 dw)) ?_);rintro r wa ⟨rfl,hBa⟩;rw[toQ_ofQ,toQ_ofQ];replace hS:=hS.ko hBa;refine J4 ?_;intro b15 wz24 hS hBz24;refine J1 ?_;intro wz25 hS;refine V1 ?_;replace hS:St w _ ([(b15,32,j6 (j9 (gp/R))),(b13,32,j6 (j9 gp)),(b12,32,j6 (j9 R)),(b6,32,j6 (j9 o)),(b4,32,j6 kP)]++LG++LR):=hS;refine J2 ?_;refine jh (j7 Tryz.call129 rfl (Mv (j9 o) (j9 (gp/R)) _ (by rw[Lr_ofQ,Lr_ofQ];exact hox2)) ?_);rintro r wb ⟨rfl,hBb⟩;rw[toQ_ofQ,toQ_ofQ,<-hsucc];replace hS:=hS.ko hBb;refine J1 ?_;intro wz26 hS;refine ja ?_;replace hS:St w _ ([(b15,32,j6 (j9 (gp/R))),(b13,32,j6 (j9 gp)),(b12,32,j6 (j9 R)),(b6,32,j6 (j9 (wK y m (i+1)))),(b4,32,j6 kP)]++LG++LR):=hS;refine V2 ?_;exact⟨i+1,_,rfl,⟨hil,jY,jY,jY,jY,jY,jY,vi rfl oO,hS.drop (((ab _ _).trans (ab _ _)).trans (ab _ _))⟩,oO⟩
    ·refine lx rfl (ae (λg=>hr0 (nB.1 g))) ?_;refine V2 ?_;exact⟨i+1,_,rfl,⟨hil,jY,jY,jY,jY,jY,jY,vi rfl oO,hdone _ hS (λg=>hr0 g.2)⟩,oO⟩
   ·have hopf:op=false:=by rw[hop];exact ae hc
    refine J2 ?_;refine kN (kb 53 kR rfl hopf) (kN (kb 53 kR rfl hopf) (kN (kb 53 kR rfl hopf) (jp (kC (vb rfl hopf) rfl ?_))));refine ja ?_;refine lx rfl (rfl) ?_;refine V2 ?_;exact⟨i+1,_,rfl,⟨hil,jY,jY,jY,jY,jY,jY,vi rfl oO,hdone _ hS (λg=>hc g.1)⟩,oO⟩
  ·refine J1 ?_;refine jt ?_;obtain rfl:i=y.pl.length:=oO;exact⟨_,rfl,h4,h6,hS.drop ((ap _ _).trans (ap _ _))⟩
 clear hS hS4 hS5;rintro ρ w6 ⟨h4,h6,hS⟩;refine J2 ?_;intro wz27 hS;refine J1 ?_;refine jt ?_;refine nj (k:=1) rfl h4 rfl ki hS rfl rfl ?_;exact⟨rfl,hS.j5⟩
theorem M1 (va vb:Value) (A B:List RR) (w:World) (ha:Sl j6 3 w va A) (hb:Sl j6 3 w vb B):
  lW Tryz.prog 148 #[va,vb] w λr w'=>r= .bool (decide (A=B))/\Below w.heap.size w w':=by
 have hma:=ha.maxLen;have hmb:=hb.maxLen;have hS:=St.init w;refine enter Tryz.func148 rfl Tryz.ntmps148 rfl ?_;refine J2 ?_;refine jp (kj rfl (ha.j5 hS.j5) ⟨_,Tryz.underlying34⟩ ?_);refine J1 ?_;refine jp (kj rfl (hb.j5 hS.j5) ⟨_,Tryz.underlying34⟩ ?_);refine V1 ?_;by_cases hl:A.length=B.length
 case neg=>
  rw[ae (λe=>hl (by rw[e]))];refine J2 ?_;refine jt ?_;refine kD rfl rfl ?_;exact⟨rfl,hS.j5⟩
 refine J2 ?_;refine jp (kj rfl (ha.j5 hS.j5) ⟨_,Tryz.underlying34⟩ ?_);refine V1 ?_;refine kx (σ:=Nat) (λi ρ w'=>i<=A.length/\A.take i=B.take i/\ρ 0=va/\ρ 1=vb/\ρ 12=iB A.length/\ρ 13=iB i/\St w w' []) (λi=>A.length-i) 0
  ⟨ax _,by rw[fc,fc],rfl,rfl,rfl,rfl,hS⟩ ?_
 clear hS;rintro i ρ w2 ⟨hi,heq,h0,h1,h12,h13,hS⟩;refine V1 ?_;by_cases hlt:i<A.length
 ·refine V3 ?_;refine kE [jo 0,jo 1,jo 2,ju 3,jo 4,jo 5,jo 6,ju 7,jo 8] kR kR hS ?_;intro wz1 hS hBz1;refine J2 ?_;refine jl rfl (kp (i:=i) rfl rfl (ha.j5 hS.j5) oO dO kM (jm rfl (ky (i:=i) kP rfl ki (ha.j5 hS.j5) dO rfl rfl (.inl rfl) ?_)));refine J2 ?_;refine jl rfl (kp (i:=i) rfl rfl (hb.j5 hS.j5) oO dO kM (jm rfl (ky (i:=i) kP rfl ki (hb.j5 hS.j5) dO rfl rfl (.inl rfl) (jl rfl (KH rfl rfl ?_)))));refine ja ?_;by_cases hne:A.getD i kP=B.getD i kP
  ·refine lx rfl (ae (λg=>g hne)) ?_;refine V2 ?_;refine⟨i+1,_,rfl,⟨hlt,?_,h0,h1,h12,vi rfl oO,hS⟩,oO⟩;rw[lC A i kP hlt,lC B i kP oO,heq,hne]
  ·rw[ae (λe=>hne (by rw[e]))];refine k9 rfl (ak hne) ?_;refine J1 ?_;refine jt ?_;refine kD rfl rfl ?_;exact⟨rfl,hS.j5⟩
 ·refine J1 ?_;refine jt ?_;rw[aU oO,aU oO]at heq;rw[ak heq];refine J1 ?_;refine jt ?_;refine kD rfl rfl ?_;exact⟨rfl,hS.j5⟩
theorem EH (vR vP:Value) (y:Ly) (w:World):lW Tryz.prog 51 #[NL y.n vR vP y.tot] w λr w'=>r=lu (j9 y.tot)/\Below w.heap.size w w':=by
 have hS:=St.init w;refine enter Tryz.func51 rfl Tryz.ntmps51 rfl ?_;refine jr ?_;refine jh (lj (new:=pK y.n vR vP y.tot) rfl rfl hS ?_);intro b1 wz1 hS hBz1;refine J1 ?_;intro b2 wz2 hS hBz2;refine J3 ?_;intro wz3 hS;refine jt ?_;refine mq (k:=0) rfl rfl ki hS rfl rfl ?_;exact⟨rfl,hS.j5⟩
def Fz (y:Ly) (m:Rat):RR:=j9 (sa y m y.pl.length).r
def KI (y:Ly) (m:Rat):List RR:=ku y.n λk=>j9 ((sa y m y.pl.length).c k)
def zX (y:Ly) (m:Rat):Rat:=m+wK y m y.pl.length
def GU (y:Ly) (m0:Rat):Nat->Rat->Option Rat
 |0,_=>none
 |f+1,m=>if md y.rk m<y.rk.length then(if Fz y (zX y m)=Fz y m0/\KI y (zX y m)=KI y m0 then GU y m0 f (zX y m)else some (zX y m))else none
def VY (y:Ly) (m0:Rat):Nat->Rat->Prop
 |0,_=>False
 |f+1,m=>Up y m/\(md y.rk m<y.rk.length->L m+L (wK y m y.pl.length)<=MX/\ID y (zX y m)/\(Fz y (zX y m)=Fz y m0/\KI y (zX y m)=KI y m0->VY y m0 f (zX y m)))
def XC (o:Option Rat):Value:= .tuple #[lu (match o with|some q=>j9 q|none=>kP),.bool o.isSome]
theorem Qa (vR vP:Value) (y:Ly) (vs:List Value) (pv:List (Value×Value)) (lv:List (List Value)) (m:Rat) (F:Nat) (w:World) (hY:QH w vR vP y vs pv lv) (hs:ID y m) (hh:VY y m F m):
  lW Tryz.prog 109 #[NL y.n vR vP y.tot,lu (j9 m)] w λr w'=>r=XC (GU y m F m)/\Below w.heap.size w w':=by
 have hS:=St.init w;have hslp:=λx w h1 h2=>AQ vR vP y vs pv lv x w h1 h2;have hstp:=λx w h1 h2=>P4 vR vP y vs pv lv x w h1 h2;obtain⟨ty,hty⟩:=jz y.tot;obtain⟨n,hn'⟩:∃n,n=y.n:=⟨_,rfl⟩;rw[<-hn',<-hty]at hslp hstp⊢;obtain⟨res,hres⟩:=jz (GU y m F m);rw[<-hres];have hsT:∀x,(ku n λk=>j9 ((sa y x y.pl.length).c k))=KI y x:=λx=>by rw[hn'];rfl
 have hsR:∀x,j9 (sa y x y.pl.length).r=Fz y x:=λx=>rfl;refine enter Tryz.func109 rfl Tryz.ntmps109 rfl ?_;refine jr ?_;refine jh (lj (new:=pK n vR vP ty) rfl rfl hS ?_);intro b2 wz1 hS hBz1;refine jh (lj (new:=j6 (j9 m)) rfl rfl hS ?_);intro b3 wz2 hS hBz2;refine J1 ?_;intro b4 wz3 hS hBz3;refine V1 ?_;replace hS:St w _ [(b4,32,j6 kP),(b3,32,j6 (j9 m)),(b2,112,pK n vR vP ty)]:=hS;refine J2 ?_;refine jh (j7 Tryz.call92 rfl (hslp m _ (hY.j5 hS.j5) hs) ?_);rintro r w3 ⟨v6,L6,rfl,hG6,hS3⟩;rw[hsT]at hG6;rw[hsR];replace hS:=(hS.join hS3).perm ay;refine J4 ?_;intro b7 wz4 hS hBz4;refine J2 ?_;intro wz5 hS;refine jb ?_;replace hS:St w _ ([(b7,32,j6 (Fz y m)),(b4,32,j6 kP),(b3,32,j6 (j9 m)),(b2,112,pK n vR vP ty)]++L6):=hS;clear hS3;refine ja ?_;refine kx (σ:=Nat×Rat) (λs ρ w'=>ρ 2=pB b2/\ρ 3=pB b3/\ρ 4=pB b4/\ρ 6=v6/\ρ 7=pB b7/\VY y m s.1 s.2/\GU y m s.1 s.2=res/\
   St w w' ([(b7,32,j6 (Fz y m)),(b4,32,j6 kP),(b3,32,j6 (j9 s.2)),(b2,112,pK n vR vP ty)]++L6)) (λs=>s.1) (F,m)
  ⟨rfl,rfl,rfl,rfl,rfl,hh,hres.symm,hS⟩ ?_
 clear hS hh hres;rintro⟨f,x⟩ ρ w4 ⟨h2,h3,h4,h6,h7,hx,hnx,hS⟩;dsimp only at hx hnx hS;obtain _|f:=f
 ·exact hx.elim
 obtain⟨hst,hop⟩:=hx;have e1:GU y m (f+1) x=if md y.rk x<y.rk.length then(if Fz y (zX y x)=Fz y m/\KI y (zX y x)=KI y m then GU y m f (zX y x)else some (zX y x))else none:=rfl
 rw[e1]at hnx;clear e1;refine J2 ?_;refine jh (j7 Tryz.call147 rfl (hstp x _ (hY.j5 hS.j5) hst) ?_);rintro r w5 ⟨rfl,hB5⟩;replace hS:=hS.ko hB5;by_cases hlt:md y.rk x<y.rk.length
 case neg=>
  rw[ah hlt];rw[ah hlt]at hnx;subst hnx;refine J4 ?_;intro b8 wz6 hS hBz6;refine J1 ?_;intro wz7 hS;refine V3 ?_;refine k9 rfl (rfl) ?_;refine jr ?_;refine jp (kQ rfl pI ?_);refine J1 ?_;intro wz8 hS;refine J1 ?_;refine jt ?_;refine nj (k:=2) rfl h4 rfl ki hS rfl rfl ?_;exact⟨rfl,hS.j5⟩
 rw[aj hlt];rw[aj hlt]at hnx;obtain⟨hL1,hs1,hrec⟩:=hop hlt;obtain⟨sq,hsq⟩:=jz (wK y x y.pl.length);rw[<-hsq]at hL1⊢;have hnm:x+sq=zX y x:=by rw[hsq];rfl
 obtain⟨x',hx'⟩:∃x',x'=zX y x:=⟨_,rfl⟩;rw[<-hx']at hnx hs1 hrec hnm;refine J4 ?_;intro b8 wz9 hS hBz9;refine J1 ?_;intro wz10 hS;refine V3 ?_;refine lx rfl (rfl) ?_;refine J2 ?_;refine jh (j7 Tryz.call18 rfl (oo (j9 x) (j9 sq) _ (by rw[Lr_ofQ,Lr_ofQ];exact hL1)) ?_);rintro r w6 ⟨rfl,hB6⟩;rw[toQ_ofQ,toQ_ofQ,hnm];replace hS:=hS.ko hB6;refine J1 ?_;intro wz11 hS;refine ja ?_;replace hS:St w _ ([(b8,32,j6 (j9 sq)),(b7,32,j6 (Fz y m)),(b4,32,j6 kP),(b3,32,j6 (j9 x')),(b2,112,pK n vR vP ty)]++L6):=hS;refine ja ?_;refine nb (λρ'=>ρ' 2= .pointer (some ⟨b2,0,none⟩)/\ρ' 3= .pointer (some ⟨b3,0,none⟩)/\ρ' 4= .pointer (some ⟨b4,0,none⟩)/\ρ' 6=v6/\ρ' 7= .pointer (some ⟨b7,0,none⟩)/\True) ⟨h2,h3,h4,h6,h7,trivial⟩ ?_;rintro ρk12 ⟨hk12_2,hk12_3,hk12_4,hk12_6,hk12_7,-⟩;refine J2 ?_;refine jh (j7 Tryz.call92 rfl (hslp x' _ (hY.j5 hS.j5) hs1) ?_);rintro r w7 ⟨v10,L10,rfl,hG10,hS7⟩;rw[hsT]at hG10;rw[hsR];replace hS:St w _ (([(b8,32,j6 (j9 sq)),(b7,32,j6 (Fz y m)),(b4,32,j6 kP),(b3,32,j6 (j9 x')),(b2,112,pK n vR vP ty)]++L6)++L10):=(hS.join hS7).perm ay;clear hS7;refine J4 ?_;intro b11 wz13 hS hBz13;refine J2 ?_;intro wz14 hS;refine ja ?_;replace hS:St w _ (([(b11,32,j6 (Fz y x')),(b8,32,j6 (j9 sq)),(b7,32,j6 (Fz y m)),(b4,32,j6 kP),(b3,32,j6 (j9 x')),(b2,112,pK n vR vP ty)]++L6)++L10):=hS;refine ja ?_;refine nb (λρ'=>ρ' 2= .pointer (some ⟨b2,0,none⟩)/\ρ' 3= .pointer (some ⟨b3,0,none⟩)/\ρ' 4= .pointer (some ⟨b4,0,none⟩)/\ρ' 6=v6/\ρ' 7= .pointer (some ⟨b7,0,none⟩)/\ρ' 10=v10/\ρ' 11= .pointer (some ⟨b11,0,none⟩)/\True) ⟨hk12_2,hk12_3,hk12_4,hk12_6,hk12_7,rfl,rfl,trivial⟩ ?_;rintro ρk15 ⟨hk15_2,hk15_3,hk15_4,hk15_6,hk15_7,hk15_10,hk15_11,-⟩;have hsl6:=hG6.sl (hS.perm (OT _ _ _)) kt;have hsl10:=hG10.sl hS kt;have hback:=λwx (h:St w wx (([(b11,32,j6 (Fz y x')),(b8,32,j6 (j9 sq)),(b7,32,j6 (Fz y m)),(b4,32,j6 kP),(b3,32,j6 (j9 x')),(b2,112,pK n vR vP ty)]++L6)++L10))=>(h.drop (ap _ _)).drop ((ab _ _).trans (ab _ _));by_cases hr:Fz y x'=Fz y m
 ·refine J2 ?_;refine jp (KH rfl rfl ?_);refine J1 ?_;refine kf (j8 39 kR rfl (ae (λg=>g hr))) (ks hk15_10 ?_);refine kf (j8 39 kR rfl (ae (λg=>g hr))) (ks hk15_6 ?_);refine oS (j8 39 kR rfl (ae (λg=>g hr))) (j7 Tryz.call148 rfl (M1 v10 v6 _ _ _ hsl10 hsl6) ?_);rintro r w8 ⟨rfl,hB8⟩;replace hS:=hS.ko hB8;by_cases ht:KI y x'=KI y m
  ·rw[ak ht];rw[aj ⟨hr,ht⟩]at hnx;refine kf (j8 39 kR rfl (ae (λg=>g hr))) (x9 rfl ?_);refine jp (kC (vb rfl (ae (λg=>g hr))) rfl ?_);refine ja ?_;refine lx rfl (rfl) ?_;refine ja ?_;exact⟨(f,x'),_,rfl,⟨jY,jY,jY,jY,jY,hrec ⟨hr,ht⟩,hnx,hback _ hS⟩,eg _⟩
  ·rw[ae ht];rw[ah (λg=>ht g.2)]at hnx;subst hnx;refine kf (j8 39 kR rfl (ae (λg=>g hr))) (x9 rfl ?_);refine jp (kC (vb rfl (ae (λg=>g hr))) rfl ?_);refine ja ?_;refine k9 rfl (rfl) ?_;refine J2 ?_;intro wz16 hS;refine J1 ?_;refine jt ?_;refine nj (k:=3) rfl hk15_4 rfl ki hS rfl rfl ?_;exact⟨rfl,hS.j5⟩
 ·rw[ah (λg=>hr g.1)]at hnx;subst hnx;refine J2 ?_;refine jp (KH rfl rfl ?_);refine J1 ?_;refine kN (kb 39 kR rfl (ak hr)) (kN (kb 39 kR rfl (ak hr)) (kN (kb 39 kR rfl (ak hr)) (kN (kb 39 kR rfl (ak hr)) (jp (kC (vb rfl (ak hr)) rfl ?_)))));refine ja ?_;refine k9 rfl (rfl) ?_;refine J2 ?_;intro wz17 hS;refine J1 ?_;refine jt ?_;refine nj (k:=3) rfl hk15_4 rfl ki hS rfl rfl ?_;exact⟨rfl,hS.j5⟩
theorem NR {w0 w:World} {H:List kV} {k b o:Nat} {T:TypeId} {cs pre mid post:List Value} (hS:St w0 w H) (hk:H[k]?=some (b,T,cs)) (e:cs=pre++(mid++post)) (ho:o=pre.length):At w ⟨b,o,none⟩ mid:=by
 have:=hS.at hk o mid.length;rw[e,ho,List.drop_left,List.take_left]at this;rw[ho];exact this
theorem Jb (pre X Y post:List Value) (v:Value) (h:X.length=Y.length):splice (pre++v::(X++post)) (pre.length+1) Y=pre++v::(Y++post):=by
 unfold splice;have e:pre++v::(X++post)=((pre++[v])++X)++post:=by simp
 have l1:(pre++[v]).length=pre.length+1:=by simp
 have l2:((pre++[v])++X).length=pre.length+1+Y.length:=by rw[aw,l1,h]
 rw[e,<-l2,List.drop_left,<-l1,aF (pre++[v]),List.take_left];simp
theorem Qw (c:Int) (r:RR):Tryz.prog.built 207 [(0,.int .i64 c),(1,lu r)]=some #[.int .i64 c,.bool r.neg,.string r.num,.string r.den]:=by kernel_rfl
theorem Mo (b:Nat) (T:TypeId) (pre post:List Value) (v:Value) (t:Tr) (p:Pa) (H LP:List kV) (w0 w:World) (hG:Gl pq 207 4 v t.ps LP) (hS:St w0 w (((b,T,pre++v::(j6 (j9 t.sm)++post))::H)++LP)) (hn:t.ps.length<=1000) (hL:L t.sm+L p.q<=MX):
  lW Tryz.prog 84 #[.pointer (some ⟨b,pre.length,none⟩),.int .i64 p.c,lu (j9 p.q)] w λr w'=>r= .tuple #[]/\∃v' LP',Gl pq 207 4 v' (t.ps++[p]) LP'/\St w0 w' (((b,T,pre++v'::(j6 (j9 (t.sm+p.q))++post))::H)++LP'):=by
 refine enter Tryz.func84 rfl Tryz.ntmps84 rfl ?_;refine jr ?_;refine jh (lj (new:=j6 (j9 p.q)) rfl rfl hS ?_);intro b5 wz1 hS hBz1;refine ja ?_;replace hS:St w0 _ (((b5,32,j6 (j9 p.q))::(b,T,pre++v::(j6 (j9 t.sm)++post))::H)++LP):=hS;refine ja ?_;refine kE [jo 0,jo 1,jo 2,jo 3,ju 4,jo 5,ju 6,jo 7,jv 8,jw 9,jo 10,jo 11,jw 12] kR kR hS ?_;intro wz2 hS hBz2;refine J2 ?_;refine jl rfl (mN rfl ?_);refine J1 ?_;refine jm rfl (oL (cs:=[v]) rfl ux (NR (k:=1) hS rfl (pre:=pre) (mid:=[v]) rfl rfl) rfl rfl (.inr rfl) ?_);refine J2 ?_;refine jl rfl (kQ rfl (Qw _ _) (jn rfl (mO (vs:=[Tn p]) rfl Gw rfl dD dD dD (by simp[Value.cells,Tn]) rfl hS ?_)));intro b3 wz4 hS hBz4;refine⟨hBz4,?_⟩;refine jx rfl (mz [p] rfl rfl Gw dD hG hS rfl rfl Eh (NH [p]) dL dL ?_);intro va5 La5 wa5 hG hS hga5;refine jl rfl (mN rfl ?_);refine J1 ?_;refine jx rfl (nW (k:=1) rfl rfl ux hS rfl (by simp) (by obtain⟨a,c,h⟩:=hG.len;rw[h];rfl) ?_);intro wz6 hS;refine ja ?_;replace hS:St w0 _ (((b5,32,j6 (j9 p.q))::(b,T,(pre++v::(j6 (j9 t.sm)++post)).set pre.length va5)::H)++_):=hS;rw[BG _ _ _ _ rfl]at hS;refine ja ?_;refine kE [jo 0,jo 1,jo 2,jo 3,ju 4,ju 5,jv 6,jo 7,jo 8,jw 9] kR kR hS ?_;intro wz7 hS hBz7;refine J2 ?_;refine jl rfl (mN rfl ?_);refine J1 ?_;refine jm rfl (oL (v:=lu (j9 t.sm)) (cs:=j6 (j9 t.sm)) rfl ki (NR (k:=1) hS rfl (pre:=pre++[va5]) (mid:=j6 (j9 t.sm)) (post:=post) (by simp) (by simp)) rfl rfl (.inl rfl) ?_);refine J1 ?_;refine jn rfl (j7 Tryz.call18 rfl (oo (j9 t.sm) (j9 p.q) _ (by rw[Lr_ofQ,Lr_ofQ];exact hL)) ?_);rintro r w3 ⟨rfl,hB3⟩;refine⟨hB3,?_⟩;rw[toQ_ofQ,toQ_ofQ];replace hS:=hS.ko hB3;refine jl rfl (mN rfl ?_);refine J1 ?_;refine jx rfl (lG (k:=1) (new:=j6 (j9 (t.sm+p.q))) rfl rfl ki hS rfl rfl rfl (by simp[j6];omega) rfl ?_);intro wz8 hS;refine ja ?_;replace hS:St w0 _ (((b5,32,j6 (j9 p.q))::(b,T,splice (pre++va5::(j6 (j9 t.sm)++post)) (pre.length+1) (j6 (j9 (t.sm+p.q))))::H)++_):=hS;rw[Jb pre (j6 (j9 t.sm)) (j6 (j9 (t.sm+p.q))) post va5 rfl]at hS;exact qf rfl ⟨rfl,_,_,hG,hS.drop (ab _ _)⟩
def nG (b:Bool):List Value:=[.bool b]
theorem mA (b:Bool):(nG b).length=1:=rfl
theorem E7 (p q:Rat):decide (tf p q<0)=decide (p<q):=by
 rcases tP p q with⟨h1,h2⟩|⟨h1,h2⟩|⟨h1,h2⟩
 ·rw[h2,ak h1];rfl
 ·rw[h2,ae (by rw[h1];exact dw:¬p<q)];rfl
 ·rw[h2,ae (by grind:¬p<q)];rfl
theorem K3 (p q:Rat):decide (0<tf p q)=decide (q<p):=by
 rcases tP p q with⟨h1,h2⟩|⟨h1,h2⟩|⟨h1,h2⟩
 ·rw[h2,ae (by grind:¬q<p)];rfl
 ·rw[h2,ae (by rw[h1];exact dw:¬q<p)];rfl
 ·rw[h2,ak h1];rfl
theorem Fa (p q:Rat):decide (0<=tf p q)=decide (q<=p):=by
 rcases tP p q with⟨h1,h2⟩|⟨h1,h2⟩|⟨h1,h2⟩
 ·rw[h2,ae (by grind:¬q<=p)];rfl
 ·rw[h2,ak (by rw[h1];exact bP:q<=p)];rfl
 ·rw[h2,ak (by grind:q<=p)];rfl
def Hk (n i:Nat) (R:List (Rw RR)):List Value:=R.map Rw.v++List.replicate (n-i) ke
theorem ER (n:Nat) (w:World) (hn:n<=1000):
  lW Tryz.prog 93 #[.int .i64 n] w λv w'=>∃bo R,v= .slice (some ⟨bo,0,none⟩) n n/\mx R n n (qM λ_ _=>0)/\St w w' (mB j6 32 34 bo R []):=by
 have hS:=St.init w;refine enter Tryz.func93 rfl Tryz.ntmps93 rfl ?_;refine J2 ?_;refine jh (AE (n:=n) rfl rfl lL oO oO oO oO hS ?_);intro bo wz1 hS hBz1;refine V1 ?_;replace hS:St w _ [(bo,34,rep n [ke])]:=hS;rw[F2]at hS;refine J3 ?_;refine jb ?_;refine kz (λρ w'=>ρ 3= .slice (some ⟨bo,0,none⟩) n n/\∃R,mx R n n (qM λ_ _=>0)/\St w w' (mB j6 32 34 bo R [])) ?_ ?_
 ·refine ja ?_;refine kx (σ:=Nat) (λi ρ w'=>i<=n/\ρ 0=iB n/\ρ 3= .slice (some ⟨bo,0,none⟩) n n/\ρ 8=iB n/\ρ 9=iB i/\∃R,mx R i n (qM λ_ _=>0)/\St w w' ((bo,34,Hk n i R)::R.map (Rw.x4 j6 32))) (λi=>n-i) 0
   ⟨ax _,rfl,rfl,rfl,rfl,[],⟨rfl,λi hi=>absurd hi (aS _),λi hi=>absurd hi (aS _)⟩,hS⟩ ?_
  clear hS;rintro i ρ w2 ⟨hi,h0,h3,h8,h9,R,hR,hS⟩;refine V1 ?_;by_cases hlt:i<n
  ·refine V1 ?_;have hlR:(R.map Rw.v).length=i:=by rw[aO,hR.len]
   have hfit:i<(Hk n i R).length:=by unfold Hk;rw[aw,hlR,eI];omega
   refine J5 ?_;refine jh (lU (enc:=j6) (n:=n) kP rfl rfl kM rfl oO oO oO oO hS ?_);intro b15 wz2 hS hBz2;refine jp (kF (i:=i) rfl rfl oO dO lL (jh (r8 [_] (i:=i) rfl rfl lV hS oO hfit rfl ?_)));intro wz3 hS;refine V2 ?_;have hX:(⟨b15,n,List.replicate n kP,[]⟩:Rw RR).X=ku n (qM (λ_ _=>0) i):=lE n;refine⟨i+1,_,rfl,⟨hlt,jY,jY,jY,vi rfl oO,R++[⟨b15,n,List.replicate n kP,[]⟩],AJ hR hX ⟨aB _,by show n<=_;omega⟩,?_⟩,oO⟩;obtain⟨d,hd⟩:∃d,n-i=d+1:=⟨n-i-1,oO⟩;have e:(Hk n i R).set i (.slice (some ⟨b15,0,none⟩) n n)=Hk n (i+1) (R++[⟨b15,n,List.replicate n kP,[]⟩]):=by
    unfold Hk;rw[hd,fR,BG _ _ _ _ hlR,bO,aF,show n-(i+1)=d by omega];show _=R.map Rw.v++([.slice (some ⟨b15,0,none⟩) (List.replicate n kP).length n]++_);rw[eI];rfl
   replace hS:St w _ ([(b15,32,(List.replicate n kP).flatMap j6)]++(bo,34,(Hk n i R).set i (.slice (some ⟨b15,0,none⟩) n n))::R.map (Rw.x4 j6 32)):=hS;rw[e]at hS;refine hS.perm ?_;rw[bO];show List.Perm ((b15,32,(List.replicate n kP).flatMap j6)::(bo,34,_)::_) ((bo,34,_)::(_++[(b15,32,(List.replicate n kP).flatMap j6++[])]));rw[aK];exact(List.Perm.swap _ _ _).trans (List.Perm.cons _ (ew _ _).symm)
  ·refine J1 ?_;refine jt ?_;obtain rfl:i=n:=oO;refine⟨_,rfl,h3,R,hR,?_⟩;unfold Hk at hS;rw[dU,jj,aK]at hS;unfold mB;rw[aK];exact hS
 clear hS;rintro ρ w2 ⟨h3,R,hR,hS⟩;refine J2 ?_;refine jt ?_;refine kD rfl rfl ?_;exact⟨bo,R,rfl,hR,hS⟩
def rA (M:Mx) (i j:Nat) (q:Rat):Mx:=λa b=>if a=i/\b=j then M i j+q else M a b
theorem Fe {R:List (Rw RR)} {n m:Nat} {M:Mx} {w0:World} {bo:Nat} {pre H:List kV} (c i j:Nat) (q:Rat) (w:World) (hR:mx R n m (qM M)) (hi:i<n) (hj:j<m) (hL:L (M i j)+L q<=MX) (hS:St w0 w (pre++mB j6 32 34 bo R H)):
  lW Tryz.prog 94 #[.slice (some ⟨bo,0,none⟩) n c,.int .i64 i,.int .i64 j,lu (j9 q)] w λv w'=>v= .tuple #[]/\∃R',mx R' n m (qM (rA M i j q))/\St w0 w' (pre++mB j6 32 34 bo R' H):=by
 have hli:i<R.length:=by rw[hR.len];exact hi
 have hxi:j<(R.getD i oK).X.length:=by rw[hR.xV hi];exact hj
 have hg:(R.getD i oK).X.getD j kP=j9 (M i j):=hR.get hi hj _;have hadd:=λw=>oo (j9 (M i j)) (j9 q) w (by rw[Lr_ofQ,Lr_ofQ];exact hL);rw[toQ_ofQ,toQ_ofQ]at hadd;refine enter Tryz.func94 rfl Tryz.ntmps94 rfl ?_;refine jr ?_;refine jh (lj (new:=j6 (j9 q)) rfl rfl hS ?_);intro b7 wz1 hS hBz1;refine ja ?_;replace hS:St w0 _ (((b7,32,j6 (j9 q))::pre)++mB j6 32 34 bo R H):=hS;refine ja ?_;refine kE [jo 0,jo 1,jo 2,ju 3,jo 4,jo 5,jo 6,jo 7,ju 8,jo 9,jo 10,ju 11,ju 12,jv 13,jo 14,jw 15] kR kR hS ?_;intro wz2 hS hBz2;refine J2 ?_;refine jl rfl (kF (i:=i) rfl rfl oO dO lL (jm rfl (np (_::pre) (i:=i) rfl lV hS oO hli ?_)));refine J3 ?_;refine jl rfl (kF (i:=i) rfl rfl oO dO lL (jm rfl (np (_::pre) (i:=i) rfl lV hS oO hli ?_)));refine J1 ?_;refine jl rfl (kF (i:=j) rfl rfl oO dO kM (jm rfl (rL (_::pre) (i:=i) (j:=j) kP kt rfl ki hS rfl hli oO hxi rfl (.inl rfl) ?_)));refine J1 ?_;rw[hg];refine jn rfl (j7 Tryz.call18 rfl (hadd _) ?_);rintro _ wc3 ⟨rfl,hBc3⟩;replace hS:=hS.ko hBc3;refine⟨hBc3,?_⟩;refine jl rfl (kF (i:=j) rfl rfl oO dO kM (jx rfl (yl (_::pre) (i:=i) (j:=j) (j9 (M i j+q)) kt rfl rfl ki hS rfl hli oO hxi rfl rfl ?_)));intro wz4 hS;refine ja ?_;refine qf rfl ⟨rfl,_,(hR.put hi j (j9 (M i j+q))).congr λa _ b _=> ?_,hS.drop (ab _ _)⟩;show(if a=i/\b=j then j9 (M i j+q)else j9 (M a b))=j9 (rA M i j q a b);unfold rA;split<;>rfl
def ri (M:Mx) (c k:Nat):Rat:=kg (λi=>M i c) k
def GQ (M:Mx) (n c:Nat):Bool:=decide (ri M c n<1)
theorem N0 (v:Value) (vs:List Value) (n m:Nat) (M:Mx) (c:Nat) (w:World) (hA:qE j6 3 w v (wD n m (qM M)) vs) (hc:c<m) (hL:∀i,i<n->L (ri M c i)+L (M i c)<=MX) (hL2:L (ri M c n)+1<=MX):
  lW Tryz.prog 101 #[v,.int .i64 c] w λu w'=>u= .bool (GQ M n c)/\Below w.heap.size w w':=by
 have hmx:=hA.sl.maxLen;have hlen:=hA.len;rw[mQ]at hlen;have hL1:L 1<=1:=Fk (n:=1) dD;have hS:=St.init w;refine enter Tryz.func101 rfl Tryz.ntmps101 rfl ?_;refine Y1 ?_;refine jp (kQ rfl pI ?_);refine J1 ?_;intro b5 wz1 hS hBz1;refine J1 ?_;intro wz2 hS;refine ja ?_;replace hS:St w _ [(b5,32,j6 kP)]:=hS;rw[pd]at hS;refine J1 ?_;refine jp (kj rfl (hA.sl.j5 hS.j5) ⟨_,Tryz.underlying35⟩ ?_);refine J1 ?_;refine jb ?_;rw[hlen];refine kz (λρ w'=>ρ 5=pB b5/\St w w' [(b5,32,j6 (j9 (ri M c n)))]) ?_ ?_
 ·refine ja ?_;refine kx (σ:=Nat) (λi ρ w'=>i<=n/\ρ 1=iB c/\ρ 5=pB b5/\ρ 9=v/\ρ 10=iB n/\ρ 11=iB i/\St w w' [(b5,32,j6 (j9 (ri M c i)))]) (λi=>n-i) 0
   ⟨ax _,rfl,rfl,rfl,rfl,rfl,hS⟩ ?_
  clear hS;rintro i ρ w2 ⟨hi,h1,h5,h9,h10,h11,hS⟩;refine V1 ?_;by_cases hlt:i<n
  ·refine V1 ?_;have hrow:=hA.row i (by rw[mQ];exact hlt);rw[pD _ hlt]at hrow;have htl:=ka m (qM M i);have hg:(ku m (qM M i)).getD c kP=j9 (M i c):=kw _ _ hc;have hadd:=λw=>oo (j9 (ri M c i)) (j9 (M i c)) w (by rw[Lr_ofQ,Lr_ofQ];exact hL i hlt);rw[toQ_ofQ,toQ_ofQ]at hadd;refine jr ?_;refine jp (kp (i:=i) h9 h11 (hA.sl.j5 hS.j5) oO dO lL (jq (ky (i:=i) undef rfl lV (hA.sl.j5 hS.j5) dO rfl rfl (.inr rfl) ?_)));refine V1 ?_;refine kE [ju 0,jo 1,jo 2,jo 3,ju 4,jv 5,jw 6] kR kR hS ?_;intro wz3 hS hBz3;refine J3 ?_;refine jl rfl (kp (i:=c) rfl rfl (hrow.j5 hS.j5) oO dO kM (jm rfl (ky (i:=c) kP rfl ki (hrow.j5 hS.j5) dO rfl rfl (.inl rfl) ?_)));rw[hg];refine jn rfl (j7 Tryz.call18 rfl (hadd _) ?_);rintro _ wc4 ⟨rfl,hBc4⟩;replace hS:=hS.ko hBc4;refine⟨hBc4,?_⟩;refine J1 ?_;intro wz5 hS;refine V2 ?_;exact⟨i+1,_,rfl,⟨hlt,jY,jY,jY,jY,vi rfl oO,hS⟩,oO⟩
  ·refine J1 ?_;refine jt ?_;obtain rfl:i=n:=oO;exact⟨_,rfl,h5,hS⟩
 clear hS;rintro ρ w2 ⟨h5,hS⟩;refine ja ?_;refine kE [ju 0,jv 1,jv 2,jo 3,jo 4] kR kR hS ?_;intro wz6 hS hBz6;refine J1 ?_;refine jn rfl (j7 Tryz.call33 rfl (mH 1 _ dD dD) ?_);rintro _ wc7 ⟨rfl,hBc7⟩;replace hS:=hS.ko hBc7;refine⟨hBc7,?_⟩;rw[show((1:Int):Rat)=1 from rfl];refine jn rfl (j7 Tryz.call50 rfl (pm _ _ _ (by rw[Lr_ofQ,Lr_ofQ];omega)) ?_);rintro _ wc8 ⟨rfl,hBc8⟩;replace hS:=hS.ko hBc8;refine⟨hBc8,?_⟩;refine V2 ?_;rw[toQ_ofQ,toQ_ofQ];refine jt ?_;refine kD rfl rfl ?_;refine⟨?_,hS.j5⟩;show Value.bool (decide (tf (ri M c n) 1<0))=Value.bool (GQ M n c);rw[E7];rfl
def tQ (B:List Bool) (k:Nat):List Nat:=(List.range k).filter λi=>B.getD i false
theorem Jx (B:List Bool) (k:Nat):tQ B (k+1)=if B.getD k false=true then tQ B k++[k]else tQ B k:=by
 unfold tQ;rw[iT,ie];by_cases h:B.getD k false=true
 ·rw[aj h];rw[ai]at h;simp[h]
 ·rw[ah h];rw[ai]at h;simp[h]
theorem Av (B:List Bool) (k:Nat):(tQ B k).length<=k:=by
 have:=iY (λi=>B.getD i false) (List.range k);rw[dE]at this;exact this
theorem L5 (v:Value) (B:List Bool) (w:World) (hv:Sl nG 1 w v B) (hn:B.length<=1000):
  lW Tryz.prog 62 #[v] w λr w'=>∃LO,Gl tg 3 1 r (nI (tQ B B.length)) LO/\St w w' LO:=by
 have hS:=St.init w;refine enter Tryz.func62 rfl Tryz.ntmps62 rfl ?_;refine J3 ?_;refine jp (kj rfl (hv.j5 hS.j5) ⟨_,Tryz.underlying36⟩ ?_);refine J1 ?_;refine jb ?_;refine kz (λρ w'=>∃vo LO,ρ 3=vo/\Gl tg 3 1 vo (nI (tQ B B.length)) LO/\St w w' LO) ?_ ?_
 ·refine ja ?_;refine kx (σ:=Nat) (λi ρ w'=>i<=B.length/\ρ 6=v/\ρ 7=iB B.length/\ρ 8=iB i/\∃vo LO,ρ 3=vo/\Gl tg 3 1 vo (nI (tQ B i)) LO/\St w w' ([]++LO)) (λi=>B.length-i) 0
   ⟨ax _,rfl,rfl,rfl,_,[],rfl,Gl.nil _ _ _,hS⟩ ?_
  clear hS;rintro i ρ w2 ⟨hi,h6,h7,h8,vo,LO,h3,hG,hS⟩;have hll:=Av B i;have hnl:=sc (tQ B i);refine V1 ?_;by_cases hlt:i<B.length
  ·refine V1 ?_;have hts:=Jx B i;refine J1 ?_;refine jp (kp (i:=i) h6 h8 (hv.j5 hS.j5) oO dO qa (jq (ky (i:=i) false rfl qn (hv.j5 hS.j5) dO rfl rfl (.inr rfl) ?_)));refine J3 ?_;refine jb ?_;refine kz (λρ w'=>ρ 6=v/\ρ 7=iB B.length/\ρ 8=iB i/\∃vo LO,ρ 3=vo/\Gl tg 3 1 vo (nI (tQ B (i+1))) LO/\St w w' ([]++LO)) ?_ ?_
   ·refine ja ?_;by_cases hb:B.getD i false=true
    ·refine k9 rfl (hb) ?_;refine ja ?_;rw[aj hb]at hts;refine J2 ?_;refine jh (mO (vs:=[.int .i64 i]) rfl pH rfl dD dD dD (by simp[Value.cells]) rfl hS ?_);intro b16 wz1 hS hBz1;refine jh (mz [(i:Int)] rfl rfl pH dD hG hS rfl rfl (λ_=>rfl) (λu hu=>by rw[aQ.1 (show u∈[Value.int .i64 (i:Int)]from hu)];rfl) dL dL ?_);intro va2 La2 wa2 hG hS hga2;refine V1 ?_;rw[hts,Lk];exact⟨_,rfl,jY,jY,jY,_,_,rfl,hG,hS⟩
    ·refine lx rfl (by simpa using hb) ?_;refine ja ?_;rw[ah hb]at hts;rw[hts];exact⟨_,rfl,jY,jY,jY,vo,_,jY,hG,hS⟩
   clear hS hG;rintro ρ w3 ⟨h6,h7,h8,vo,LO,h3,hG,hS⟩;refine V2 ?_;exact⟨i+1,_,rfl,⟨hlt,jY,jY,vi rfl oO,_,_,jY,hG,hS⟩,oO⟩
  ·refine J1 ?_;refine jt ?_;obtain rfl:i=B.length:=oO;exact⟨_,rfl,vo,LO,h3,hG,hS⟩
 clear hS;rintro ρ w2 ⟨vo,LO,h3,hG,hS⟩;refine J2 ?_;refine jt ?_;refine kD rfl rfl ?_;exact⟨LO,hG,hS⟩
def Q9 (x d:Nat->Rat) (h:Rat) (i k:Nat):Rat:=if k<i then x k+h*d k else 0
theorem BN (n:Nat) (f g:Nat->Rat) (i:Nat) (q:Rat) (h:∀k,k<n->(if k=i then q else f k)=g k):(ku n λk=>j9 (f k)).set i (j9 q)=ku n λk=>j9 (g k):=by
 rw[zm];exact kB λk hk=>by rw[h k hk]
theorem yW (vx vd:Value) (n:Nat) (x d:Nat->Rat) (h:Rat) (w:World) (hx:Sl j6 3 w vx (ku n λi=>j9 (x i))) (hd:Sl j6 3 w vd (ku n λi=>j9 (d i))) (hn:n<=1000) (hL:∀i,i<n->L (x i)+L h+L (d i)+2<=MX):
  lW Tryz.prog 64 #[vx,vd,lu (j9 h)] w λr w'=>∃LO,Gl j6 32 3 r (ku n λi=>j9 (x i+h*d i)) LO/\St w w' LO:=by
 have hS:=St.init w;have hlx:=ka n λi=>j9 (x i);have hld:=ka n λi=>j9 (d i);refine enter Tryz.func64 rfl Tryz.ntmps64 rfl ?_;refine jr ?_;refine jh (lj (new:=j6 (j9 h)) rfl rfl hS ?_);intro b5 wz1 hS hBz1;refine J2 ?_;refine jp (kj rfl (hx.j5 hS.j5) ⟨_,Tryz.underlying34⟩ (jh (lU (enc:=j6) (n:=n) kP rfl rfl kM rfl oO oO oO oO hS ?_)));intro b11 wz2 hS hBz2;refine V1 ?_;replace hS:St w _ ([(b5,32,j6 (j9 h))]++[(b11,32,(List.replicate n kP).flatMap j6)]):=hS.perm (List.Perm.swap _ _ _);rw[lE]at hS;have hG:Gl j6 32 3 (.slice (some ⟨b11,0,none⟩) n n) (ku n λk=>j9 (Q9 x d h 0 k)) [(b11,32,(ku n λk=>j9 (Q9 x d h 0 k)).flatMap j6)]:=pN (ka _ _) oO;refine J1 ?_;refine jp (kj rfl (hx.j5 hS.j5) ⟨_,Tryz.underlying34⟩ ?_);refine J1 ?_;refine jb ?_;rw[hlx];refine kz (λρ w'=>∃LO,ρ 7= .slice (some ⟨b11,0,none⟩) n n/\Gl j6 32 3 (.slice (some ⟨b11,0,none⟩) n n) (ku n λi=>j9 (x i+h*d i)) LO/\St w w' LO) ?_ ?_
 ·refine ja ?_;refine kx (σ:=Nat) (λi ρ w'=>i<=n/\ρ 0=vx/\ρ 1=vd/\ρ 5=pB b5/\ρ 7= .slice (some ⟨b11,0,none⟩) n n/\ρ 13=iB n/\ρ 14=iB i/\∃LO,Gl j6 32 3 (.slice (some ⟨b11,0,none⟩) n n) (ku n λk=>j9 (Q9 x d h i k)) LO/\St w w' ([(b5,32,j6 (j9 h))]++LO)) (λi=>n-i) 0
   ⟨ax _,rfl,rfl,rfl,rfl,rfl,rfl,_,hG,hS⟩ ?_
  clear hS hG;rintro i ρ w2 ⟨hi,h0,h1,h5,h7,h13,h14,LO,hG,hS⟩;have htl:=ka n λk=>j9 (Q9 x d h i k);refine V1 ?_;by_cases hlt:i<n
  ·refine V1 ?_;have hgx:(ku n λi=>j9 (x i)).getD i kP=j9 (x i):=kw _ _ hlt;have hgd:(ku n λi=>j9 (d i)).getD i kP=j9 (d i):=kw _ _ hlt;have hLi:=hL i hlt;have hm:=zK h (d i);have hmul:=λw=>rE (j9 h) (j9 (d i)) w (by rw[Lr_ofQ,Lr_ofQ];omega);rw[toQ_ofQ,toQ_ofQ]at hmul;have hadd:=λw=>oo (j9 (x i)) (j9 (h*d i)) w (by rw[Lr_ofQ,Lr_ofQ];omega);rw[toQ_ofQ,toQ_ofQ]at hadd;refine V2 ?_;refine kE [jo 0,jo 1,jo 2,jo 3,jo 4,ju 5,ju 6,jo 7,jo 8,jo 9,ju 10,jv 11,jv 12,jo 13,jw 14] kR kR hS ?_;intro wz3 hS hBz3;refine J4 ?_;refine jl rfl (kp (i:=i) rfl rfl (hx.j5 hS.j5) oO dO kM (jm rfl (ky (i:=i) kP rfl ki (hx.j5 hS.j5) dO rfl rfl (.inl rfl) ?_)));refine J3 ?_;refine jl rfl (kp (i:=i) rfl rfl (hd.j5 hS.j5) oO dO kM (jm rfl (ky (i:=i) kP rfl ki (hd.j5 hS.j5) dO rfl rfl (.inl rfl) ?_)));rw[hgx,hgd];refine jn rfl (j7 Tryz.call11 rfl (hmul _) ?_);rintro _ wc4 ⟨rfl,hBc4⟩;replace hS:=hS.ko hBc4;refine⟨hBc4,?_⟩;refine jn rfl (j7 Tryz.call18 rfl (hadd _) ?_);rintro _ wc5 ⟨rfl,hBc5⟩;replace hS:=hS.ko hBc5;refine⟨hBc5,?_⟩;refine jl rfl (kp (i:=i) rfl rfl (hG.sl hS kt) oO dO kM (jx rfl (tX (i:=i) (j9 (x i+h*d i)) kt rfl rfl ki hG hS oO rfl rfl ?_)));intro wz6 hS;refine ja ?_;obtain⟨LC2,hG,hS⟩:=hS;rw[BN n (Q9 x d h i) (Q9 x d h (i+1)) i (x i+h*d i) (λk _=>by
    unfold Q9;by_cases e:k=i
    ·rw[aj e,aj oO,e]
    ·rw[ah e];by_cases e2:k<i
     ·rw[aj e2,aj oO]
     ·rw[ah e2,ah oO])]at hG
   refine V2 ?_;exact⟨i+1,_,rfl,⟨hlt,jY,jY,jY,jY,jY,vi rfl oO,_,hG,hS⟩,oO⟩
  ·refine J1 ?_;refine jt ?_;obtain rfl:i=n:=oO;have e:(ku i λk=>j9 (Q9 x d h i k))=ku i λk=>j9 (x k+h*d k):=kB λk hk=>by unfold Q9;rw[aj hk]
   rw[e]at hG;exact⟨_,rfl,LO,h7,hG,hS.drop (ao _ _)⟩
 clear hS hG;rintro ρ w2 ⟨LO,h7,hG,hS⟩;refine J2 ?_;refine jt ?_;refine kD rfl rfl ?_;exact⟨LO,hG,hS⟩
def uI (C:List Nat) (l:Nat->Rat) (k i:Nat):Rat:=if i∈C.take k then l (C.idxOf i)else 0
theorem vW (C:List Nat) (hC:C.Nodup) {k:Nat} (hk:k<C.length):C.idxOf (C.getD k 0)=k:=by
 rw[ai,aG hk,eZ];exact List.Nodup.idxOf_getElem hC k hk
theorem EW (vc vl:Value) (n:Nat) (C:List Nat) (l:Nat->Rat) (w:World) (hc:Sl tg 1 w vc (nI C)) (hl:Sl j6 3 w vl (ku C.length λi=>j9 (l i))) (hC:C.Nodup) (hCn:∀i∈C,i<n) (hn:n<=1000):
  lW Tryz.prog 104 #[.int .i64 n,vc,vl] w λr w'=>∃LO,Gl j6 32 3 r (ku n λi=>j9 (uI C l C.length i)) LO/\St w w' LO:=by
 have hS:=St.init w;have hll:=ka C.length λi=>j9 (l i);have hnl:=sc C;have hmx:=hc.maxLen;refine enter Tryz.func104 rfl Tryz.ntmps104 rfl ?_;refine J2 ?_;refine jh (lU (enc:=j6) (n:=n) kP rfl rfl kM rfl oO oO oO oO hS ?_);intro b11 wz1 hS hBz1;refine V1 ?_;replace hS:St w _ ([]++[(b11,32,(List.replicate n kP).flatMap j6)]):=hS;rw[lE]at hS;have hG:Gl j6 32 3 (.slice (some ⟨b11,0,none⟩) n n) (ku n λk=>j9 (uI C l 0 k)) [(b11,32,(ku n λk=>j9 (uI C l 0 k)).flatMap j6)]:=pN (ka _ _) oO;refine J1 ?_;refine jp (kj rfl (hc.j5 hS.j5) ⟨_,Tryz.underlying46⟩ ?_);refine J1 ?_;refine jb ?_;rw[hnl];refine kz (λρ w'=>∃LO,ρ 7= .slice (some ⟨b11,0,none⟩) n n/\Gl j6 32 3 (.slice (some ⟨b11,0,none⟩) n n) (ku n λi=>j9 (uI C l C.length i)) LO/\St w w' LO) ?_ ?_
 ·refine ja ?_;refine kx (σ:=Nat) (λi ρ w'=>i<=C.length/\ρ 2=vl/\ρ 7= .slice (some ⟨b11,0,none⟩) n n/\ρ 12=vc/\ρ 13=iB C.length/\ρ 14=iB i/\∃LO,Gl j6 32 3 (.slice (some ⟨b11,0,none⟩) n n) (ku n λk=>j9 (uI C l i k)) LO/\St w w' ([]++LO)) (λi=>C.length-i) 0
   ⟨ax _,rfl,rfl,rfl,rfl,rfl,_,hG,hS⟩ ?_
  clear hS hG;rintro i ρ w2 ⟨hi,h2,h7,h12,h13,h14,LO,hG,hS⟩;have htl:=ka n λk=>j9 (uI C l i k);refine V1 ?_;by_cases hlt:i<C.length
  ·refine V1 ?_;obtain⟨k,hk⟩:=jz (C.getD i 0);have hkn:k<n:=hCn k (by rw[hk];exact kH _ _ _ hlt);have hni:(nI C).getD i 0=(k:Int):=by unfold nI;rw[getD_map _ _ 0 _ hlt,hk]
   have hgl:(ku C.length λi=>j9 (l i)).getD i kP=j9 (l i):=kw _ _ hlt;have ht:=lC C i 0 hlt;rw[<-hk]at ht;have hix:=vW C hC hlt;rw[<-hk]at hix;refine J1 ?_;refine jp (kp (i:=i) h12 h14 (hc.j5 hS.j5) oO dO pH (jq (ky (i:=i) 0 rfl ni (hc.j5 hS.j5) dO rfl rfl (.inr rfl) ?_)));refine V2 ?_;rw[hni];refine J4 ?_;refine jp (kp (i:=i) rfl rfl (hl.j5 hS.j5) oO dO kM (jq (ky (i:=i) kP rfl ki (hl.j5 hS.j5) dO rfl rfl (.inl rfl) (jp (kp (i:=k) rfl rfl (hG.sl hS kt) oO dO kM (jh (tX (i:=k) (j9 (l i)) kt rfl rfl ki hG hS oO (by rw[hgl];rfl) rfl ?_)))))));intro wz2 hS;refine ja ?_;obtain⟨LC2,hG,hS⟩:=hS;rw[BN n (uI C l i) (uI C l (i+1)) k (l i) (λa _=>by
    unfold uI;rw[ht];by_cases e:a=k
    ·rw[aj e,aj (by rw[e];simp),e,hix]
    ·rw[ah e];have:a∈C.take i++[k]↔a∈C.take i:=by simp[e]
     simp only[this])]at hG
   refine V2 ?_;exact⟨i+1,_,rfl,⟨hlt,jY,jY,jY,jY,vi rfl oO,_,hG,hS⟩,oO⟩
  ·refine J1 ?_;refine jt ?_;obtain rfl:i=C.length:=oO;exact⟨_,rfl,LO,h7,hG,hS⟩
 clear hS hG;rintro ρ w2 ⟨LO,h7,hG,hS⟩;refine J2 ?_;refine jt ?_;refine kD rfl rfl ?_;exact⟨LO,hG,hS⟩
def sM (M:Mx) (C:List Nat):Mx:=λa b=>M (C.getD a 0) (C.getD b 0)-(if a=b then 1 else 0)
def yG (M:Mx) (C:List Nat) (i j:Nat):Mx:=λa b=>if a<i then sM M C a b else if a=i/\b<j then M (C.getD a 0) (C.getD b 0)else 0
theorem O2 (v vc:Value) (vs:List Value) (n:Nat) (M:Mx) (C:List Nat) (w:World) (hA:qE j6 3 w v (wD n n (qM M)) vs) (hc:Sl tg 1 w vc (nI C)) (hCn:∀i∈C,i<n) (hn:C.length<=1000) (hL:∀i,i<C.length->L (M (C.getD i 0) (C.getD i 0))+1<=MX):
  lW Tryz.prog 103 #[v,vc] w λr w'=>∃bo R,r= .slice (some ⟨bo,0,none⟩) C.length C.length/\mx R C.length C.length (qM (sM M C))/\St w w' (mB j6 32 34 bo R []):=by
 have hS:=St.init w;have hmx:=hA.sl.maxLen;have hlen:=hA.len;rw[mQ]at hlen;have hnl:=sc C;have hL1:L 1<=1:=Fk (n:=1) dD;obtain⟨m,hm⟩:=jz C.length;rw[<-hm]at hn hL hnl⊢;refine enter Tryz.func103 rfl Tryz.ntmps103 rfl ?_;refine J2 ?_;refine jp (kj rfl (hc.j5 hS.j5) ⟨_,Tryz.underlying46⟩ ?_);rw[hnl];refine jh (j7 Tryz.call93 rfl (ER m _ hn) ?_);rintro r w3 ⟨bo,R0,rfl,hR0,hS3⟩;replace hS:=hS.join hS3;refine V1 ?_;rw[aK]at hS;refine J1 ?_;refine jp (kj rfl (hc.j5 hS.j5) ⟨_,Tryz.underlying46⟩ ?_);refine J1 ?_;refine jb ?_;rw[hnl];refine kz (λρ w'=>ρ 5= .slice (some ⟨bo,0,none⟩) m m/\∃R,mx R m m (qM (sM M C))/\St w w' (mB j6 32 34 bo R [])) ?_ ?_
 ·refine ja ?_;refine kx (σ:=Nat) (λi ρ w'=>i<=m/\ρ 0=v/\ρ 1=vc/\ρ 5= .slice (some ⟨bo,0,none⟩) m m/\ρ 13=vc/\ρ 14=iB m/\ρ 15=iB i/\∃R,mx R m m (qM (yG M C i 0))/\St w w' (mB j6 32 34 bo R [])) (λi=>m-i) 0
   ⟨ax _,rfl,rfl,rfl,rfl,rfl,rfl,R0,hR0.congr λa _ b _=>by show j9 0=j9 (yG M C 0 0 a b);unfold yG;rw[ah oO,ah oO],hS⟩ ?_
  clear hS hR0;rintro i ρ w2 ⟨hi,h0,h1,h5,h13,h14,h15,R,hR,hS⟩;refine V1 ?_;by_cases hlt:i<m
  ·refine V1 ?_;obtain⟨k,hk⟩:=jz (C.getD i 0);have hkn:k<n:=hCn k (by rw[hk];exact kH _ _ _ oO);have hni:(nI C).getD i 0=(k:Int):=by unfold nI;rw[getD_map _ _ 0 _ oO,hk]
   have hrow:=hA.row k (by rw[mQ];exact hkn);rw[pD _ hkn]at hrow;have htl:=ka n (qM M k);refine J1 ?_;refine jp (kp (i:=i) h13 h15 (hc.j5 hS.j5) oO dO pH (jq (ky (i:=i) 0 rfl ni (hc.j5 hS.j5) dO rfl rfl (.inr rfl) ?_)));refine V2 ?_;rw[hni];refine J1 ?_;refine jp (kj rfl (hc.j5 hS.j5) ⟨_,Tryz.underlying46⟩ ?_);refine J1 ?_;refine jb ?_;rw[hnl];refine kz (λρ w'=>ρ 0=v/\ρ 1=vc/\ρ 5= .slice (some ⟨bo,0,none⟩) m m/\ρ 6=iB i/\ρ 13=vc/\ρ 14=iB m/\ρ 15=iB i/\∃R,mx R m m (qM (yG M C i m))/\St w w' (mB j6 32 34 bo R [])) ?_ ?_
   ·refine ja ?_;refine kx (σ:=Nat) (λj ρ w'=>j<=m/\ρ 0=v/\ρ 1=vc/\ρ 5= .slice (some ⟨bo,0,none⟩) m m/\ρ 6=iB i/\ρ 7=iB k/\ρ 13=vc/\ρ 14=iB m/\ρ 15=iB i/\ρ 20=vc/\ρ 21=iB m/\ρ 22=iB j/\∃R,mx R m m (qM (yG M C i j))/\St w w' (mB j6 32 34 bo R [])) (λj=>m-j) 0
     ⟨ax _,jY,jY,jY,rfl,rfl,jY,jY,jY,rfl,rfl,rfl,R,hR,hS⟩ ?_
    clear hS hR;rintro j ρ w4 ⟨hj,h0,h1,h5,h6,h7,h13,h14,h15,h20,h21,h22,R,hR,hS⟩;refine V1 ?_;by_cases hjl:j<m
    ·refine V1 ?_;obtain⟨q,hq⟩:=jz (C.getD j 0);have hqn:q<n:=hCn q (by rw[hq];exact kH _ _ _ oO);have hnj:(nI C).getD j 0=(q:Int):=by unfold nI;rw[getD_map _ _ 0 _ oO,hq]
     have hli:i<R.length:=by rw[hR.len];exact hlt
     have hxi:j<(R.getD i oK).X.length:=by rw[hR.xV hlt];exact hjl
     have hg:(ku n (qM M k)).getD q kP=j9 (M k q):=kw _ _ hqn;refine J1 ?_;refine jp (kp (i:=j) h20 h22 (hc.j5 hS.j5) oO dO pH (jq (ky (i:=j) 0 rfl ni (hc.j5 hS.j5) dO rfl rfl (.inr rfl) ?_)));refine V2 ?_;rw[hnj];refine ja ?_;refine kE [jo 0,jo 1,jo 2,ju 3,jo 4,jo 5,jo 6,jo 7,ju 8,jo 9,jo 10,ju 11,jo 12,jw 13] kR kR hS ?_;intro wz1 hS hBz1;refine J2 ?_;refine jl rfl (kF (i:=i) rfl rfl oO dO lL (jm rfl (np [] (i:=i) rfl lV hS oO hli ?_)));refine J3 ?_;refine jl rfl (kp (i:=k) rfl rfl (hA.sl.j5 hS.j5) oO dO lL (jm rfl (ky (i:=k) undef rfl lV (hA.sl.j5 hS.j5) dO rfl rfl (.inr rfl) ?_)));refine J1 ?_;refine jl rfl (kp (i:=q) rfl rfl (hrow.j5 hS.j5) oO dO kM (jm rfl (ky (i:=q) kP rfl ki (hrow.j5 hS.j5) dO rfl rfl (.inl rfl) (jl rfl (kF (i:=j) rfl rfl oO dO kM (jx rfl (yl [] (i:=i) (j:=j) (j9 (M k q)) kt rfl rfl ki hS rfl hli oO hxi (by rw[hg];rfl) rfl ?_)))))));intro wz2 hS;refine V2 ?_;refine⟨j+1,_,rfl,⟨hjl,jY,jY,jY,jY,jY,jY,jY,jY,jY,jY,vi rfl oO,_,(hR.put hlt j (j9 (M k q))).congr λa _ b _=> ?_,hS⟩,oO⟩;show(if a=i/\b=j then j9 (M k q)else j9 (yG M C i j a b))=j9 (yG M C i (j+1) a b);unfold yG;by_cases g:a=i/\b=j
     ·rw[aj g,ah oO,aj oO,g.1,g.2,hk,hq]
     ·rw[ah g];by_cases g1:a<i
      ·rw[aj g1,aj g1]
      ·rw[ah g1,ah g1];by_cases g2:a=i/\b<j
       ·rw[aj g2,aj oO]
       ·rw[ah g2,ah oO]
    ·refine J1 ?_;refine jt ?_;obtain rfl:j=m:=oO;exact⟨_,rfl,h0,h1,h5,h6,h13,h14,h15,R,hR,hS⟩
   clear hS hR;rintro ρ w4 ⟨h0,h1,h5,h6,h13,h14,h15,R,hR,hS⟩;have hli:i<R.length:=by rw[hR.len];exact hlt
   have hxi:i<(R.getD i oK).X.length:=by rw[hR.xV hlt];exact hlt
   have hg:(R.getD i oK).X.getD i kP=j9 (M k k):=by
    rw[hR.get hlt hlt];show j9 (yG M C i m i i)=_;unfold yG;rw[ah oO,aj ⟨rfl,hlt⟩,hk]
   have hLi:=hL i hlt;rw[<-hk]at hLi;have hsub:=λw=>mD (j9 (M k k)) (j9 1) w (by rw[Lr_ofQ,Lr_ofQ];omega);rw[toQ_ofQ,toQ_ofQ]at hsub;refine ja ?_;refine kE [jo 0,jo 1,jo 2,ju 3,jo 4,jo 5,jo 6,jo 7,ju 8,jo 9,jo 10,ju 11,jv 12,jv 13,jo 14,jw 15] kR kR hS ?_;intro wz3 hS hBz3;refine J2 ?_;refine jl rfl (kF (i:=i) rfl rfl oO dO lL (jm rfl (np [] (i:=i) rfl lV hS oO hli ?_)));refine J3 ?_;refine jl rfl (kF (i:=i) rfl rfl oO dO lL (jm rfl (np [] (i:=i) rfl lV hS oO hli ?_)));refine J1 ?_;refine jl rfl (kF (i:=i) rfl rfl oO dO kM (jm rfl (rL [] (i:=i) (j:=i) kP kt rfl ki hS rfl hli oO hxi rfl (.inl rfl) ?_)));rw[hg];refine jn rfl (j7 Tryz.call33 rfl (mH 1 _ dD dD) ?_);rintro r w5 ⟨rfl,hB5⟩;refine⟨hB5,?_⟩;rw[show((1:Int):Rat)=1 from rfl];replace hS:=hS.ko hB5;refine jn rfl (j7 Tryz.call16 rfl (hsub _) ?_);rintro _ wc4 ⟨rfl,hBc4⟩;replace hS:=hS.ko hBc4;refine⟨hBc4,?_⟩;refine jl rfl (kF (i:=i) rfl rfl oO dO kM (jx rfl (yl [] (i:=i) (j:=i) (j9 (M k k-1)) kt rfl rfl ki hS rfl hli oO hxi rfl rfl ?_)));intro wz5 hS;refine V2 ?_;refine⟨i+1,_,rfl,⟨hlt,jY,jY,jY,jY,jY,vi rfl oO,_,(hR.put hlt i (j9 (M k k-1))).congr λa ha b hb=> ?_,hS⟩,oO⟩;show(if a=i/\b=i then j9 (M k k-1)else j9 (yG M C i m a b))=j9 (yG M C (i+1) 0 a b);unfold yG;by_cases g:a=i/\b=i
   ·rw[aj g,aj oO];unfold sM;rw[g.1,g.2,aj rfl,hk]
   ·rw[ah g];by_cases g1:a<i
    ·rw[aj g1,aj oO]
    ·rw[ah g1];by_cases g2:a=i
     ·rw[aj ⟨g2,hb⟩,aj oO];unfold sM;rw[ah oO,g8,Rat.neg_zero,gY]
     ·rw[ah oO,ah oO,ah oO]
  ·refine J1 ?_;refine jt ?_;obtain rfl:i=m:=oO;refine⟨_,rfl,h5,R,hR.congr λa ha b _=> ?_,hS⟩;show j9 (yG M C i 0 a b)=j9 (sM M C a b);unfold yG;rw[aj ha]
 clear hS hR0;rintro ρ w2 ⟨h5,R,hR,hS⟩;refine J2 ?_;refine jt ?_;refine kD rfl rfl ?_;exact⟨bo,R,rfl,hR,hS⟩
end Go.Proofs.YtoeiejliehgopaaGreatDoor
