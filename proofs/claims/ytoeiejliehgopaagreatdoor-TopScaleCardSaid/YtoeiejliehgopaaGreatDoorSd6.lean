import Derived.Test.YtoeiejliehgopaaGreatDoorSd5
set_option maxRecDepth 20000
set_option maxHeartbeats 8000000
namespace Go.Proofs.YtoeiejliehgopaaGreatDoor
open Go Go.RowKit Go.Sx
structure Rs where
 c:Nat->Rat
 r:Rat
def CF (s:Rs) (p:Pa):Rs:=if p.c= -1 then⟨s.c,s.r+p.q⟩else⟨λk=>if(k:Int)=p.c then s.c k+p.q else s.c k,s.r⟩
def qE (s:Rs) (l:List Pa):Rs:=l.foldl CF s
def AK (l:List Pa):Nat:=(l.map λp=>L p.q+1).sum
theorem wW (p:Pa) (l:List Pa):AK (p::l)=L p.q+1+AK l:=by unfold AK;rw[db,iF]
theorem Cv (l m:List Pa):AK (l++m)=AK l+AK m:=by unfold AK;rw[bH,iS]
def AB (n B:Nat) (s:Rs) (l:List Pa):Prop:=(∀k,k<n->L (s.c k)+AK l<=B)/\L s.r+AK l<=B
theorem AB.step {n B:Nat} {s:Rs} {p:Pa} {l:List Pa} (h:AB n B s (p::l)):AB n B (CF s p) l:=by
 obtain⟨h1,h2⟩:=h;rw[wW]at h2;unfold CF;split
 ·refine⟨λk hk=> ?_,?_⟩
  ·have:=h1 k hk;rw[wW]at this;show L (s.c k)+AK l<=B;omega
  ·have:=Aw s.r p.q;show L (s.r+p.q)+AK l<=B;omega
 ·refine⟨λk hk=> ?_,by show L s.r+AK l<=B;omega⟩;have g:=h1 k hk;rw[wW]at g;show L (if(k:Int)=p.c then s.c k+p.q else s.c k)+AK l<=B;have:=Aw (s.c k) p.q;split<;>omega
theorem AB.part {n B:Nat} {s:Rs} {l m:List Pa} (h:AB n B s (l++m)):AB n B s l:=by
 unfold AB at h⊢;rw[Cv]at h;exact⟨λk hk=>by have:=h.1 k hk;omega,by have:=h.2;omega⟩
def zL (n:Nat) (p:Pa):Prop:=p.c= -1\/(0<=p.c/\p.c<n)
def mW (br:Nat) (vc:Value) (r:Rat):kU:=(br,167,vc::j5 (j8 r))
theorem JX (br n:Nat) (vc:Value) (s:Rs) (p:Pa) (H LC:List kU) (w0 w:World) (hG:Gl j5 32 3 vc (ky n λk=>j8 (s.c k)) LC) (hS:St w0 w ((mW br vc s.r::H)++LC)) (hp:zL n p) (hL:AB n MX s [p]):
  lU Tryz.prog 131 #[.pointer (some ⟨br,0,none⟩),.int .i64 p.c,kW (j8 p.q)] w λv w'=>v= .tuple #[]/\∃LC',Gl j5 32 3 vc (ky n λk=>j8 ((CF s p).c k)) LC'/\St w0 w' ((mW br vc (CF s p).r::H)++LC'):=by
 have htl:=j9 n λk=>j8 (s.c k);obtain⟨hL1,hL2⟩:=hL;rw[show AK [p]=L p.q+1 from rfl]at hL1 hL2;refine enter Tryz.func131 rfl Tryz.ntmps131 rfl ?_;refine jr ?_;refine jh (kZ (new:=j5 (j8 p.q)) rfl rfl hS ?_);intro b5 wz1 hS hBz1;refine ja ?_;replace hS:St w0 _ (([(b5,32,j5 (j8 p.q)),(br,167,vc::j5 (j8 s.r))]++H)++LC):=hS;refine V2 ?_;by_cases hc:p.c= -1
 ·have e:CF s p=⟨s.c,s.r+p.q⟩:=aj hc;rw[e];refine k9 rfl (ao hc) ?_;refine ja ?_;refine kC [jo 0,jo 1,jo 2,jo 3,ju 4,ju 5,jv 6,jo 7,jo 8,jw 9] kR kR hS ?_;intro wz2 hS hBz2;refine J2 ?_;refine jl rfl (mO rfl ?_);refine J3 ?_;refine jn rfl (j6 Tryz.call18 rfl (ob (j8 s.r) (j8 p.q) _ (by rw[Lr_ofQ,Lr_ofQ];omega)) ?_);rintro r w3 ⟨rfl,hB3⟩;refine⟨hB3,?_⟩;rw[toQ_ofQ,toQ_ofQ];replace hS:=hS.km hB3;refine jl rfl (mO rfl ?_);refine J2 ?_;intro wz3 hS;refine ja ?_;replace hS:St w0 _ ((b5,32,j5 (j8 p.q))::((mW br vc (s.r+p.q)::H)++LC)):=hS;refine jt ?_;exact EU rfl ⟨rfl,LC,hG,hS.drop (ab _ _)⟩
 ·refine lx rfl (ae hc) ?_;refine ja ?_;have hp2:0<=p.c/\p.c<n:=hp.resolve_left hc;obtain⟨k,hk⟩:=Int.eq_ofNat_of_zero_le hp2.1;have hkn:k<n:=oO;have hgk:(ky n λk=>j8 (s.c k)).getD k kP=j8 (s.c k):=kz _ _ hkn;have hLk:=hL1 k hkn;have e:CF s p=⟨λk=>if(k:Int)=p.c then s.c k+p.q else s.c k,s.r⟩:=ah hc;rw[e];refine ja ?_;refine kC [jo 0,jo 1,jo 2,ju 3,jo 4,jo 5,jo 6,jo 7,ju 8,jo 9,jo 10,ju 11,ju 12,jv 13,jo 14,jw 15] kR kR hS ?_;intro wz4 hS hBz4;refine J1 ?_;refine jl rfl (mO rfl ?_);refine J4 ?_;refine jl rfl (mO rfl ?_);refine J3 ?_;refine jl rfl (kj (i:=k) rfl rfl (hG.sl hS ks) oO dO kK (jm rfl (kt (i:=k) kP rfl kf (hG.sl hS ks) dO rfl rfl (.inl rfl) ?_)));refine J1 ?_;refine jn rfl (j6 Tryz.call18 rfl (ob ((ky n λk=>j8 (s.c k)).getD k kP) (j8 p.q) _ (by rw[hgk,Lr_ofQ,Lr_ofQ];omega)) ?_);rintro r w3 ⟨rfl,hB3⟩;refine⟨hB3,?_⟩;rw[hgk,toQ_ofQ,toQ_ofQ];replace hS:=hS.km hB3;refine jl rfl (kj (i:=k) rfl rfl (hG.sl hS ks) oO dO kK (jx rfl (tD (i:=k) (j8 (s.c k+p.q)) ks rfl rfl kf hG hS oO rfl rfl ?_)));intro wz5 hS;refine ja ?_;obtain⟨LC2,hG,hS⟩:=hS;rw[nt,kF (g:=λj=>j8 (if(j:Int)=p.c then s.c j+p.q else s.c j)) λj _=>by
   by_cases g:j=k
   ·rw[aj g,aj oO,g]
   ·rw[ah g,ah oO]]at hG
  replace hS:St w0 _ ((b5,32,j5 (j8 p.q))::((mW br vc s.r::H)++LC2)):=hS;exact pU rfl ⟨rfl,LC2,hG,hS.drop (ab _ _)⟩
def F3 (t:Tr) (a:Rat):List Pa:=t.ps.map λp=>⟨p.c,p.q*(a/t.sm)⟩
theorem getD_map {α β:Type} (f:α->β) (l:List α) (d:α) (d':β) {i:Nat} (h:i<l.length):(l.map f).getD i d'=f (l.getD i d):=by
 rw[nu _ d' (by rw[aS];exact h),ew,nu l d h]
theorem drop_cons {α:Type} (l:List α) (d:α) {i:Nat} (h:i<l.length):l.drop i=l.getD i d::l.drop (i+1):=by
 rw[dX h,nu l d h]
theorem AB.head {n B:Nat} {s:Rs} {p:Pa} {l:List Pa} (h:AB n B s (p::l)):AB n B s [p]:=AB.part (l:=[p]) (m:=l) h
theorem VF {α:Type} (x y z:α) (H:List α):([x,y,z]++H).Perm (z::x::y::H):=(List.Perm.cons x (List.Perm.swap z y H)).trans (List.Perm.swap z x (y::H))
theorem El (br n:Nat) (vc vp:Value) (s:Rs) (t:Tr) (a:Rat) (H LC:List kU) (w0 w:World) (hG:Gl j5 32 3 vc (ky n λk=>j8 (s.c k)) LC) (hS:St w0 w ((mW br vc s.r::H)++LC)) (hP:∀wx A B,St w0 wx ((A++H)++B)->Sl ph 4 wx vp t.ps) (hp:∀p∈t.ps,zL n p)
  (ht:t.sm≠0) (hL:AB n MX s (F3 t a)) (hLa:L a+L t.sm<=MX) (hLp:∀p∈t.ps,L p.q+L (a/t.sm)<=MX):
  lU Tryz.prog 132 #[.pointer (some ⟨br,0,none⟩),yV t vp,kW (j8 a)] w λv w'=>v= .tuple #[]/\∃LC',Gl j5 32 3 vc (ky n λk=>j8 ((qE s (F3 t a)).c k)) LC'/\St w0 w' ((mW br vc (qE s (F3 t a)).r::H)++LC'):=by
 obtain⟨q,hq⟩:=jz (a/t.sm);have hsh:F3 t a=t.ps.map λp=>⟨p.c,p.q*q⟩:=by rw[hq];rfl
 rw[<-hq]at hLp;have hPs:=hP w [mW br vc s.r] LC hS;have hmx:=hPs.maxLen;obtain⟨pa,pc,rfl,_⟩:=hPs.form;have hal:(F3 t a).length=t.ps.length:=aS _;refine enter Tryz.func132 rfl Tryz.ntmps132 rfl ?_;refine jr ?_;refine jh (kZ (new:=na (t,.slice pa t.ps.length pc)) rfl rfl hS ?_);intro b4 wz1 hS hBz1;refine jh (kZ (new:=j5 (j8 a)) rfl rfl hS ?_);intro b5 wz2 hS hBz2;refine J3 ?_;refine jh (j6 Tryz.call108 rfl (vw (j8 a) (j8 t.sm) _ (by rw[Lr_ofQ,Lr_ofQ];exact hLa) (by rw[toQ_ofQ];exact ht)) ?_);rintro r w3 ⟨rfl,hB3⟩;rw[toQ_ofQ,toQ_ofQ,<-hq];replace hS:=hS.km hB3;refine J4 ?_;intro b6 wz3 hS hBz3;refine J1 ?_;intro wz4 hS;refine V1 ?_;replace hS:St w0 _ (([(b6,32,j5 (j8 q)),(b5,32,j5 (j8 a)),(b4,157,na (t,.slice pa t.ps.length pc)),mW br vc s.r]++H)++LC):=hS;refine J2 ?_;refine jp (ki rfl (hP _ [(b6,32,j5 (j8 q)),(b5,32,j5 (j8 a)),(b4,157,na (t,.slice pa t.ps.length pc)),mW br vc s.r] LC hS) ⟨_,Tryz.underlying155⟩ ?_);refine V1 ?_;refine ku (σ:=Nat) (λi ρ w'=>i<=t.ps.length/\ρ 0=pB br/\ρ 6=pB b6/\ρ 18= .slice pa t.ps.length pc/\ρ 19=iB t.ps.length/\ρ 20=iB i/\∃s' LC,AB n MX s' ((F3 t a).drop i)/\qE s' ((F3 t a).drop i)=qE s (F3 t a)/\Gl j5 32 3 vc (ky n λk=>j8 (s'.c k)) LC/\
   St w0 w' (([(b6,32,j5 (j8 q)),mW br vc s'.r]++H)++LC)) (λi=>t.ps.length-i) 0
  ⟨aB _,rfl,rfl,rfl,rfl,rfl,s,LC,hL,rfl,hG,hS.drop (bn (bn (List.Sublist.cons_cons _ ((List.Sublist.cons _ (List.Sublist.cons _ (bK _))))) (bK _)) (bK _))⟩ ?_
 clear hS hG hPs hL;rintro i ρ w4 ⟨hi,h0,h6,h18,h19,h20,s',LC,hL,hadd,hG,hS⟩;refine V1 ?_;by_cases hlt:i<t.ps.length
 ·refine V1 ?_;obtain⟨p,hpe⟩:=jz (t.ps.getD i TN);have hpm:p∈t.ps:=by rw[hpe];exact kE _ _ _ hlt
  have hd:(F3 t a).drop i=(⟨p.c,p.q*q⟩:Pa)::(F3 t a).drop (i+1):=by
   rw[drop_cons _ TN (by rw[hal];exact hlt)];congr 1;rw[hsh,getD_map _ _ TN _ hlt,<-hpe]
  rw[hd]at hL hadd;refine jr ?_;refine jp (kj (i:=i) h18 h20 (hP _ [(b6,32,j5 (j8 q)),mW br vc s'.r] LC hS) oO dO FE (jq (kt (i:=i) TN rfl uo (hP _ [(b6,32,j5 (j8 q)),mW br vc s'.r] LC hS) dO rfl rfl (.inl rfl) ?_)));refine J1 ?_;intro b9 wz5 hS hBz5;refine J1 ?_;intro wz6 hS;refine ja ?_;rw[<-hpe]at hS;replace hS:St w0 _ (([(b9,207,ph p),(b6,32,j5 (j8 q)),mW br vc s'.r]++H)++LC):=hS;refine ja ?_;refine kC [jo 0,jo 1,ju 2,jo 3,ju 4,ju 5,jv 6,jw 7] kR kR hS ?_;intro wz7 hS hBz7;refine J6 ?_;refine jn rfl (j6 Tryz.call11 rfl (pu (j8 p.q) (j8 q) _ (by rw[Lr_ofQ,Lr_ofQ];exact hLp p hpm)) ?_);rintro r w5 ⟨rfl,hB5⟩;refine⟨hB5,?_⟩;rw[toQ_ofQ,toQ_ofQ];replace hS:=hS.km hB5;refine jx rfl (j6 Tryz.call131 rfl (JX br n vc s' ⟨p.c,p.q*q⟩ ((b9,207,ph p)::(b6,32,j5 (j8 q))::H) LC w0 _ hG (hS.perm (bU _ (VF _ _ _ _))) (hp p hpm) hL.head) ?_);rintro r w6 ⟨rfl,LC',hG,hS⟩;refine V2 ?_;exact⟨i+1,_,rfl,⟨hlt,jY,jY,jY,jY,vi rfl oO,_,LC',hL.step,hadd,hG,(hS.perm (bU _ (VF _ _ _ _).symm)).drop (ab _ _)⟩,oO⟩
 ·refine J1 ?_;refine jt ?_;obtain rfl:i=t.ps.length:=oO;rw[fb oO]at hadd;replace hadd:s'=qE s (F3 t a):=hadd;subst hadd;exact pU rfl ⟨rfl,LC,hG,hS.drop (ab _ _)⟩
def qQ (T:List Tr) (m:Rat):List Pa:=(T.take (lY T m)).flatMap Tr.ps++if lY T m<T.length then F3 (T.getD (lY T m) rH) (ri T m)else []
def qj (T:List Tr) (m rate:Rat):List Pa:=if lY T m<T.length then F3 (T.getD (lY T m) rH) rate else []
theorem Fy:∀ {T:List Tr} {m:Rat},lY T m<T.length->ri T m<(T.getD (lY T m) rH).sm
 | [],_,h=>absurd h (aW _)
 |t::T,m,h=>by
  unfold ri;by_cases hc:m<t.sm
  ·have e:lY (t::T) m=0:=aj hc;rw[e];show m-0<t.sm;grind
  ·have e:lY (t::T) m=lY T (m-t.sm)+1:=ah hc;rw[e]at h⊢;have ih:=Fy (T:=T) (m:=m-t.sm) (by rw[bj]at h;omega);unfold ri at ih;rw[tv];show _<(T.getD _ rH).sm;grind
theorem E9:∀ {T:List Tr} {m:Rat},(∀t∈T,0<=t.sm)->0<=m->0<=ri T m
 | [],m,_,h=>by show 0<=m-0;grind
 |t::T,m,ht,h=>by
  unfold ri;by_cases hc:m<t.sm
  ·have e:lY (t::T) m=0:=aj hc;rw[e];show 0<=m-0;grind
  ·have e:lY (t::T) m=lY T (m-t.sm)+1:=ah hc;have ih:=E9 (T:=T) (m:=m-t.sm) (λt h=>ht t (aK _ h)) (by grind);unfold ri at ih;rw[e,tv];grind
structure I5 (n:Nat) (T:List Tr):Prop where
 p:∀t∈T,∀p∈t.ps,zL n p
 s:∀t∈T,0<=t.sm
def Du (T:List Tr) (f i:Nat) (tl:List Pa):List Pa:=((T.take f).drop i).flatMap Tr.ps++tl
theorem Ma {T:List Tr} {f i:Nat} (tl:List Pa) (hf:f<=T.length) (hi:i<f):Du T f i tl=(T.getD i rH).ps++Du T f (i+1) tl:=by
 unfold Du;have hl:i<(T.take f).length:=by rw[dg];omega
 rw[drop_cons _ rH hl,cB,aI];congr 1;rw[nu _ _ hl,iy,nu T rH oO]
theorem Oi (T:List Tr) (f:Nat) (tl:List Pa):Du T f f tl=tl:=by
 unfold Du;rw[fb (by rw[dg];omega)];rfl
theorem Kx (br n:Nat) (vc v:Value) (T:List Tr) (vs:List Value) (m:Rat) (s:Rs) (H LC:List kU) (w0 w:World) (hT:∀wx A B,St w0 wx ((A++H)++B)->Iq wx v T vs) (hG:Gl j5 32 3 vc (ky n λk=>j8 (s.c k)) LC) (hS:St w0 w ((mW br vc s.r::H)++LC)) (hok:I5 n T)
  (hm0:0<=m) (hK:2*(L m+xK T+2)<=MX) (hL:AB n MX s (qQ T m)) (hLp:∀t∈T,∀p∈t.ps,L p.q+L m+2*xK T+2<=MX):
  lU Tryz.prog 87 #[v,kW (j8 m),.pointer (some ⟨br,0,none⟩)] w λu w'=>u= .tuple #[]/\∃LC',Gl j5 32 3 vc (ky n λk=>j8 ((qE s (qQ T m)).c k)) LC'/\St w0 w' ((mW br vc (qE s (qQ T m)).r::H)++LC'):=by
 have hT0:=hT w [mW br vc s.r] LC hS;have hzl:=hT0.Oy;have hmx:=hT0.sl.maxLen;rw[hzl]at hmx;obtain⟨f,hf⟩:=jz (lY T m);have hfl:f<=T.length:=by rw[hf];exact ti T m
 obtain⟨lq,hlq⟩:=jz (ri T m);have hLq:L lq<=L m+xK T+2:=by rw[hlq];exact FC T m (ti T m)
 obtain⟨tl,htl⟩:∃tl:List Pa,tl=if f<T.length then F3 (T.getD f rH) lq else []:=⟨_,rfl⟩
 have hpay:qQ T m=Du T f 0 tl:=by rw[htl,hlq,hf];rfl
 rw[hpay]at hL⊢;obtain⟨fin,hfin⟩:=jz (qE s (Du T f 0 tl));rw[<-hfin];refine enter Tryz.func87 rfl Tryz.ntmps87 rfl ?_;refine jr ?_;refine jh (kZ (new:=j5 (j8 m)) rfl rfl hS ?_);intro b4 wz1 hS hBz1;refine ja ?_;replace hS:St w0 _ (([(b4,32,j5 (j8 m)),mW br vc s.r]++H)++LC):=hS;refine J2 ?_;refine jh (j6 Tryz.call130 rfl (zT v T vs m _ (hT _ [(b4,32,j5 (j8 m)),mW br vc s.r] LC hS) hK) ?_);rintro r w3 ⟨rfl,hB3⟩;rw[<-hf,<-hlq];replace hS:=hS.km hB3;refine J4 ?_;intro b7 wz2 hS hBz2;refine J2 ?_;intro wz3 hS;refine ja ?_;replace hS:St w0 _ (([(b7,32,j5 (j8 lq)),(b4,32,j5 (j8 m)),mW br vc s.r]++H)++LC):=hS;refine ja ?_;refine nc (λρ'=>ρ' 0=v/\ρ' 2= .pointer (some ⟨br,0,none⟩)/\ρ' 6= .int .i64 f/\ρ' 7= .pointer (some ⟨b7,0,none⟩)/\True) ⟨rfl,rfl,rfl,rfl,trivial⟩ ?_;rintro ρk4 ⟨hk4_0,hk4_2,hk4_6,hk4_7,-⟩;refine J2 ?_;refine jp (y4 rfl rfl (hT _ [(b7,32,j5 (j8 lq)),(b4,32,j5 (j8 m)),mW br vc s.r] LC hS).sl rfl (by rw[hzl];exact hfl) rV (jp (ki rfl (Sl.sub (hT _ [(b7,32,j5 (j8 lq)),(b4,32,j5 (j8 m)),mW br vc s.r] LC hS).sl rQ dD (aB f) (by rw[hzl];exact hfl)) ⟨_,Tryz.underlying109⟩ ?_)));refine J1 ?_;refine jb ?_;have hsl:(((T.zip vs).drop 0).take (f-0)).length=f:=by rw[dg,fe,hzl];omega
 have hsub:=λwx A B h=>Sl.sub (hT wx A B h).sl rQ dD (aB f) (by rw[hzl];exact hfl);have hzg:∀i,i<f->(((T.zip vs).drop 0).take (f-0)).getD i (rH,undef)=(T.getD i rH,vs.getD i undef):=λi hi=>by
  rw[nu _ _ (by rw[hsl];exact hi),iy,List.getElem_drop,<-nu (T.zip vs) (rH,undef) (by rw[hzl];omega),bZ,hT0.O4 oO]
 obtain⟨v20,hv20⟩:=jz (AM v 4 0 f);rw[<-hv20]at hsub;rw[hsl];refine kx (λρ w'=>ρ 0=v/\ρ 2=pB br/\ρ 6=iB f/\ρ 7=pB b7/\∃s' LC,AB n MX s' tl/\qE s' tl=fin/\Gl j5 32 3 vc (ky n λk=>j8 (s'.c k)) LC/\St w0 w' (([(b7,32,j5 (j8 lq)),mW br vc s'.r]++H)++LC)) ?_ ?_
 ·refine ja ?_;refine ku (σ:=Nat) (λi ρ w'=>i<=f/\ρ 0=v/\ρ 2=pB br/\ρ 6=iB f/\ρ 7=pB b7/\ρ 20=v20/\ρ 21=iB f/\ρ 22=iB i/\
    ∃s' LC,AB n MX s' (Du T f i tl)/\qE s' (Du T f i tl)=fin/\Gl j5 32 3 vc (ky n λk=>j8 (s'.c k)) LC/\St w0 w' (([(b7,32,j5 (j8 lq)),mW br vc s'.r]++H)++LC)) (λi=>f-i) 0
   ⟨aB _,jY,jY,jY,jY,hv20.symm,rfl,rfl,s,LC,hL,hfin.symm,hG,(hS.perm (bU _ (List.Perm.swap _ _ _))).drop (ab _ _)⟩ ?_
  clear hS hG hL;rintro i ρ w4 ⟨hi,h0,h2,h6,h7,h20,h21,h22,s1,LC,hL,hadd,hG,hS⟩;refine V1 ?_;by_cases hlt:i<f
  ·refine V1 ?_;have hli:i<T.length:=oO;obtain⟨t,ht⟩:=jz (T.getD i rH);have htm:t∈T:=by rw[ht];exact kE _ _ _ hli
   obtain⟨pv,hpv⟩:=jz (vs.getD i undef);have hpr:∀wx A B,St w0 wx ((A++H)++B)->Sl ph 4 wx pv t.ps:=λwx A B h=>by rw[hpv,ht];exact(hT wx A B h).ps i hli
   have hzi:=hzg i hlt;rw[<-ht,<-hpv]at hzi;have hp0:=hpr _ [(b7,32,j5 (j8 lq)),mW br vc s1.r] LC hS;have hpm:=hp0.maxLen;obtain⟨pa,pc,hpe,_⟩:=hp0.form;clear hp0;subst hpe;rw[Ma tl hfl hlt,<-ht]at hL hadd;obtain⟨rm,hrm⟩:=jz (Du T f (i+1) tl);rw[<-hrm]at hL hadd;refine jr ?_;refine jp (kj (i:=i) h20 h22 (hsub _ [(b7,32,j5 (j8 lq)),mW br vc s1.r] LC hS) oO dO rV (jq (kt (v:=yV t (.slice pa t.ps.length pc)) (i:=i) (rH,undef) rfl sN (hsub _ [(b7,32,j5 (j8 lq)),mW br vc s1.r] LC hS) oO rfl (by rw[hzi];rfl) (.inl rfl) ?_)));refine J1 ?_;intro b9 wz5 hS hBz5;refine J1 ?_;intro wz6 hS;refine ja ?_;replace hS:St w0 _ (([(b9,157,na (t,.slice pa t.ps.length pc)),(b7,32,j5 (j8 lq)),mW br vc s1.r]++H)++LC):=hS;refine ja ?_;refine nc (λρ'=>ρ' 0=v/\ρ' 2= .pointer (some ⟨br,0,none⟩)/\ρ' 6= .int .i64 f/\ρ' 7= .pointer (some ⟨b7,0,none⟩)/\ρ' 20=v20/\ρ' 21= .int .i64 f/\ρ' 22= .int .i64 i/\ρ' 9= .pointer (some ⟨b9,0,none⟩)/\True) ⟨h0,h2,h6,h7,h20,h21,h22,rfl,trivial⟩ ?_;rintro ρk7 ⟨hk7_0,hk7_2,hk7_6,hk7_7,hk7_20,hk7_21,hk7_22,hk7_9,-⟩;refine J2 ?_;refine jp (ki rfl (hpr _ [(b9,157,na (t,.slice pa t.ps.length pc)),(b7,32,j5 (j8 lq)),mW br vc s1.r] LC hS) ⟨_,Tryz.underlying155⟩ ?_);refine J1 ?_;refine jb ?_;refine kx (λρ w'=>ρ 0=v/\ρ 2=pB br/\ρ 6=iB f/\ρ 7=pB b7/\ρ 20=v20/\ρ 21=iB f/\ρ 22=iB i/\
    ∃s' LC,AB n MX s' rm/\qE s' rm=fin/\Gl j5 32 3 vc (ky n λk=>j8 (s'.c k)) LC/\St w0 w' (([(b7,32,j5 (j8 lq)),mW br vc s'.r]++H)++LC)) ?_ ?_
   ·refine ja ?_;refine ku (σ:=Nat) (λj ρ w'=>j<=t.ps.length/\ρ 0=v/\ρ 2=pB br/\ρ 6=iB f/\ρ 7=pB b7/\ρ 20=v20/\ρ 21=iB f/\ρ 22=iB i/\ρ 27= .slice pa t.ps.length pc/\ρ 28=iB t.ps.length/\ρ 29=iB j/\
     ∃s' LC,AB n MX s' (t.ps.drop j++rm)/\qE s' (t.ps.drop j++rm)=fin/\Gl j5 32 3 vc (ky n λk=>j8 (s'.c k)) LC/\St w0 w' (([(b7,32,j5 (j8 lq)),mW br vc s'.r]++H)++LC)) (λj=>t.ps.length-j) 0
     ⟨aB _,jY,jY,jY,jY,jY,jY,jY,rfl,rfl,rfl,s1,LC,hL,hadd,hG,hS.drop (ab _ _)⟩ ?_
    clear hS hG hL hadd h0 h2 h6 h7 h20 h21 h22;rintro j ρ w5 ⟨hj,h0,h2,h6,h7,h20,h21,h22,h27,h28,h29,s2,LC,hL,hadd,hG,hS⟩;refine V1 ?_;by_cases hjl:j<t.ps.length
    ·refine V1 ?_;obtain⟨p,hpe⟩:=jz (t.ps.getD j TN);have hpm:p∈t.ps:=by rw[hpe];exact kE _ _ _ hjl
     rw[drop_cons _ TN hjl,<-hpe,bW]at hL hadd;refine jr ?_;refine jp (kj (i:=j) h27 h29 (hpr _ [(b7,32,j5 (j8 lq)),mW br vc s2.r] LC hS) oO dO FE (jq (kt (i:=j) TN rfl uo (hpr _ [(b7,32,j5 (j8 lq)),mW br vc s2.r] LC hS) dO rfl rfl (.inl rfl) ?_)));refine J1 ?_;intro b11 wz8 hS hBz8;refine J1 ?_;intro wz9 hS;refine ja ?_;rw[<-hpe]at hS;replace hS:St w0 _ (([(b11,207,ph p),(b7,32,j5 (j8 lq)),mW br vc s2.r]++H)++LC):=hS;refine J5 ?_;refine jh (j6 Tryz.call131 rfl (JX br n vc s2 p ((b11,207,ph p)::(b7,32,j5 (j8 lq))::H) LC w0 _ hG (hS.perm (bU _ (VF _ _ _ _))) (hok.p t htm p hpm) hL.head) ?_);rintro r w6 ⟨rfl,LC',hG,hS⟩;refine V2 ?_;exact⟨j+1,_,rfl,⟨hjl,jY,jY,jY,jY,jY,jY,jY,jY,jY,vi rfl oO,_,LC',hL.step,hadd,hG,(hS.perm (bU _ (VF _ _ _ _).symm)).drop (ab _ _)⟩,oO⟩
    ·refine J1 ?_;refine jt ?_;rw[fb oO]at hL hadd;exact⟨_,rfl,h0,h2,h6,h7,h20,h21,h22,s2,LC,hL,hadd,hG,hS⟩
   clear hS hG hL hadd h0 h2 h6 h7 h20 h21 h22;rintro ρ w5 ⟨h0,h2,h6,h7,h20,h21,h22,s2,LC,hL,hadd,hG,hS⟩;rw[hrm]at hL hadd;refine V2 ?_;exact⟨i+1,_,rfl,⟨hlt,jY,jY,jY,jY,jY,jY,vi rfl oO,s2,LC,hL,hadd,hG,hS⟩,oO⟩
  ·refine J1 ?_;refine jt ?_;obtain rfl:i=f:=oO;rw[Oi]at hL hadd;exact⟨_,rfl,h0,h2,h6,h7,s1,LC,hL,hadd,hG,hS⟩
 clear hS hG hL;rintro ρ w4 ⟨h0,h2,h6,h7,s1,LC,hL,hadd,hG,hS⟩;refine J2 ?_;refine jp (ki rfl (hT _ [(b7,32,j5 (j8 lq)),mW br vc s1.r] LC hS).sl ⟨_,Tryz.underlying109⟩ ?_);refine V1 ?_;by_cases hlt:f<T.length
 ·refine k9 rfl (ao (by rw[hzl];omega)) ?_;refine ja ?_;obtain⟨t,ht⟩:=jz (T.getD f rH);rw[aj hlt,<-ht]at htl;have htm:t∈T:=by rw[ht];exact kE _ _ _ hlt
  have hz:=hT0.O4 hlt;rw[<-ht]at hz;obtain⟨pv,hpv⟩:=jz (vs.getD f undef);rw[<-hpv]at hz;have hlt2:lq<t.sm:=by rw[hlq,ht,hf];exact Fy (by rw[<-hf];exact hlt)
  have hl0:0<=lq:=by rw[hlq];exact E9 hok.s hm0
  have hsm:L t.sm+1<=xK T:=by rw[ht];exact y7 T hlt
  rw[htl]at hL hadd;refine ja ?_;refine kC [jo 0,jo 1,jo 2,jo 3,ju 4,ju 5,jw 6] kR kR hS ?_;intro wz10 hS hBz10;refine J3 ?_;refine jl rfl (kj (i:=f) rfl rfl (hT _ [(b7,32,j5 (j8 lq)),mW br vc s1.r] LC hS).sl oO oO rV (jm rfl (kt (v:=yV t pv) (i:=f) (rH,undef) rfl sN (hT _ [(b7,32,j5 (j8 lq)),mW br vc s1.r] LC hS).sl oO rfl (by rw[hz];rfl) (.inl rfl) ?_)));refine J1 ?_;refine jx rfl (j6 Tryz.call132 rfl (El br n vc pv s1 t lq ((b7,32,j5 (j8 lq))::H) LC w0 _ hG (hS.perm (bU _ (List.Perm.swap _ _ _))) (λwx A B h=>by rw[hpv,ht];exact(hT wx (A++[(b7,32,j5 (j8 lq))]) B (by rw[aI A];exact h)).ps f hlt) (hok.p t htm) (by intro g;rw[g]at hlt2;grind) hL oO (λp hp=>by have:=hLp t htm p hp;have:=zw lq t.sm;omega)) ?_);rintro r w6 ⟨rfl,LC',hG,hS⟩;refine ja ?_;rw[hadd]at hG hS;exact pU rfl ⟨rfl,LC',hG,hS.drop (bn (List.Sublist.cons_cons _ (ab _ _)) (bK _))⟩
 ·refine lx rfl (ae (by rw[hzl];omega)) ?_;refine ja ?_;rw[ah hlt]at htl;rw[htl]at hadd;replace hadd:s1=fin:=hadd;subst hadd;exact pU rfl ⟨rfl,LC,hG,hS.drop (ab _ _)⟩
theorem DL (br n:Nat) (vc v:Value) (T:List Tr) (vs:List Value) (m rate:Rat) (s:Rs) (H LC:List kU) (w0 w:World) (hT:∀wx A B,St w0 wx ((A++H)++B)->Iq wx v T vs) (hG:Gl j5 32 3 vc (ky n λk=>j8 (s.c k)) LC) (hS:St w0 w ((mW br vc s.r::H)++LC)) (hok:I5 n T)
  (hm0:0<=m) (hK:2*(L m+xK T+2)<=MX) (hL:AB n MX s (qj T m rate)) (hLr:L rate+xK T<=MX) (hLp:∀t∈T,∀p∈t.ps,L p.q+L rate+2*xK T+2<=MX):
  lU Tryz.prog 136 #[v,kW (j8 m),kW (j8 rate),.pointer (some ⟨br,0,none⟩)] w λu w'=>u= .tuple #[]/\∃LC',Gl j5 32 3 vc (ky n λk=>j8 ((qE s (qj T m rate)).c k)) LC'/\St w0 w' ((mW br vc (qE s (qj T m rate)).r::H)++LC'):=by
 have hT0:=hT w [mW br vc s.r] LC hS;have hzl:=hT0.Oy;have hmx:=hT0.sl.maxLen;rw[hzl]at hmx;obtain⟨f,hf⟩:=jz (lY T m);have hfl:f<=T.length:=by rw[hf];exact ti T m
 refine enter Tryz.func136 rfl Tryz.ntmps136 rfl ?_;refine jr ?_;refine jh (kZ (new:=j5 (j8 m)) rfl rfl hS ?_);intro b5 wz1 hS hBz1;refine jh (kZ (new:=j5 (j8 rate)) rfl rfl hS ?_);intro b6 wz2 hS hBz2;refine ja ?_;replace hS:St w0 _ (([(b6,32,j5 (j8 rate)),(b5,32,j5 (j8 m)),mW br vc s.r]++H)++LC):=hS;refine J2 ?_;refine jh (j6 Tryz.call130 rfl (zT v T vs m _ (hT _ [(b6,32,j5 (j8 rate)),(b5,32,j5 (j8 m)),mW br vc s.r] LC hS) hK) ?_);rintro r w3 ⟨rfl,hB3⟩;rw[<-hf];replace hS:=hS.km hB3;refine J4 ?_;intro b9 wz3 hS hBz3;refine J2 ?_;intro wz4 hS;refine ja ?_;replace hS:St w0 _ (([(b9,32,j5 (j8 (ri T m))),(b6,32,j5 (j8 rate)),(b5,32,j5 (j8 m)),mW br vc s.r]++H)++LC):=hS;have hpm:∀x y z u:kU,([x,y,z,u]++H).Perm ([y,u]++(x::z::H)):=λx y z u=>(List.Perm.swap y x _).trans (List.Perm.cons y ((List.Perm.cons x (List.Perm.swap u z H)).trans (List.Perm.swap u x _)));replace hS:St w0 _ (([(b6,32,j5 (j8 rate)),mW br vc s.r]++H)++LC):=(hS.perm (bU _ (hpm _ _ _ _))).drop (bn (bn (bK _) ((ab _ _).trans (ab _ _))) (bK _));refine ja ?_;refine nc (λρ'=>ρ' 0=v/\ρ' 3= .pointer (some ⟨br,0,none⟩)/\ρ' 6= .pointer (some ⟨b6,0,none⟩)/\ρ' 8= .int .i64 f/\True) ⟨rfl,rfl,rfl,rfl,trivial⟩ ?_;rintro ρk5 ⟨hk5_0,hk5_3,hk5_6,hk5_8,-⟩;refine J2 ?_;refine jp (ki rfl (hT _ [(b6,32,j5 (j8 rate)),mW br vc s.r] LC hS).sl ⟨_,Tryz.underlying109⟩ ?_);refine V1 ?_;by_cases hlt:f<T.length
 ·refine k9 rfl (ao (by rw[hzl];omega)) ?_;refine ja ?_;obtain⟨t,ht⟩:=jz (T.getD f rH);have htm:t∈T:=by rw[ht];exact kE _ _ _ hlt
  have hz:=hT0.O4 hlt;rw[<-ht]at hz;obtain⟨pv,hpv⟩:=jz (vs.getD f undef);rw[<-hpv]at hz;have hlt2:ri T m<t.sm:=by rw[ht,hf];exact Fy (by rw[<-hf];exact hlt)
  have hl0:0<=ri T m:=E9 hok.s hm0;have hsm:L t.sm+1<=xK T:=by rw[ht];exact y7 T hlt
  have htl:qj T m rate=F3 t rate:=by unfold qj;rw[<-hf,aj hlt,ht]
  rw[htl]at hL⊢;refine ja ?_;refine kC [jo 0,jo 1,jo 2,jo 3,ju 4,ju 5,jw 6] kR kR hS ?_;intro wz6 hS hBz6;refine J3 ?_;refine jl rfl (kj (i:=f) rfl rfl (hT _ [(b6,32,j5 (j8 rate)),mW br vc s.r] LC hS).sl oO oO rV (jm rfl (kt (v:=yV t pv) (i:=f) (rH,undef) rfl sN (hT _ [(b6,32,j5 (j8 rate)),mW br vc s.r] LC hS).sl oO rfl (by rw[hz];rfl) (.inl rfl) ?_)));refine J1 ?_;refine jx rfl (j6 Tryz.call132 rfl (El br n vc pv s t rate ((b6,32,j5 (j8 rate))::H) LC w0 _ hG (hS.perm (bU _ (List.Perm.swap _ _ _))) (λwx A B h=>by rw[hpv,ht];exact(hT wx (A++[(b6,32,j5 (j8 rate))]) B (by rw[aI A];exact h)).ps f hlt) (hok.p t htm) (by intro g;rw[g]at hlt2;grind) hL oO (λp hp=>by have:=hLp t htm p hp;have:=zw rate t.sm;omega)) ?_);rintro r w6 ⟨rfl,LC',hG,hS⟩;refine ja ?_;exact pU rfl ⟨rfl,LC',hG,hS.drop (bn (List.Sublist.cons_cons _ (ab _ _)) (bK _))⟩
 ·refine lx rfl (ae (by rw[hzl];omega)) ?_;refine ja ?_;have htl:qj T m rate=[]:=by unfold qj;rw[<-hf,ah hlt]
  rw[htl];exact pU rfl ⟨rfl,LC,hG,hS.drop (ab _ _)⟩
theorem JS (v:Value) (T:List Tr) (vs:List Value) (m:Rat) (w:World) (hT:Iq w v T vs) (hK:2*(L m+xK T+2)<=MX):
  lU Tryz.prog 177 #[v,kW (j8 m)] w λr w'=>r=(if lY T m<T.length then .tuple #[kW (j8 ((T.getD (lY T m) rH).sm-ri T m)),.bool true]else .tuple #[kW kP,.bool false])/\Below w.heap.size w w':=by
 have hzl:=hT.Oy;obtain⟨f,hf⟩:=jz (lY T m);have hfl:f<=T.length:=by rw[hf];exact ti T m
 have hLq:=FC T m (ti T m);have hS:=St.init w;refine enter Tryz.func177 rfl Tryz.ntmps177 rfl ?_;refine jr ?_;refine jh (kZ (new:=j5 (j8 m)) rfl rfl hS ?_);intro b3 wz1 hS hBz1;refine J1 ?_;intro b4 wz2 hS hBz2;refine J3 ?_;refine jh (j6 Tryz.call130 rfl (zT v T vs m _ (hT.j4 hS.j4) hK) ?_);rintro r w3 ⟨rfl,hB3⟩;rw[<-hf];replace hS:=hS.km hB3;refine J4 ?_;intro b7 wz3 hS hBz3;refine J2 ?_;intro wz4 hS;refine ja ?_;replace hS:St w _ [(b7,32,j5 (j8 (ri T m))),(b4,32,j5 kP),(b3,32,j5 (j8 m))]:=hS;refine ja ?_;refine nc (λρ'=>ρ' 0=v/\ρ' 4= .pointer (some ⟨b4,0,none⟩)/\ρ' 5= .bool false/\ρ' 6= .int .i64 f/\ρ' 7= .pointer (some ⟨b7,0,none⟩)/\True) ⟨rfl,rfl,rfl,rfl,rfl,trivial⟩ ?_;rintro ρk5 ⟨hk5_0,hk5_4,hk5_5,hk5_6,hk5_7,-⟩;refine J2 ?_;refine jp (ki rfl (hT.sl.j4 hS.j4) ⟨_,Tryz.underlying109⟩ ?_);refine V1 ?_;by_cases hlt:f<T.length
 ·rw[aj hlt];refine lx rfl (ae (by rw[hzl];omega)) ?_;refine ja ?_;have hz:=hT.O4 hlt;have hsm:=y7 T hlt;obtain⟨lq,hlq⟩:=jz (ri T m);change L (ri T m)<=_ at hLq;rw[<-hlq]at hLq hS⊢;obtain⟨pv,hpv⟩:=jz (vs.getD f undef);rw[<-hpv]at hz;obtain⟨t,ht⟩:=jz (T.getD f rH);rw[<-ht]at hz hsm⊢;refine ja ?_;refine kC [jo 0,jo 1,jo 2,jo 3,ju 4,ju 5,jv 6,jw 7,jo 8] kR kR hS ?_;intro wz6 hS hBz6;refine J2 ?_;refine jl rfl (kj (i:=f) rfl rfl (hT.sl.j4 hS.j4) oO oO rV ?_);refine jl rfl (oR rfl (nw (hT.sl.j4 hS.j4) (λ_=>rfl) dD oO) BU ?_);refine jm rfl (oL (i:=f) (off:=1) (v:=kW (j8 t.sm)) (rH,undef) rfl kf (hT.sl.j4 hS.j4) (λ_=>rfl) dD oO rfl (by rw[hz];rfl) (.inl rfl) ?_);refine J1 ?_;refine jn rfl (j6 Tryz.call16 rfl (mA (j8 t.sm) (j8 lq) _ (by rw[Lr_ofQ,Lr_ofQ];omega)) ?_);rintro r w4 ⟨rfl,hB4⟩;refine⟨hB4,?_⟩;rw[toQ_ofQ,toQ_ofQ];replace hS:=hS.km hB4;refine J1 ?_;intro wz7 hS;refine J1 ?_;refine jt ?_;refine nb (k:=1) rfl hk5_4 rfl kf hS rfl rfl ?_;exact⟨rfl,hS.j4⟩
 ·rw[ah hlt];refine k9 rfl (ao (by rw[hzl];omega)) ?_;refine jr ?_;refine jp (kT rfl px ?_);refine J1 ?_;intro wz8 hS;refine J1 ?_;refine jt ?_;refine nb (k:=1) rfl hk5_4 rfl kf hS rfl rfl ?_;exact⟨rfl,hS.j4⟩
structure Pl where
 mem:List Nat
 ld:List Tr
structure Ly where
 n:Nat
 rk:List Tr
 pl:List Pl
 tot:Rat
def wo:Pl:=⟨[],[]⟩
def sa:Value×Value:=(undef,undef)
def BV (p:Value×Value):List Value:=[p.1,p.2]
structure Vy (w:World) (v:Value) (P:List Pl) (pv:List (Value×Value)) (lv:List (List Value)):Prop where
 len:pv.length=P.length
 sl:Sl BV 2 w v pv
 mem:∀i,i<P.length->Sl sK 1 w (pv.getD i sa).1 (nI (P.getD i wo).mem)
 ld:∀i,i<P.length->Iq w (pv.getD i sa).2 (P.getD i wo).ld (lv.getD i [])
theorem Vy.j4 {w w':World} {v:Value} {P:List Pl} {pv:List (Value×Value)} {lv:List (List Value)} (h:Vy w v P pv lv) (hb:Below w.heap.size w w'):Vy w' v P pv lv:=⟨h.len,h.sl.j4 hb,λi hi=>(h.mem i hi).j4 hb,λi hi=>(h.ld i hi).j4 hb⟩
def Nk (n:Nat) (vR vP:Value) (tot:Rat):Value:= .agg #[.int .i64 n,vR,vP,.bool (j8 tot).neg,.string (j8 tot).num,.string (j8 tot).den]
def pG (n:Nat) (vR vP:Value) (tot:Rat):List Value:= .int .i64 n::vR::vP::j5 (j8 tot)
structure Qi (w:World) (vR vP:Value) (y:Ly) (vs:List Value) (pv:List (Value×Value)) (lv:List (List Value)):Prop where
 rk:Iq w vR y.rk vs
 pl:Vy w vP y.pl pv lv
theorem Qi.j4 {w w':World} {vR vP:Value} {y:Ly} {vs:List Value} {pv:List (Value×Value)} {lv:List (List Value)} (h:Qi w vR vP y vs pv lv) (hb:Below w.heap.size w w'):Qi w' vR vP y vs pv lv:=⟨h.rk.j4 hb,h.pl.j4 hb⟩
def n7 (mem:List Nat) (f:Nat->Rat):Rat:=(mem.map f).foldl (· + ·) 0
theorem Eo (mem:List Nat) (i:Nat) (f:Nat->Rat):n7 (mem++[i]) f=n7 mem f+f i:=by unfold n7;rw[bH,eE];rfl
def Gm (mem:List Nat) (f:Nat->Rat):Nat:=(mem.map λi=>L (f i)+1).sum
theorem Ny (mem:List Nat) (f:Nat->Rat):∀k,k<=mem.length->L (n7 (mem.take k) f)<=Gm (mem.take k) f+1
 |0,_=>by rw[fh];show L 0<=_;rw[nW];omega
 |k+1,h=>by
  have ih:=Ny mem f k oO;rw[lE mem k 0 h,Eo];have:=Aw (n7 (mem.take k) f) (f (mem.getD k 0));have e:Gm (mem.take k++[mem.getD k 0]) f=Gm (mem.take k) f+(L (f (mem.getD k 0))+1):=by unfold Gm;rw[bH,iS];rfl
  rw[e];omega
theorem PY (mem:List Nat) (f:Nat->Rat) (k:Nat):Gm (mem.take k) f<=Gm mem f:=by
 have e:Gm mem f=Gm (mem.take k) f+Gm (mem.drop k) f:=by
  unfold Gm;rw[<-iS,<-bH,dc]
 omega
theorem uC (vm vl va:Value) (mem:List Nat) (n:Nat) (f:Nat->Rat) (w:World) (hM:Sl sK 1 w vm (nI mem)) (hA:Sl j5 3 w va (ky n λk=>j8 (f k))) (hm:∀i∈mem,i<n) (hK:Gm mem f+1<=MX):
  lU Tryz.prog 88 #[.agg #[vm,vl],va] w λr w'=>r=kW (j8 (n7 mem f))/\Below w.heap.size w w':=by
 have hmx:=hM.maxLen;have hnl:=rT mem;have htl:=j9 n λk=>j8 (f k);have hS:=St.init w;have hz:j5 kP=j5 (j8 (n7 (mem.take 0) f)):=by rw[lz];rfl
 refine enter Tryz.func88 rfl Tryz.ntmps88 rfl ?_;refine jr ?_;refine jh (kZ (new:=[vm,vl]) rfl rfl hS ?_);intro b2 wz1 hS hBz1;refine J1 ?_;intro b4 wz2 hS hBz2;refine jr ?_;refine jp (kT rfl px ?_);refine J1 ?_;intro b5 wz3 hS hBz3;refine J1 ?_;intro wz4 hS;refine ja ?_;replace hS:St w _ [(b5,32,j5 kP),(b4,32,j5 kP),(b2,160,[vm,vl])]:=hS;rw[hz]at hS;refine J2 ?_;refine jp (ki rfl (hM.j4 hS.j4) ⟨_,Tryz.underlying46⟩ ?_);refine J1 ?_;refine jb ?_;rw[hnl];refine kx (λρ w'=>ρ 4=pB b4/\ρ 5=pB b5/\∃x,St w w' [(b5,32,j5 (j8 (n7 mem f))),(b4,32,x)]/\x.length=3) ?_ ?_
 ·refine ja ?_;refine ku (σ:=Nat) (λk ρ w'=>k<=mem.length/\ρ 1=va/\ρ 4=pB b4/\ρ 5=pB b5/\ρ 10=vm/\ρ 11=iB mem.length/\ρ 12=iB k/\∃x,St w w' [(b5,32,j5 (j8 (n7 (mem.take k) f))),(b4,32,x)]/\x.length=3) (λk=>mem.length-k) 0
   ⟨aB _,rfl,rfl,rfl,rfl,rfl,rfl,_,hS.drop (ak [_,_] [_]),rfl⟩ ?_
  clear hS hz;rintro k ρ w2 ⟨hk,h1,h4,h5,h10,h11,h12,x,hS,hx⟩;refine V1 ?_;by_cases hlt:k<mem.length
  ·refine V1 ?_;obtain⟨i,hi⟩:=jz (mem.getD k 0);have hin:i<n:=hm i (by rw[hi];exact kE _ _ _ hlt);have hni:(nI mem).getD k 0=(i:Int):=by unfold nI;rw[getD_map _ _ 0 _ hlt,hi]
   have hgi:(ky n λk=>j8 (f k)).getD i kP=j8 (f i):=kz _ _ hin;have ht:=lE mem k 0 hlt;rw[<-hi]at ht;have h1':=Ny mem f k hk;have h2':=PY mem f (k+1);have h3':Gm (mem.take (k+1)) f=Gm (mem.take k) f+(L (f i)+1):=by rw[ht];unfold Gm;rw[bH,iS];rfl
   refine jr ?_;refine jp (kj (i:=k) h10 h12 (hM.j4 hS.j4) oO dO py (jq (kt (i:=k) 0 rfl nm (hM.j4 hS.j4) dO rfl rfl (.inr rfl) ?_)));refine V1 ?_;rw[hni];refine ja ?_;refine kC [ju 0,jo 1,jo 2,jo 3,ju 4,jv 5,jw 6] kR kR hS ?_;intro wz5 hS hBz5;refine J3 ?_;refine jl rfl (kj (i:=i) rfl rfl (hA.j4 hS.j4) oO dO kK (jm rfl (kt (i:=i) kP rfl kf (hA.j4 hS.j4) dO rfl rfl (.inl rfl) ?_)));refine jn rfl (j6 Tryz.call18 rfl (ob (j8 (n7 (mem.take k) f)) ((ky n λk=>j8 (f k)).getD i kP) _ (by rw[hgi,Lr_ofQ,Lr_ofQ];omega)) ?_);rintro r w3 ⟨rfl,hB3⟩;refine⟨hB3,?_⟩;rw[hgi,toQ_ofQ,toQ_ofQ,<-Eo,<-ht];replace hS:=hS.km hB3;refine J1 ?_;intro wz6 hS;refine V2 ?_;exact⟨k+1,_,rfl,⟨hlt,h1,h4,h5,h10,h11,vi rfl oO,x,hS,hx⟩,oO⟩
  ·refine J1 ?_;refine jt ?_;obtain rfl:k=mem.length:=oO;rw[bR]at hS;exact⟨_,rfl,h4,h5,x,hS,hx⟩
 clear hS;rintro ρ w2 ⟨h4,h5,x,hS,hx⟩;obtain⟨x0,x1,x2,rfl⟩:∃a b c,x=[a,b,c]:=by
  match x,hx with
  | [a,b,c],_=>exact⟨a,b,c,rfl⟩
 refine J2 ?_;intro wz7 hS;refine jt ?_;refine mb (k:=1) rfl h4 kf hS rfl rfl ?_;exact⟨rfl,hS.j4⟩
theorem H5 (vo:Value) (l:List RR) (w:World) (ho:Sl j5 3 w vo l) (hl:l.length<=1000000):
  lU Tryz.prog 47 #[vo] w λr w'=>∃LO,Gl j5 32 3 r l LO/\St w w' ([]++LO):=by
 obtain⟨a,c,rfl,h1,h2,h3⟩:=ho.form;have hS:=St.init w;have hW:=hS.j4;refine enter Tryz.func47 rfl Tryz.ntmps47 rfl ?_;refine J2 ?_;refine jp (BG rfl rfl (ht:=⟨_,Tryz.underlying34⟩) ?_);refine ja ?_;cases a with
 |none=>
  refine k9 rfl (rfl) ?_;refine J1 ?_;refine jt ?_;refine kB rfl rfl ?_;have:=h3 rfl;obtain rfl:l=[]:=cH oO;exact⟨[],Gl.nil _ _ _,hS⟩
 |some a=>
  refine lx rfl (rfl) ?_;refine jr ?_;refine jh (O6 kK hS ?_);intro b5 wz1 hS hBz1;refine J1 ?_;refine jh (EI rfl rfl kK dD (H:=[]) (Gl.ON (z:=j5 kP) (n:=0) rfl dD) hS (ho.j4 hS.j4) ks (wE l) (by simp;omega) (by simp;omega) ?_);intro va2 La2 wa2 hG hS hga2 hgu2;refine J1 ?_;refine jt ?_;refine kB rfl rfl ?_;exact⟨_,hG,hS⟩
def yR:Rs:=⟨λ_=>0,0⟩
def lF (y:Ly) (m:Rat):Nat->Rat:=(qE yR (qQ y.rk m)).c
def me (y:Ly) (m:Rat):Nat->Rat:=(qE yR (qj y.rk m 1)).c
theorem C7 (a:Option Addr) (n c:Nat):Tryz.prog.built 167 [(0,.slice a n c)]=some #[.slice a n c,.bool false,.string ⟨#[]⟩,.string ⟨#[]⟩]:=by kernel_rfl
theorem lB (n:Nat):List.replicate n kP=ky n λk=>j8 (yR.c k):=by rw[t9];exact kF λ_ _=>by show kP=j8 0;rw[ol];rfl
theorem pK {b n:Nat} {t:TypeId} {X:List RR} (hn:X.length=n) (hm:n<=9223372036854775807):Gl j5 t 3 (.slice (some ⟨b,0,none⟩) n n) X [(b,t,X.flatMap j5)]:=
 ⟨lS ks _,.inr ⟨b,n,[],by rw[hn],by rw[aU],oO,by unfold Go.maxLen;omega,by rw[aU,lS ks,hn]⟩⟩
theorem y9 (vR vP:Value) (y:Ly) (vs:List Value) (m:Rat) (w:World) (hR:Iq w vR y.rk vs) (hn:y.n<=1000000) (hok:I5 y.n y.rk) (hm0:0<=m) (hK:2*(L m+xK y.rk+2)<=MX) (hL:AB y.n MX yR (qQ y.rk m)) (hLp:∀t∈y.rk,∀p∈t.ps,L p.q+L m+2*xK y.rk+2<=MX):
  lU Tryz.prog 49 #[Nk y.n vR vP y.tot,kW (j8 m)] w λr w'=>∃LO,Gl j5 32 3 r (ky y.n λk=>j8 (lF y m k)) LO/\St w w' LO:=by
 have hS:=St.init w;obtain⟨n,hn'⟩:∃n,n=y.n:=⟨_,rfl⟩;rw[<-hn']at hn hok hL⊢;refine enter Tryz.func49 rfl Tryz.ntmps49 rfl ?_;refine jr ?_;refine jh (kZ (new:=pG n vR vP y.tot) rfl rfl hS ?_);intro b2 wz1 hS hBz1;refine jh (kZ (new:=j5 (j8 m)) rfl rfl hS ?_);intro b3 wz2 hS hBz2;refine J3 ?_;refine jh (lR (enc:=j5) (n:=n) kP rfl rfl kK rfl oO oO oO oO hS ?_);intro b8 wz3 hS hBz3;refine jp (kT rfl (C7 _ _ _) (jh (kZ (new:= .slice (some ⟨b8,0,none⟩) n n::j5 kP) rfl rfl hS ?_)));intro b10 wz4 hS hBz4;refine V1 ?_;replace hS:St w _ ((b10,167,.slice (some ⟨b8,0,none⟩) n n::j5 kP)::(b8,32,(List.replicate n kP).flatMap j5)::[(b3,32,j5 (j8 m)),(b2,112,pG n vR vP y.tot)]):=hS;rw[lB,lz]at hS;have hG:Gl j5 32 3 (.slice (some ⟨b8,0,none⟩) n n) (ky n λk=>j8 (yR.c k)) [(b8,32,(ky n λk=>j8 (yR.c k)).flatMap j5)]:=pK (j9 _ _) oO;replace hS:St w _ ((mW b10 (.slice (some ⟨b8,0,none⟩) n n) yR.r::[(b3,32,j5 (j8 m)),(b2,112,pG n vR vP y.tot)])++[(b8,32,(ky n λk=>j8 (yR.c k)).flatMap j5)]):=hS.perm (List.Perm.cons _ (aF (l₁:=[_])));refine J4 ?_;refine jh (j6 Tryz.call87 rfl (Kx b10 n _ vR y.rk vs m yR [(b3,32,j5 (j8 m)),(b2,112,pG n vR vP y.tot)] _ w _ (λwx A B h=>hR.j4 h.j4) hG hS hok hm0 hK hL hLp) ?_);rintro r w3 ⟨rfl,LC,hG,hS⟩;refine J1 ?_;refine jp (mO rfl ?_);refine J3 ?_;refine jt ?_;refine kB rfl rfl ?_;exact⟨LC,hG,hS.drop (ai _ _)⟩
theorem GP (vR vP:Value) (y:Ly) (vs:List Value) (m:Rat) (w:World) (hR:Iq w vR y.rk vs) (hn:y.n<=1000000) (hok:I5 y.n y.rk) (hm0:0<=m) (hK:2*(L m+xK y.rk+2)<=MX) (hL:AB y.n MX yR (qj y.rk m 1)) (hLp:∀t∈y.rk,∀p∈t.ps,L p.q+2*xK y.rk+3<=MX):
  lU Tryz.prog 135 #[Nk y.n vR vP y.tot,kW (j8 m)] w λr w'=>∃LO,Gl j5 32 3 r (ky y.n λk=>j8 (me y m k)) LO/\St w w' LO:=by
 have hS:=St.init w;have hL1:L 1<=1:=FO (n:=1) dD;obtain⟨n,hn'⟩:∃n,n=y.n:=⟨_,rfl⟩;rw[<-hn']at hn hok hL⊢;refine enter Tryz.func135 rfl Tryz.ntmps135 rfl ?_;refine jr ?_;refine jh (kZ (new:=pG n vR vP y.tot) rfl rfl hS ?_);intro b2 wz1 hS hBz1;refine jh (kZ (new:=j5 (j8 m)) rfl rfl hS ?_);intro b3 wz2 hS hBz2;refine J3 ?_;refine jh (lR (enc:=j5) (n:=n) kP rfl rfl kK rfl oO oO oO oO hS ?_);intro b8 wz3 hS hBz3;refine jp (kT rfl (C7 _ _ _) (jh (kZ (new:= .slice (some ⟨b8,0,none⟩) n n::j5 kP) rfl rfl hS ?_)));intro b10 wz4 hS hBz4;refine V1 ?_;replace hS:St w _ ((b10,167,.slice (some ⟨b8,0,none⟩) n n::j5 kP)::(b8,32,(List.replicate n kP).flatMap j5)::[(b3,32,j5 (j8 m)),(b2,112,pG n vR vP y.tot)]):=hS;rw[lB,lz]at hS;have hG:Gl j5 32 3 (.slice (some ⟨b8,0,none⟩) n n) (ky n λk=>j8 (yR.c k)) [(b8,32,(ky n λk=>j8 (yR.c k)).flatMap j5)]:=pK (j9 _ _) oO;replace hS:St w _ ((mW b10 (.slice (some ⟨b8,0,none⟩) n n) yR.r::[(b3,32,j5 (j8 m)),(b2,112,pG n vR vP y.tot)])++[(b8,32,(ky n λk=>j8 (yR.c k)).flatMap j5)]):=hS.perm (List.Perm.cons _ (aF (l₁:=[_])));refine ja ?_;refine kC [jo 0,ju 1,ju 2,jo 4,jv 3,jw 5] kR kR hS ?_;intro wz5 hS hBz5;refine J4 ?_;refine jn rfl (j6 Tryz.call33 rfl (mI 1 _ dD dD) ?_);rintro r w2 ⟨rfl,hB2⟩;refine⟨hB2,?_⟩;rw[show((1:Int):Rat)=1 from rfl];replace hS:=hS.km hB2;refine jx rfl (j6 Tryz.call136 rfl (DL b10 n _ vR y.rk vs m 1 yR [(b3,32,j5 (j8 m)),(b2,112,pG n vR vP y.tot)] _ w _ (λwx A B h=>hR.j4 h.j4) hG hS hok hm0 hK hL oO (λt ht p hp=>by have:=hLp t ht p hp;omega)) ?_);rintro r w3 ⟨rfl,LC,hG,hS⟩;refine J1 ?_;refine jp (mO rfl ?_);refine J3 ?_;refine jt ?_;refine kB rfl rfl ?_;exact⟨LC,hG,hS.drop (ai _ _)⟩
def Do (Z:List Nat) (f:Nat->Rat) (k:Nat):Rat:=if k∈Z then 0 else f k
def qJ (y:Ly) (f:Nat->Rat):Nat->Rat:=Do (y.pl.flatMap Pl.mem) f
theorem o6:kP=j8 0:=by rw[ol];rfl
theorem OS (n:Nat) (Z:List Nat) (f:Nat->Rat) (i:Nat):(ky n λk=>j8 (Do Z f k)).set i kP=ky n λk=>j8 (Do (Z++[i]) f k):=by
 rw[nt];refine kF λk _=> ?_;unfold Do;by_cases h:k=i
 ·rw[aj h,aj (by rw[h];simp),o6]
 ·rw[ah h];have:k∈Z++[i]↔k∈Z:=by simp[h]
  simp only[this]
theorem L4 {α β:Type} (l:List α) (d:α) (f:α->List β) {i:Nat} (h:i<l.length):(l.take (i+1)).flatMap f=(l.take i).flatMap f++f (l.getD i d):=by
 rw[lE l i d h,dy,cB,gK,aU]
theorem G0 (vR vP va:Value) (y:Ly) (pv:List (Value×Value)) (lv:List (List Value)) (f:Nat->Rat) (w:World) (hP:Vy w vP y.pl pv lv) (hA:Sl j5 3 w va (ky y.n λk=>j8 (f k))) (hm:∀p∈y.pl,∀i∈p.mem,i<y.n) (hn:y.n<=1000):
  lU Tryz.prog 86 #[Nk y.n vR vP y.tot,va] w λr w'=>∃br vc LC,r= .pointer (some ⟨br,0,none⟩)/\Gl j5 32 3 vc (ky y.n λk=>j8 (qJ y f k)) LC/\St w w' ([mW br vc 0]++LC):=by
 have hS:=St.init w;obtain⟨n,hn'⟩:∃n,n=y.n:=⟨_,rfl⟩;rw[<-hn']at hn hA hm⊢;have htl:=j9 n λk=>j8 (f k);have hpm:=hP.sl.maxLen;have hpl:=hP.len;rw[hpl]at hpm;refine enter Tryz.func86 rfl Tryz.ntmps86 rfl ?_;refine jr ?_;refine jh (kZ (new:=pG n vR vP y.tot) rfl rfl hS ?_);intro b2 wz1 hS hBz1;refine J2 ?_;refine jh (j6 Tryz.call47 rfl (H5 va _ _ (hA.j4 hS.j4) oO) ?_);rintro r w3 ⟨LC,hG,hS3⟩;replace hS:=hS.join hS3;obtain⟨a,c,rfl⟩:=hG.len;rw[htl]at hG⊢;refine jp (kT rfl (C7 _ _ _) (jh (kZ (new:= .slice a n c::j5 kP) rfl rfl hS ?_)));intro b5 wz2 hS hBz2;refine V1 ?_;replace hS:St w _ ((b5,167,.slice a n c::j5 kP)::(LC++[(b2,112,pG n vR vP y.tot)])):=hS;replace hS:St w _ ([(b5,167,.slice a n c::j5 kP),(b2,112,pG n vR vP y.tot)]++LC):=hS.perm (List.Perm.cons _ aF);rw[lz]at hS;refine ja ?_;refine nc (λρ'=>ρ' 2= .pointer (some ⟨b2,0,none⟩)/\ρ' 5= .pointer (some ⟨b5,0,none⟩)/\True) ⟨rfl,rfl,trivial⟩ ?_;rintro ρk3 ⟨hk3_2,hk3_5,-⟩;refine J2 ?_;refine jp (ki rfl (hP.j4 hS.j4).sl ⟨_,Tryz.underlying110⟩ ?_);refine J1 ?_;refine jb ?_;rw[hpl];have hG0:Gl j5 32 3 (.slice a n c) (ky n λk=>j8 (Do ((y.pl.take 0).flatMap Pl.mem) f k)) LC:=hG;refine kx (λρ w'=>ρ 5=pB b5/\∃LC,Gl j5 32 3 (.slice a n c) (ky n λk=>j8 (qJ y f k)) LC/\St w w' ([mW b5 (.slice a n c) 0]++LC)) ?_ ?_
 ·refine ja ?_;refine ku (σ:=Nat) (λi ρ w'=>i<=y.pl.length/\ρ 5=pB b5/\ρ 15=vP/\ρ 16=iB y.pl.length/\ρ 17=iB i/\∃LC,Gl j5 32 3 (.slice a n c) (ky n λk=>j8 (Do ((y.pl.take i).flatMap Pl.mem) f k)) LC/\St w w' ([mW b5 (.slice a n c) 0]++LC)) (λi=>y.pl.length-i) 0
   ⟨aB _,jY,rfl,rfl,rfl,LC,hG0,hS.drop (bn (List.Sublist.cons_cons _ (gJ _)) (bK _))⟩ ?_
  clear hS hG hG0;rintro i ρ w4 ⟨hi,h5,h15,h16,h17,LC,hG,hS⟩;refine V1 ?_;by_cases hlt:i<y.pl.length
  ·refine V1 ?_;obtain⟨p,hp⟩:=jz (y.pl.getD i wo);have hpm':p∈y.pl:=by rw[hp];exact kE _ _ _ hlt
   have hmi:=hP.mem i hlt;have hli:=(hP.ld i hlt).sl;obtain⟨v2,hv2⟩:=jz (pv.getD i sa);rw[<-hp,<-hv2]at hmi hli;obtain⟨ma,mc,hme,_⟩:=hmi.form;obtain⟨la,lc,hle,_⟩:=hli.form;obtain⟨u1,u2⟩:=v2;dsimp only at hmi hme hle;subst hme hle;have hnl:=rT p.mem;have hmm:=hmi.maxLen;rw[hnl]at hmm hmi hv2;have htf:=L4 y.pl wo Pl.mem hlt;rw[<-hp]at htf;refine jr ?_;refine jp (kj (i:=i) h15 h17 (hP.j4 hS.j4).sl oO dO Ar (jq (kt (v:= .agg #[.slice ma p.mem.length mc,.slice la (p.ld.zip (lv.getD i [])).length lc]) (i:=i) sa rfl qx (hP.j4 hS.j4).sl oO rfl (by rw[<-hv2];rfl) (.inl rfl) ?_)));refine J1 ?_;intro b7 wz4 hS hBz4;refine J1 ?_;intro wz5 hS;refine ja ?_;replace hS:St w _ ([(b7,160,[.slice ma p.mem.length mc,.slice la (p.ld.zip (lv.getD i [])).length lc]),mW b5 (.slice a n c) 0]++LC):=hS;refine J2 ?_;refine jp (ki rfl (hmi.j4 hS.j4) ⟨_,Tryz.underlying46⟩ ?_);refine J1 ?_;refine jb ?_;rw[hnl];refine kx (λρ w'=>ρ 5=pB b5/\ρ 15=vP/\ρ 16=iB y.pl.length/\ρ 17=iB i/\∃LC,Gl j5 32 3 (.slice a n c) (ky n λk=>j8 (Do ((y.pl.take (i+1)).flatMap Pl.mem) f k)) LC/\St w w' ([mW b5 (.slice a n c) 0]++LC)) ?_ ?_
   ·rw[htf];obtain⟨Z,hZ⟩:=jz ((y.pl.take i).flatMap Pl.mem);rw[<-hZ]at hG⊢;have hG0:Gl j5 32 3 (.slice a n c) (ky n λk=>j8 (Do (Z++p.mem.take 0) f k)) LC:=by rw[fh,aU];exact hG
    refine ja ?_;refine ku (σ:=Nat) (λj ρ w'=>j<=p.mem.length/\ρ 5=pB b5/\ρ 15=vP/\ρ 16=iB y.pl.length/\ρ 17=iB i/\ρ 22= .slice ma p.mem.length mc/\ρ 23=iB p.mem.length/\ρ 24=iB j/\∃LC,Gl j5 32 3 (.slice a n c) (ky n λk=>j8 (Do (Z++p.mem.take j) f k)) LC/\St w w' ([mW b5 (.slice a n c) 0]++LC)) (λj=>p.mem.length-j) 0
     ⟨aB _,jY,jY,jY,jY,rfl,rfl,rfl,LC,hG0,hS.drop (ab _ _)⟩ ?_
    clear hS hG hG0 h5 h15 h16 h17;rintro j ρ w5 ⟨hj,h5,h15,h16,h17,h22,h23,h24,LC,hG,hS⟩;have htg:=j9 n λk=>j8 (Do (Z++p.mem.take j) f k);refine V1 ?_;by_cases hjl:j<p.mem.length
    ·refine V1 ?_;obtain⟨k,hk⟩:=jz (p.mem.getD j 0);have hkn:k<n:=hm p hpm' k (by rw[hk];exact kE _ _ _ hjl);have hni:(nI p.mem).getD j 0=(k:Int):=by unfold nI;rw[getD_map _ _ 0 _ hjl,hk]
     have ht:=lE p.mem j 0 hjl;rw[<-hk]at ht;refine jr ?_;refine jp (kj (i:=j) h22 h24 (hmi.j4 hS.j4) oO dO py (jq (kt (i:=j) 0 rfl nm (hmi.j4 hS.j4) dO rfl rfl (.inr rfl) ?_)));refine V1 ?_;rw[hni];refine J1 ?_;refine jp (mO rfl ?_);refine J3 ?_;refine jp (kT rfl px (jp (kj (i:=k) rfl rfl (hG.sl hS ks) oO dO kK (jh (tD (i:=k) kP ks rfl rfl kf hG hS oO rfl rfl ?_)))));intro wz6 hS;refine ja ?_;obtain⟨LC2,hG,hS⟩:=hS;rw[OS,aI,<-ht]at hG;refine V2 ?_;exact⟨j+1,_,rfl,⟨hjl,jY,jY,jY,jY,jY,jY,vi rfl oO,LC2,hG,hS⟩,oO⟩
    ·refine J1 ?_;refine jt ?_;rw[aV oO]at hG;exact⟨_,rfl,h5,h15,h16,h17,LC,hG,hS⟩
   clear hS hG h5 h15 h16 h17;rintro ρ w5 ⟨h5,h15,h16,h17,LC,hG,hS⟩;refine V2 ?_;exact⟨i+1,_,rfl,⟨hlt,jY,jY,jY,vi rfl oO,LC,hG,hS⟩,oO⟩
  ·refine J1 ?_;refine jt ?_;obtain rfl:i=y.pl.length:=oO;rw[bR]at hG;exact⟨_,rfl,h5,LC,hG,hS⟩
 clear hS hG hG0;rintro ρ w4 ⟨h5,LC,hG,hS⟩;refine J2 ?_;refine jt ?_;refine kB rfl rfl ?_;exact⟨b5,_,LC,rfl,hG,hS⟩
def Vr (y:Ly) (m:Rat) (s:Rs) (p:Pl):Rs:=qE s (qQ p.ld (n7 p.mem (lF y m)))
def sF (y:Ly) (m:Rat) (i:Nat):Rs:=(y.pl.take i).foldl (Vr y m) ⟨qJ y (lF y m),0⟩
def VM (y:Ly) (m:Rat) (s:Rs) (p:Pl):Rs:=qE s (qj p.ld (n7 p.mem (lF y m)) (n7 p.mem (me y m)))
def rR (y:Ly) (m:Rat) (i:Nat):Rs:=(y.pl.take i).foldl (VM y m) ⟨qJ y (me y m),0⟩
theorem M3 (y:Ly) (m:Rat) {i:Nat} (h:i<y.pl.length):sF y m (i+1)=Vr y m (sF y m i) (y.pl.getD i wo):=by
 unfold sF;rw[lE y.pl i wo h,eE];rfl
theorem MT (y:Ly) (m:Rat) {i:Nat} (h:i<y.pl.length):rR y m (i+1)=VM y m (rR y m i) (y.pl.getD i wo):=by
 unfold rR;rw[lE y.pl i wo h,eE];rfl
structure Oz (y:Ly) (m:Rat):Prop where
 n:y.n<=1000
 rk:I5 y.n y.rk
 m0:0<=m
 k:2*(L m+xK y.rk+2)<=MX
 l:AB y.n MX yR (qQ y.rk m)
 lp:∀t∈y.rk,∀p∈t.ps,L p.q+L m+2*xK y.rk+2<=MX
 mem:∀p∈y.pl,∀i∈p.mem,i<y.n
 ld:∀p∈y.pl,I5 y.n p.ld
 s:∀p∈y.pl,Gm p.mem (lF y m)+1<=MX
 p0:∀p∈y.pl,0<=n7 p.mem (lF y m)
 pk:∀p∈y.pl,2*(L (n7 p.mem (lF y m))+xK p.ld+2)<=MX
 pl:∀i,i<y.pl.length->AB y.n MX (sF y m i) (qQ (y.pl.getD i wo).ld (n7 (y.pl.getD i wo).mem (lF y m)))
 pp:∀p∈y.pl,∀t∈p.ld,∀q∈t.ps,L q.q+L (n7 p.mem (lF y m))+2*xK p.ld+2<=MX
structure Ig (y:Ly) (m:Rat):Prop where
 d:Oz y m
 l:AB y.n MX yR (qj y.rk m 1)
 lp:∀t∈y.rk,∀p∈t.ps,L p.q+2*xK y.rk+3<=MX
 s:∀p∈y.pl,Gm p.mem (me y m)+1<=MX
 pl:∀i,i<y.pl.length->AB y.n MX (rR y m i) (qj (y.pl.getD i wo).ld (n7 (y.pl.getD i wo).mem (lF y m)) (n7 (y.pl.getD i wo).mem (me y m)))
 pr:∀p∈y.pl,L (n7 p.mem (me y m))+xK p.ld<=MX
 pp:∀p∈y.pl,∀t∈p.ld,∀q∈t.ps,L q.q+L (n7 p.mem (me y m))+2*xK p.ld+2<=MX
theorem Wd {α:Type} (x:α) (A LC:List α):(([x]++LC)++A).Perm ((x::A)++LC):=List.Perm.cons _ aF
theorem yv (vR vP:Value) (y:Ly) (vs:List Value) (pv:List (Value×Value)) (lv:List (List Value)) (m:Rat) (w:World) (hY:Qi w vR vP y vs pv lv) (hh:Oz y m):
  lU Tryz.prog 48 #[Nk y.n vR vP y.tot,kW (j8 m)] w λr w'=>∃v LO,r= .tuple #[v,kW (j8 (sF y m y.pl.length).r)]/\Gl j5 32 3 v (ky y.n λk=>j8 ((sF y m y.pl.length).c k)) LO/\St w w' LO:=by
 have hS:=St.init w;have hR:=hY.rk;have hP:=hY.pl;have hpm:=hP.sl.maxLen;have hpl:=hP.len;rw[hpl]at hpm;have hd:=hh;have hn:=hd.n;obtain⟨n,hn'⟩:∃n,n=y.n:=⟨_,rfl⟩;have hgross:=λw h=>y9 vR vP y vs m w h oO hd.rk hd.m0 hd.k hd.l hd.lp;have htake:=λva w h1 h2=>G0 vR vP va y pv lv (lF y m) w h1 h2 hd.mem hn;have hrk:=hd.rk;have hmem:=hd.mem;have hldo:=hd.ld;have hpl':=hd.pl;rw[<-hn']at hn hgross htake hmem hldo hpl'⊢;obtain⟨cl,hcl⟩:=jz (pG n vR vP y.tot);refine enter Tryz.func48 rfl Tryz.ntmps48 rfl ?_;refine jr ?_;refine jh (kZ (new:=pG n vR vP y.tot) rfl rfl hS ?_);intro b2 wz1 hS hBz1;refine jh (kZ (new:=j5 (j8 m)) rfl rfl hS ?_);intro b3 wz2 hS hBz2;refine J2 ?_;intro b5 wz3 hS hBz3;refine ja ?_;replace hS:St w _ [(b5,32,j5 kP),(b3,32,j5 (j8 m)),(b2,112,pG n vR vP y.tot)]:=hS;refine J2 ?_;refine jh (j6 Tryz.call49 rfl (hgross _ (hR.j4 hS.j4)) ?_);rintro vg w3 ⟨LG,hg,hB3⟩;replace hg:=hg.sl (H:=[]) hB3 ks;replace hB3:=hB3.j4;replace hS:=hS.km hB3;refine V1 ?_;have hB0:=hS.j4;have hS0:=hS;have hP3:=hP.j4 hB0;refine J2 ?_;refine jh (j6 Tryz.call86 rfl (htake vg _ (hP.j4 hS.j4) hg) ?_);rintro r w4 ⟨br,vc,LC,rfl,hG,hS4⟩;replace hS:St w _ ([mW br vc 0,(b5,32,j5 kP),(b3,32,j5 (j8 m)),(b2,112,pG n vR vP y.tot)]++LC):=(hS.join hS4).perm (Wd _ _ _);refine V1 ?_;refine nc (λρ'=>ρ' 2= .pointer (some ⟨b2,0,none⟩)/\ρ' 5= .pointer (some ⟨b5,0,none⟩)/\ρ' 6=vg/\ρ' 7= .pointer (some ⟨br,0,none⟩)/\True) ⟨rfl,rfl,rfl,rfl,trivial⟩ ?_;rintro ρk4 ⟨hk4_2,hk4_5,hk4_6,hk4_7,-⟩;refine J2 ?_;refine jp (ki rfl (hP.j4 hS.j4).sl ⟨_,Tryz.underlying110⟩ ?_);refine J1 ?_;refine jb ?_;rw[hpl];replace hS:=hS4;clear hS4;refine kx (λρ w'=>ρ 5=pB b5/\ρ 7=pB br/\∃LC,Gl j5 32 3 vc (ky n λk=>j8 ((sF y m y.pl.length).c k)) LC/\St w3 w' ([mW br vc (sF y m y.pl.length).r]++LC)) ?_ ?_
 ·refine ja ?_;refine ku (σ:=Nat) (λi ρ w'=>i<=y.pl.length/\ρ 5=pB b5/\ρ 6=vg/\ρ 7=pB br/\ρ 17=vP/\ρ 18=iB y.pl.length/\ρ 19=iB i/\∃LC,Gl j5 32 3 vc (ky n λk=>j8 ((sF y m i).c k)) LC/\St w3 w' ([mW br vc (sF y m i).r]++LC)) (λi=>y.pl.length-i) 0
   ⟨aB _,jY,jY,jY,rfl,rfl,rfl,LC,hG,hS⟩ ?_
  clear hS hG;rintro i ρ w6 ⟨hi,h5,h6,h7,h17,h18,h19,LC,hG,hS⟩;refine V1 ?_;by_cases hlt:i<y.pl.length
  ·refine V1 ?_;obtain⟨p,hp⟩:=jz (y.pl.getD i wo);have hpm':p∈y.pl:=by rw[hp];exact kE _ _ _ hlt
   have hmi:=hP3.mem i hlt;have hld:=hP3.ld i hlt;obtain⟨v2,hv2⟩:=jz (pv.getD i sa);obtain⟨lvi,hlvi⟩:=jz (lv.getD i []);rw[<-hp,<-hv2]at hmi hld;rw[<-hlvi]at hld;have hli:=hld.sl;obtain⟨ma,mc,hme,_⟩:=hmi.form;obtain⟨la,lc,hle,_⟩:=hli.form;obtain⟨u1,u2⟩:=v2;dsimp only at hmi hld hli hme hle;obtain⟨ll,hll⟩:=jz ((p.ld.zip lvi).length);rw[<-hll]at hle;obtain⟨ml,hml⟩:=jz ((nI p.mem).length);rw[<-hml]at hme;subst hme hle;have hsucc:=M3 y m hlt;have hplx:=hpl' i hlt;rw[<-hp]at hsucc hplx;refine jr ?_;refine jp (kj (i:=i) h17 h19 (hP3.j4 hS.j4).sl oO dO Ar (jq (kt (v:= .agg #[.slice ma ml mc,.slice la ll lc]) (i:=i) sa rfl qx (hP3.j4 hS.j4).sl oO rfl (by rw[<-hv2];rfl) (.inl rfl) ?_)));refine J1 ?_;intro b9 wz5 hS hBz5;refine J1 ?_;intro wz6 hS;refine ja ?_;replace hS:St w3 _ ([(b9,160,[.slice ma ml mc,.slice la ll lc]),mW br vc (sF y m i).r]++LC):=hS;refine ja ?_;refine kC [jo 0,ju 1,ju 2,jo 3,jo 5,jv 4,jw 6] kR kR hS ?_;intro wz7 hS hBz7;refine J5 ?_;refine jn rfl (j6 Tryz.call88 rfl (uC _ _ vg p.mem n (lF y m) _ (hmi.j4 hS.j4) (hg.j4 hS.j4) (hmem p hpm') (hd.s p hpm')) ?_);rintro r w7 ⟨rfl,hB7⟩;refine⟨hB7,?_⟩;replace hS:=hS.km hB7;refine jx rfl (j6 Tryz.call87 rfl (Kx br n vc _ p.ld lvi (n7 p.mem (lF y m)) (sF y m i) [(b9,160,[.slice ma ml mc,.slice la ll lc])] LC w3 _ (λwx A B h=>hld.j4 h.j4) hG (hS.perm (bU _ (List.Perm.swap _ _ _))) (hldo p hpm') (hd.p0 p hpm') (hd.pk p hpm') hplx (hd.pp p hpm')) ?_);rintro r w8 ⟨rfl,LC2,hG,hS⟩;rw[show qE (sF y m i) (qQ p.ld (n7 p.mem (lF y m)))=sF y m (i+1)from hsucc.symm]at hG hS;refine V2 ?_;exact⟨i+1,_,rfl,⟨hlt,jY,jY,jY,jY,jY,vi rfl oO,LC2,hG,(hS.perm (bU _ (List.Perm.swap _ _ _))).drop (ab _ _)⟩,oO⟩
  ·refine J1 ?_;refine jt ?_;obtain rfl:i=y.pl.length:=oO;exact⟨_,rfl,h5,h7,LC,hG,hS⟩
 clear hS hG;rintro ρ w6 ⟨h5,h7,LC,hG,hS⟩;replace hS:=(hS0.join hS).perm (Wd _ _ _);refine ja ?_;refine kC [jo 0,jo 1,jo 2,ju 3,jo 4,jo 5,jo 6,ju 7,jo 8,jw 9] kR kR hS ?_;intro wz8 hS hBz8;refine J1 ?_;refine jl rfl (mO rfl ?_);refine J3 ?_;refine jl rfl (mO rfl ?_);refine J4 ?_;intro wz9 hS;refine jt ?_;refine tP (k:=1) rfl h5 rfl kf hS rfl rfl ?_;exact⟨_,LC,rfl,hG,hS.drop (ai [_,_,_,_] LC)⟩
theorem Ao (vR vP:Value) (y:Ly) (vs:List Value) (pv:List (Value×Value)) (lv:List (List Value)) (m:Rat) (w:World) (hY:Qi w vR vP y vs pv lv) (hh:Ig y m):
  lU Tryz.prog 92 #[Nk y.n vR vP y.tot,kW (j8 m)] w λr w'=>∃v LO,r= .tuple #[v,kW (j8 (rR y m y.pl.length).r)]/\Gl j5 32 3 v (ky y.n λk=>j8 ((rR y m y.pl.length).c k)) LO/\St w w' LO:=by
 have hS:=St.init w;have hR:=hY.rk;have hP:=hY.pl;have hpm:=hP.sl.maxLen;have hpl:=hP.len;rw[hpl]at hpm;have hd:=hh.d;have hn:=hd.n;obtain⟨n,hn'⟩:∃n,n=y.n:=⟨_,rfl⟩;have hgross:=λw h=>y9 vR vP y vs m w h oO hd.rk hd.m0 hd.k hd.l hd.lp;have hrates:=λw h=>GP vR vP y vs m w h oO hd.rk hd.m0 hd.k hh.l hh.lp;have htake:=λva w h1 h2=>G0 vR vP va y pv lv (me y m) w h1 h2 hd.mem hn;have hrk:=hd.rk;have hmem:=hd.mem;have hldo:=hd.ld;have hpl':=hh.pl;rw[<-hn']at hn hgross htake hmem hldo hpl' hrates⊢;obtain⟨cl,hcl⟩:=jz (pG n vR vP y.tot);refine enter Tryz.func92 rfl Tryz.ntmps92 rfl ?_;refine jr ?_;refine jh (kZ (new:=pG n vR vP y.tot) rfl rfl hS ?_);intro b2 wz1 hS hBz1;refine jh (kZ (new:=j5 (j8 m)) rfl rfl hS ?_);intro b3 wz2 hS hBz2;refine J2 ?_;intro b5 wz3 hS hBz3;refine ja ?_;replace hS:St w _ [(b5,32,j5 kP),(b3,32,j5 (j8 m)),(b2,112,pG n vR vP y.tot)]:=hS;refine ja ?_;refine kC [ju 0,ju 1,ju 3,ju 4,jv 2,jv 5,jo 6,jo 7] kR kR hS ?_;intro wz4 hS hBz4;refine J4 ?_;refine jn rfl (j6 Tryz.call49 rfl (hgross _ (hR.j4 hS.j4)) ?_);rintro vg w3 ⟨LG,hg,hB3⟩;refine⟨hB3.j4,?_⟩;replace hg:=hg.sl (H:=[]) hB3 ks;replace hB3:=hB3.j4;replace hS:=hS.km hB3;refine jn rfl (j6 Tryz.call135 rfl (hrates _ (hR.j4 hS.j4)) ?_);rintro vr w3' ⟨LR,hr,hB3'⟩;refine⟨hB3'.j4,?_⟩;replace hr:=hr.sl (H:=[]) hB3' ks;replace hB3':=hB3'.j4;replace hS:=hS.km hB3';replace hg:=hg.j4 hB3';refine V2 ?_;have hB0:=hS.j4;have hS0:=hS;have hP3:=hP.j4 hB0;refine J2 ?_;refine jh (j6 Tryz.call86 rfl (htake vr _ (hP.j4 hS.j4) hr) ?_);rintro r w4 ⟨br,vc,LC,rfl,hG,hS4⟩;replace hS:St w _ ([mW br vc 0,(b5,32,j5 kP),(b3,32,j5 (j8 m)),(b2,112,pG n vR vP y.tot)]++LC):=(hS.join hS4).perm (Wd _ _ _);refine V1 ?_;refine nc (λρ'=>ρ' 2= .pointer (some ⟨b2,0,none⟩)/\ρ' 5= .pointer (some ⟨b5,0,none⟩)/\ρ' 6=vg/\ρ' 7=vr/\ρ' 8= .pointer (some ⟨br,0,none⟩)/\True) ⟨rfl,rfl,rfl,rfl,rfl,trivial⟩ ?_;rintro ρk5 ⟨hk5_2,hk5_5,hk5_6,hk5_7,hk5_8,-⟩;refine J2 ?_;refine jp (ki rfl (hP.j4 hS.j4).sl ⟨_,Tryz.underlying110⟩ ?_);refine J1 ?_;refine jb ?_;rw[hpl];replace hS:=hS4;clear hS4;refine kx (λρ w'=>ρ 5=pB b5/\ρ 8=pB br/\∃LC,Gl j5 32 3 vc (ky n λk=>j8 ((rR y m y.pl.length).c k)) LC/\St w3' w' ([mW br vc (rR y m y.pl.length).r]++LC)) ?_ ?_
 ·refine ja ?_;refine ku (σ:=Nat) (λi ρ w'=>i<=y.pl.length/\ρ 5=pB b5/\ρ 6=vg/\ρ 7=vr/\ρ 8=pB br/\ρ 21=vP/\ρ 22=iB y.pl.length/\ρ 23=iB i/\∃LC,Gl j5 32 3 vc (ky n λk=>j8 ((rR y m i).c k)) LC/\St w3' w' ([mW br vc (rR y m i).r]++LC)) (λi=>y.pl.length-i) 0
   ⟨aB _,jY,jY,jY,jY,rfl,rfl,rfl,LC,hG,hS⟩ ?_
  clear hS hG;rintro i ρ w6 ⟨hi,h5,h6,h7,h8,h21,h22,h23,LC,hG,hS⟩;refine V1 ?_;by_cases hlt:i<y.pl.length
  ·refine V1 ?_;obtain⟨p,hp⟩:=jz (y.pl.getD i wo);have hpm':p∈y.pl:=by rw[hp];exact kE _ _ _ hlt
   have hmi:=hP3.mem i hlt;have hld:=hP3.ld i hlt;obtain⟨v2,hv2⟩:=jz (pv.getD i sa);obtain⟨lvi,hlvi⟩:=jz (lv.getD i []);rw[<-hp,<-hv2]at hmi hld;rw[<-hlvi]at hld;have hli:=hld.sl;obtain⟨ma,mc,hme,_⟩:=hmi.form;obtain⟨la,lc,hle,_⟩:=hli.form;obtain⟨u1,u2⟩:=v2;dsimp only at hmi hld hli hme hle;obtain⟨ll,hll⟩:=jz ((p.ld.zip lvi).length);rw[<-hll]at hle;obtain⟨ml,hml⟩:=jz ((nI p.mem).length);rw[<-hml]at hme;subst hme hle;have hsucc:=MT y m hlt;have hplx:=hpl' i hlt;rw[<-hp]at hsucc hplx;refine jr ?_;refine jp (kj (i:=i) h21 h23 (hP3.j4 hS.j4).sl oO dO Ar (jq (kt (v:= .agg #[.slice ma ml mc,.slice la ll lc]) (i:=i) sa rfl qx (hP3.j4 hS.j4).sl oO rfl (by rw[<-hv2];rfl) (.inl rfl) ?_)));refine J1 ?_;intro b9 wz6 hS hBz6;refine J1 ?_;intro wz7 hS;refine ja ?_;replace hS:St w3' _ ([(b9,160,[.slice ma ml mc,.slice la ll lc]),mW br vc (rR y m i).r]++LC):=hS;refine ja ?_;refine kC [jo 0,ju 1,ju 2,jo 3,ju 5,jo 6,jo 8,jv 4,jv 7,jw 9] kR kR hS ?_;intro wz8 hS hBz8;refine J7 ?_;refine jn rfl (j6 Tryz.call88 rfl (uC _ _ vg p.mem n (lF y m) _ (hmi.j4 hS.j4) (hg.j4 hS.j4) (hmem p hpm') (hd.s p hpm')) ?_);rintro r w7 ⟨rfl,hB7⟩;refine⟨hB7,?_⟩;replace hS:=hS.km hB7;refine jn rfl (j6 Tryz.call88 rfl (uC _ _ vr p.mem n (me y m) _ (hmi.j4 hS.j4) (hr.j4 hS.j4) (hmem p hpm') (hh.s p hpm')) ?_);rintro r w7' ⟨rfl,hB7'⟩;refine⟨hB7',?_⟩;replace hS:=hS.km hB7';refine jx rfl (j6 Tryz.call136 rfl (DL br n vc _ p.ld lvi (n7 p.mem (lF y m)) (n7 p.mem (me y m)) (rR y m i) [(b9,160,[.slice ma ml mc,.slice la ll lc])] LC w3' _ (λwx A B h=>hld.j4 h.j4) hG (hS.perm (bU _ (List.Perm.swap _ _ _))) (hldo p hpm') (hd.p0 p hpm') (hd.pk p hpm') hplx (hh.pr p hpm') (hh.pp p hpm')) ?_);rintro r w8 ⟨rfl,LC2,hG,hS⟩;rw[show qE (rR y m i) (qj p.ld (n7 p.mem (lF y m)) (n7 p.mem (me y m)))=rR y m (i+1)from hsucc.symm]at hG hS;refine V2 ?_;exact⟨i+1,_,rfl,⟨hlt,jY,jY,jY,jY,jY,jY,vi rfl oO,LC2,hG,(hS.perm (bU _ (List.Perm.swap _ _ _))).drop (ab _ _)⟩,oO⟩
  ·refine J1 ?_;refine jt ?_;obtain rfl:i=y.pl.length:=oO;exact⟨_,rfl,h5,h8,LC,hG,hS⟩
 clear hS hG;rintro ρ w6 ⟨h5,h8,LC,hG,hS⟩;replace hS:=(hS0.join hS).perm (Wd _ _ _);refine ja ?_;refine kC [jo 0,jo 1,jo 2,ju 3,jo 4,jo 5,jo 6,ju 7,jo 8,jw 9] kR kR hS ?_;intro wz9 hS hBz9;refine J1 ?_;refine jl rfl (mO rfl ?_);refine J3 ?_;refine jl rfl (mO rfl ?_);refine J4 ?_;intro wz10 hS;refine jt ?_;refine tP (k:=1) rfl h5 rfl kf hS rfl rfl ?_;exact⟨_,LC,rfl,hG,hS.drop (ai [_,_,_,_] LC)⟩
theorem Pm {α:Type} (A B C:List α):(A++B++C).Perm (A++C++B):=by
 rw[aI,aI];exact bP _ aF
def rB (T:List Tr) (m:Rat):Rat:=(T.getD (lY T m) rH).sm-ri T m
def yD (y:Ly) (m:Rat) (p:Pl):Prop:=lY p.ld (n7 p.mem (lF y m))<p.ld.length/\0<n7 p.mem (me y m)
instance (y:Ly) (m:Rat) (p:Pl):Decidable (yD y m p):=by unfold yD;infer_instance
def xP (y:Ly) (m:Rat) (p:Pl):Rat:=rB p.ld (n7 p.mem (lF y m))/n7 p.mem (me y m)
def tg (y:Ly) (m:Rat) (o:Rat) (p:Pl):Rat:=if yD y m p then wq o (xP y m p)else o
def wX (y:Ly) (m:Rat) (i:Nat):Rat:=(y.pl.take i).foldl (tg y m) (rB y.rk m)
theorem MD (y:Ly) (m:Rat) {i:Nat} (h:i<y.pl.length):wX y m (i+1)=tg y m (wX y m i) (y.pl.getD i wo):=by
 unfold wX;rw[lE y.pl i wo h,eE];rfl
structure S2 (y:Ly) (m:Rat):Prop where
 s:Ig y m
 g:∀p∈y.pl,L (rB p.ld (n7 p.mem (lF y m)))+L (n7 p.mem (me y m))<=MX
 o:∀i,i<y.pl.length->L (wX y m i)+L (xP y m (y.pl.getD i wo))<=MX
theorem Oq (vR vP:Value) (y:Ly) (vs:List Value) (pv:List (Value×Value)) (lv:List (List Value)) (m:Rat) (w:World) (hY:Qi w vR vP y vs pv lv) (hh:S2 y m):
  lU Tryz.prog 147 #[Nk y.n vR vP y.tot,kW (j8 m)] w λr w'=>r=(if lY y.rk m<y.rk.length then .tuple #[kW (j8 (wX y m y.pl.length)),.bool true]else .tuple #[kW kP,.bool false])/\Below w.heap.size w w':=by
 have hS:=St.init w;have hR:=hY.rk;have hP:=hY.pl;have hpm:=hP.sl.maxLen;have hpl:=hP.len;rw[hpl]at hpm;have hd:=hh.s.d;have hn:=hd.n;obtain⟨n,hn'⟩:∃n,n=y.n:=⟨_,rfl⟩;have hgross:=λw h=>y9 vR vP y vs m w h oO hd.rk hd.m0 hd.k hd.l hd.lp;have hrates:=λw h=>GP vR vP y vs m w h oO hd.rk hd.m0 hd.k hh.s.l hh.s.lp;have hgap:=λw h=>JS vR y.rk vs m w h hd.k;have hmem:=hd.mem;rw[<-hn']at hn hgross hrates hmem⊢;refine enter Tryz.func147 rfl Tryz.ntmps147 rfl ?_;refine jr ?_;refine jh (kZ (new:=pG n vR vP y.tot) rfl rfl hS ?_);intro b2 wz1 hS hBz1;refine jh (kZ (new:=j5 (j8 m)) rfl rfl hS ?_);intro b3 wz2 hS hBz2;refine J1 ?_;intro b4 wz3 hS hBz3;refine V1 ?_;replace hS:St w _ [(b4,32,j5 kP),(b3,32,j5 (j8 m)),(b2,112,pG n vR vP y.tot)]:=hS;refine J3 ?_;refine jh (j6 Tryz.call177 rfl (hgap _ (hR.j4 hS.j4)) ?_);rintro r w3 ⟨rfl,hB3⟩;replace hS:=hS.km hB3;by_cases hlt:lY y.rk m<y.rk.length
 case neg=>
  rw[ah hlt,ah hlt];refine J4 ?_;intro b6 wz4 hS hBz4;refine J1 ?_;intro wz5 hS;refine V3 ?_;refine k9 rfl (rfl) ?_;refine jr ?_;refine jp (kT rfl px ?_);refine J1 ?_;intro wz6 hS;refine J1 ?_;refine jt ?_;refine nb (k:=1) rfl rfl rfl kf hS rfl rfl ?_;exact⟨rfl,hS.j4⟩
 rw[aj hlt,aj hlt];obtain⟨g0,hg0⟩:=jz ((y.rk.getD (lY y.rk m) rH).sm-ri y.rk m);have hs0:wX y m 0=g0:=hg0.symm;rw[<-hg0];refine J4 ?_;intro b6 wz7 hS hBz7;refine J1 ?_;intro wz8 hS;refine V1 ?_;refine nc (λρ'=>ρ' 2= .pointer (some ⟨b2,0,none⟩)/\ρ' 3= .pointer (some ⟨b3,0,none⟩)/\ρ' 4= .pointer (some ⟨b4,0,none⟩)/\ρ' 6= .pointer (some ⟨b6,0,none⟩)/\ρ' 7= .bool true/\True) ⟨rfl,rfl,rfl,rfl,rfl,trivial⟩ ?_;rintro ρk9 ⟨hk9_2,hk9_3,hk9_4,hk9_6,hk9_7,-⟩;refine V2 ?_;refine lx rfl (rfl) ?_;refine ja ?_;refine kC [ju 0,ju 1,ju 3,ju 4,jv 2,jv 5,jo 6,jo 7] kR kR hS ?_;intro wz10 hS hBz10;refine J4 ?_;refine jn rfl (j6 Tryz.call49 rfl (hgross _ (hR.j4 hS.j4)) ?_);rintro vg w4 ⟨LG,hg,hS4⟩;refine⟨hS4.j4,?_⟩;replace hS:St w _ ([(b6,32,j5 (j8 g0)),(b4,32,j5 kP),(b3,32,j5 (j8 m)),(b2,112,pG n vR vP y.tot)]++LG):=(hS.join hS4).perm aF;refine jn rfl (j6 Tryz.call135 rfl (hrates _ (hR.j4 hS.j4)) ?_);rintro vr w5 ⟨LR,hr,hS5⟩;refine⟨hS5.j4,?_⟩;replace hS:St w _ ([(b6,32,j5 (j8 g0)),(b4,32,j5 kP),(b3,32,j5 (j8 m)),(b2,112,pG n vR vP y.tot)]++LG++LR):=(hS.join hS5).perm aF;refine V2 ?_;refine nc (λρ'=>ρ' 2= .pointer (some ⟨b2,0,none⟩)/\ρ' 4= .pointer (some ⟨b4,0,none⟩)/\ρ' 6= .pointer (some ⟨b6,0,none⟩)/\ρ' 8=vg/\ρ' 9=vr/\True) ⟨hk9_2,hk9_4,hk9_6,rfl,rfl,trivial⟩ ?_;rintro ρk11 ⟨hk11_2,hk11_4,hk11_6,hk11_8,hk11_9,-⟩;refine J2 ?_;refine jp (ki rfl (hP.j4 hS.j4).sl ⟨_,Tryz.underlying110⟩ ?_);refine J1 ?_;refine jb ?_;rw[hpl];rw[<-hs0]at hS;refine kx (λρ w'=>ρ 4=pB b4/\ρ 6=pB b6/\St w w' [(b6,32,j5 (j8 (wX y m y.pl.length))),(b4,32,j5 kP)]) ?_ ?_
 ·refine ja ?_;refine ku (σ:=Nat) (λi ρ w'=>i<=y.pl.length/\ρ 4=pB b4/\ρ 6=pB b6/\ρ 8=vg/\ρ 9=vr/\ρ 34=vP/\ρ 35=iB y.pl.length/\ρ 36=iB i/\St w w' ([(b6,32,j5 (j8 (wX y m i))),(b4,32,j5 kP)]++LG++LR)) (λi=>y.pl.length-i) 0
   ⟨aB _,jY,jY,jY,jY,rfl,rfl,rfl,hS.drop (bn (bn (ak [_,_] [_,_]) (bK _)) (bK _))⟩ ?_
  clear hS hs0 hS4 hS5;rintro i ρ w6 ⟨hi,h4,h6,h8,h9,h34,h35,h36,hS⟩;refine V1 ?_;by_cases hil:i<y.pl.length
  ·refine V1 ?_;obtain⟨p,hp⟩:=jz (y.pl.getD i wo);have hpm':p∈y.pl:=by rw[hp];exact kE _ _ _ hil
   have hmi:=hP.mem i hil;have hld:=hP.ld i hil;obtain⟨v2,hv2⟩:=jz (pv.getD i sa);obtain⟨lvi,hlvi⟩:=jz (lv.getD i []);rw[<-hp,<-hv2]at hmi hld;rw[<-hlvi]at hld;have hli:=hld.sl;obtain⟨ma,mc,hme,_⟩:=hmi.form;obtain⟨la,lc,hle,_⟩:=hli.form;obtain⟨u1,u2⟩:=v2;dsimp only at hmi hld hli hme hle;obtain⟨ll,hll⟩:=jz ((p.ld.zip lvi).length);rw[<-hll]at hle;obtain⟨ml,hml⟩:=jz ((nI p.mem).length);rw[<-hml]at hme;subst hme hle;have hsucc:=MD y m hil;have hox:=hh.o i hil;rw[<-hp]at hsucc hox;have hgp:=hh.g p hpm';obtain⟨P,hPe⟩:=jz (n7 p.mem (lF y m));obtain⟨R,hRe⟩:=jz (n7 p.mem (me y m));have hpk:=hd.pk p hpm';rw[<-hPe,<-hRe]at hgp;rw[<-hPe]at hpk;obtain⟨o,ho⟩:=jz (wX y m i);rw[<-ho]at hS hsucc hox;have hstp:tg y m o p=if lY p.ld P<p.ld.length/\0<R then wq o (rB p.ld P/R)else o:=by
    unfold tg yD xP;rw[hPe,hRe]
   have hox2:L o+L (rB p.ld P/R)<=MX:=by rw[hPe,hRe];exact hox
   rw[hstp]at hsucc;clear hstp hox;obtain⟨gp,hgpe⟩:=jz (rB p.ld P);rw[<-hgpe]at hgp hox2 hsucc;refine jr ?_;refine jp (kj (i:=i) h34 h36 (hP.j4 hS.j4).sl oO dO Ar (jq (kt (v:= .agg #[.slice ma ml mc,.slice la ll lc]) (i:=i) sa rfl qx (hP.j4 hS.j4).sl oO rfl (by rw[<-hv2];rfl) (.inl rfl) ?_)));refine J1 ?_;intro b11 wz12 hS hBz12;refine J1 ?_;intro wz13 hS;refine ja ?_;replace hS:St w _ ([(b11,160,[.slice ma ml mc,.slice la ll lc]),(b6,32,j5 (j8 o)),(b4,32,j5 kP)]++LG++LR):=hS;refine J2 ?_;refine jh (j6 Tryz.call88 rfl (uC _ _ vr p.mem n (me y m) _ (hmi.j4 hS.j4) (hr.sl hS ks) (hmem p hpm') (hh.s.s p hpm')) ?_);rintro r w7 ⟨rfl,hB7⟩;rw[<-hRe];replace hS:=hS.km hB7;refine J1 ?_;intro b12 wz14 hS hBz14;refine J1 ?_;intro wz15 hS;refine ja ?_;replace hS:St w _ ([(b12,32,j5 (j8 R)),(b11,160,[.slice ma ml mc,.slice la ll lc]),(b6,32,j5 (j8 o)),(b4,32,j5 kP)]++LG++LR):=hS;have htotg:=λw h1 h2=>uC (.slice ma ml mc) (.slice la ll lc) vg p.mem n (lF y m) w h1 h2 (hmem p hpm') (hd.s p hpm');rw[<-hPe]at htotg;have hgapp:=λw h=>JS (.slice la ll lc) p.ld lvi P w h hpk;obtain⟨op,hop⟩:=jz (decide (lY p.ld P<p.ld.length));obtain⟨gv,hgv⟩:∃gv:Rat,gv=if lY p.ld P<p.ld.length then gp else 0:=⟨_,rfl⟩
   have hgr:(if lY p.ld P<p.ld.length then Value.tuple #[kW (j8 ((p.ld.getD (lY p.ld P) rH).sm-ri p.ld P)),.bool true]else .tuple #[kW kP,.bool false])= .tuple #[kW (j8 gv),.bool op]:=by
    rw[hop,hgv];by_cases g:lY p.ld P<p.ld.length
    ·rw[aj g,aj g,ao g,hgpe];rfl
    ·rw[ah g,ah g,ae g,o6]
   rw[hgr]at hgapp;refine ja ?_;refine nc (λρ'=>ρ' 4= .pointer (some ⟨b4,0,none⟩)/\ρ' 6= .pointer (some ⟨b6,0,none⟩)/\ρ' 8=vg/\ρ' 9=vr/\ρ' 34=vP/\ρ' 35= .int .i64 y.pl.length/\ρ' 36= .int .i64 i/\ρ' 11= .pointer (some ⟨b11,0,none⟩)/\ρ' 12= .pointer (some ⟨b12,0,none⟩)/\True) ⟨h4,h6,h8,h9,h34,h35,h36,rfl,rfl,trivial⟩ ?_;rintro ρk16 ⟨hk16_4,hk16_6,hk16_8,hk16_9,hk16_34,hk16_35,hk16_36,hk16_11,hk16_12,-⟩;refine kx (λρ w'=>ρ 4=pB b4/\ρ 6=pB b6/\ρ 8=vg/\ρ 9=vr/\ρ 34=vP/\ρ 35=iB y.pl.length/\ρ 36=iB i/\ρ 12=pB b12/\ρ 14= .bool op/\∃b13,ρ 13=pB b13/\
    St w w' ([(b13,32,j5 (j8 gv)),(b12,32,j5 (j8 R)),(b6,32,j5 (j8 o)),(b4,32,j5 kP)]++LG++LR)) ?_ ?_
   ·refine ja ?_;refine xy 9 [jo 0,ju 1,ju 2,jo 3,jv 4,jv 5,jo 6,jo 7,jo 8,jw 10,jo 11] kR kR hS ?_;intro wz17 hS hBz17;refine mC kR rfl rfl (lC hk16_11 Cc (qu kR rfl rfl (kO (k:=1) rfl tF hS rfl rfl rfl (.inr rfl) (qu kR rfl rfl (kO (k:=1) hk16_11 qx hS rfl rfl rfl (.inl rfl) (mC kR rfl rfl (ko hk16_8 ?_)))))));refine th rfl rfl ?_ ?_
    ·refine J1 ?_;intro b13 wz18 hS hBz18;refine⟨hBz18,?_⟩;refine jn rfl (j6 Tryz.call88 rfl (htotg _ (hmi.j4 hS.j4) (hg.sl (H:=(b13,32,j5 kP)::[(b12,32,j5 (j8 R)),(b11,160,[.slice ma ml mc,.slice la ll lc]),(b6,32,j5 (j8 o)),(b4,32,j5 kP)]++LR) (hS.perm (Pm ((b13,32,j5 kP)::[_,_,_,_]) _ _)) ks)) ?_);rintro r wa ⟨rfl,hBa⟩;refine⟨hBa,?_⟩;replace hS:=hS.km hBa;refine jn rfl (j6 Tryz.call177 rfl (hgapp _ (hld.j4 hS.j4)) ?_);rintro r wb ⟨rfl,hBb⟩;refine⟨hBb,?_⟩;replace hS:=hS.km hBb;refine J4 ?_;intro wz19 hS;refine V1 ?_;replace hS:St w _ ([(b13,32,j5 (j8 gv)),(b12,32,j5 (j8 R)),(b11,160,[.slice ma ml mc,.slice la ll lc]),(b6,32,j5 (j8 o)),(b4,32,j5 kP)]++LG++LR):=hS;exact⟨_,rfl,jY,jY,jY,jY,jY,jY,jY,jY,rfl,b13,rfl,hS.drop (List.Sublist.cons_cons _ (List.Sublist.cons_cons _ (ab _ _)))⟩
    ·refine j6 Tryz.call88 rfl (htotg _ (hmi.j4 hS.j4) (hg.sl (hS.perm (Pm _ _ _)) ks)) ?_;rintro r wa ⟨rfl,hBa⟩;refine⟨hBa,?_⟩;replace hS:=hS.km hBa;refine th rfl rfl ?_ ?_
     ·refine J1 ?_;intro b13 wz20 hS hBz20;refine⟨hBz20,?_⟩;refine jn rfl (j6 Tryz.call177 rfl (hgapp _ (hld.j4 hS.j4)) ?_);rintro r wb ⟨rfl,hBb⟩;refine⟨hBb,?_⟩;replace hS:=hS.km hBb;refine J4 ?_;intro wz21 hS;refine V1 ?_;replace hS:St w _ ([(b13,32,j5 (j8 gv)),(b12,32,j5 (j8 R)),(b11,160,[.slice ma ml mc,.slice la ll lc]),(b6,32,j5 (j8 o)),(b4,32,j5 kP)]++LG++LR):=hS;exact⟨_,rfl,jY,jY,jY,jY,jY,jY,jY,jY,rfl,b13,rfl,hS.drop (List.Sublist.cons_cons _ (List.Sublist.cons_cons _ (ab _ _)))⟩
     ·refine j6 Tryz.call177 rfl (hgapp _ (hld.j4 hS.j4)) ?_;rintro r wb ⟨rfl,hBb⟩;refine⟨hBb,?_⟩;replace hS:=hS.km hBb;refine mC kR rfl rfl (ko rfl (mC kR rfl rfl (wn rfl rfl (mC kR rfl rfl (wn rfl rfl (Ai kR ?_))))));refine J1 ?_;intro b13 wz22 hS hBz22;refine⟨hBz22,?_⟩;refine J1 ?_;intro wz23 hS;refine V1 ?_;replace hS:St w _ ([(b13,32,j5 (j8 gv)),(b12,32,j5 (j8 R)),(b11,160,[.slice ma ml mc,.slice la ll lc]),(b6,32,j5 (j8 o)),(b4,32,j5 kP)]++LG++LR):=hS;exact⟨_,rfl,jY,jY,jY,jY,jY,jY,jY,jY,rfl,b13,rfl,hS.drop (List.Sublist.cons_cons _ (List.Sublist.cons_cons _ (ab _ _)))⟩
   clear hS hgapp htotg h4 h6 h8 h9 h34 h35 h36;rintro ρ w8 ⟨h4,h6,h8,h9,h34,h35,h36,h12,h14,b13,h13,hS⟩;refine ja ?_;have hdone:∀wx,St w wx ([(b13,32,j5 (j8 gv)),(b12,32,j5 (j8 R)),(b6,32,j5 (j8 o)),(b4,32,j5 kP)]++LG++LR)->¬(lY p.ld P<p.ld.length/\0<R)->St w wx ([(b6,32,j5 (j8 (wX y m (i+1)))),(b4,32,j5 kP)]++LG++LR):=λwx h g=>by
    rw[hsucc,ah g];exact h.drop ((ab _ _).trans (ab _ _))
   by_cases hc:lY p.ld P<p.ld.length
   ·have hopt:op=true:=by rw[hop];exact ao hc
    have hgvt:gv=gp:=by rw[hgv,aj hc]
    refine J2 ?_;refine lj (j7 53 kR rfl hopt) (kO (k:=1) h12 kf hS rfl rfl rfl (.inl rfl) (pj (j7 53 kR rfl hopt) (j6 Tryz.call80 rfl (sb (j8 R) _ (by rw[Lr_ofQ];omega)) ?_)));rintro r w9 ⟨rfl,hB9⟩;rw[toQ_ofQ];replace hS:=hS.km hB9;refine ke (j7 53 kR rfl hopt) (t5 rfl rfl (jp (kA (vb rfl hopt) rfl ?_)));refine ja ?_;by_cases hr0:0<R
    ·rw[aj ⟨hc,hr0⟩]at hsucc;refine k9 rfl (ao (ny.2 hr0)) ?_;refine ja ?_;rw[hgvt]at hS;replace hS:St w _ ([(b13,32,j5 (j8 gp)),(b12,32,j5 (j8 R)),(b6,32,j5 (j8 o)),(b4,32,j5 kP)]++LG++LR):=hS;refine J2 ?_;refine jh (j6 Tryz.call108 rfl (vw (j8 gp) (j8 R) _ (by rw[Lr_ofQ,Lr_ofQ];exact hgp) (by rw[toQ_ofQ];intro g;rw[g]at hr0;exact absurd hr0 dz)) ?_);rintro r wa ⟨rfl,hBa⟩;rw[toQ_ofQ,toQ_ofQ];replace hS:=hS.km hBa;refine J4 ?_;intro b15 wz24 hS hBz24;refine J1 ?_;intro wz25 hS;refine V1 ?_;replace hS:St w _ ([(b15,32,j5 (j8 (gp/R))),(b13,32,j5 (j8 gp)),(b12,32,j5 (j8 R)),(b6,32,j5 (j8 o)),(b4,32,j5 kP)]++LG++LR):=hS;refine J2 ?_;refine jh (j6 Tryz.call129 rfl (KV (j8 o) (j8 (gp/R)) _ (by rw[Lr_ofQ,Lr_ofQ];exact hox2)) ?_);rintro r wb ⟨rfl,hBb⟩;rw[toQ_ofQ,toQ_ofQ,<-hsucc];replace hS:=hS.km hBb;refine J1 ?_;intro wz26 hS;refine ja ?_;replace hS:St w _ ([(b15,32,j5 (j8 (gp/R))),(b13,32,j5 (j8 gp)),(b12,32,j5 (j8 R)),(b6,32,j5 (j8 (wX y m (i+1)))),(b4,32,j5 kP)]++LG++LR):=hS;refine V2 ?_;exact⟨i+1,_,rfl,⟨hil,jY,jY,jY,jY,jY,jY,vi rfl oO,hS.drop (((ab _ _).trans (ab _ _)).trans (ab _ _))⟩,oO⟩
    ·refine lx rfl (ae (λg=>hr0 (ny.1 g))) ?_;refine V2 ?_;exact⟨i+1,_,rfl,⟨hil,jY,jY,jY,jY,jY,jY,vi rfl oO,hdone _ hS (λg=>hr0 g.2)⟩,oO⟩
   ·have hopf:op=false:=by rw[hop];exact ae hc
    refine J2 ?_;refine kL (ka 53 kR rfl hopf) (kL (ka 53 kR rfl hopf) (kL (ka 53 kR rfl hopf) (jp (kA (vb rfl hopf) rfl ?_))));refine ja ?_;refine lx rfl (rfl) ?_;refine V2 ?_;exact⟨i+1,_,rfl,⟨hil,jY,jY,jY,jY,jY,jY,vi rfl oO,hdone _ hS (λg=>hc g.1)⟩,oO⟩
  ·refine J1 ?_;refine jt ?_;obtain rfl:i=y.pl.length:=oO;exact⟨_,rfl,h4,h6,hS.drop ((ak _ _).trans (ak _ _))⟩
 clear hS hS4 hS5;rintro ρ w6 ⟨h4,h6,hS⟩;refine J2 ?_;intro wz27 hS;refine J1 ?_;refine jt ?_;refine nb (k:=1) rfl h4 rfl kf hS rfl rfl ?_;exact⟨rfl,hS.j4⟩
theorem MF (va vb:Value) (A B:List RR) (w:World) (ha:Sl j5 3 w va A) (hb:Sl j5 3 w vb B):
  lU Tryz.prog 148 #[va,vb] w λr w'=>r= .bool (decide (A=B))/\Below w.heap.size w w':=by
 have hma:=ha.maxLen;have hmb:=hb.maxLen;have hS:=St.init w;refine enter Tryz.func148 rfl Tryz.ntmps148 rfl ?_;refine J2 ?_;refine jp (ki rfl (ha.j4 hS.j4) ⟨_,Tryz.underlying34⟩ ?_);refine J1 ?_;refine jp (ki rfl (hb.j4 hS.j4) ⟨_,Tryz.underlying34⟩ ?_);refine V1 ?_;by_cases hl:A.length=B.length
 case neg=>
  rw[ae (λe=>hl (by rw[e]))];refine J2 ?_;refine jt ?_;refine kB rfl rfl ?_;exact⟨rfl,hS.j4⟩
 refine J2 ?_;refine jp (ki rfl (ha.j4 hS.j4) ⟨_,Tryz.underlying34⟩ ?_);refine V1 ?_;refine ku (σ:=Nat) (λi ρ w'=>i<=A.length/\A.take i=B.take i/\ρ 0=va/\ρ 1=vb/\ρ 12=iB A.length/\ρ 13=iB i/\St w w' []) (λi=>A.length-i) 0
  ⟨aB _,by rw[fh,fh],rfl,rfl,rfl,rfl,hS⟩ ?_
 clear hS;rintro i ρ w2 ⟨hi,heq,h0,h1,h12,h13,hS⟩;refine V1 ?_;by_cases hlt:i<A.length
 ·refine V3 ?_;refine kC [jo 0,jo 1,jo 2,ju 3,jo 4,jo 5,jo 6,ju 7,jo 8] kR kR hS ?_;intro wz1 hS hBz1;refine J2 ?_;refine jl rfl (kj (i:=i) rfl rfl (ha.j4 hS.j4) oO dO kK (jm rfl (kt (i:=i) kP rfl kf (ha.j4 hS.j4) dO rfl rfl (.inl rfl) ?_)));refine J2 ?_;refine jl rfl (kj (i:=i) rfl rfl (hb.j4 hS.j4) oO dO kK (jm rfl (kt (i:=i) kP rfl kf (hb.j4 hS.j4) dO rfl rfl (.inl rfl) (jl rfl (GX rfl rfl ?_)))));refine ja ?_;by_cases hne:A.getD i kP=B.getD i kP
  ·refine lx rfl (ae (λg=>g hne)) ?_;refine V2 ?_;refine⟨i+1,_,rfl,⟨hlt,?_,h0,h1,h12,vi rfl oO,hS⟩,oO⟩;rw[lE A i kP hlt,lE B i kP oO,heq,hne]
  ·rw[ae (λe=>hne (by rw[e]))];refine k9 rfl (ao hne) ?_;refine J1 ?_;refine jt ?_;refine kB rfl rfl ?_;exact⟨rfl,hS.j4⟩
 ·refine J1 ?_;refine jt ?_;rw[aV oO,aV oO]at heq;rw[ao heq];refine J1 ?_;refine jt ?_;refine kB rfl rfl ?_;exact⟨rfl,hS.j4⟩
theorem Ep (vR vP:Value) (y:Ly) (w:World):lU Tryz.prog 51 #[Nk y.n vR vP y.tot] w λr w'=>r=kW (j8 y.tot)/\Below w.heap.size w w':=by
 have hS:=St.init w;refine enter Tryz.func51 rfl Tryz.ntmps51 rfl ?_;refine jr ?_;refine jh (kZ (new:=pG y.n vR vP y.tot) rfl rfl hS ?_);intro b1 wz1 hS hBz1;refine J1 ?_;intro b2 wz2 hS hBz2;refine J3 ?_;intro wz3 hS;refine jt ?_;refine mb (k:=0) rfl rfl kf hS rfl rfl ?_;exact⟨rfl,hS.j4⟩
def Fo (y:Ly) (m:Rat):RR:=j8 (rR y m y.pl.length).r
def K9 (y:Ly) (m:Rat):List RR:=ky y.n λk=>j8 ((rR y m y.pl.length).c k)
def yU (y:Ly) (m:Rat):Rat:=m+wX y m y.pl.length
def Gk (y:Ly) (m0:Rat):Nat->Rat->Option Rat
 |0,_=>none
 |f+1,m=>if lY y.rk m<y.rk.length then(if Fo y (yU y m)=Fo y m0/\K9 y (yU y m)=K9 y m0 then Gk y m0 f (yU y m)else some (yU y m))else none
def U7 (y:Ly) (m0:Rat):Nat->Rat->Prop
 |0,_=>False
 |f+1,m=>S2 y m/\(lY y.rk m<y.rk.length->L m+L (wX y m y.pl.length)<=MX/\Ig y (yU y m)/\(Fo y (yU y m)=Fo y m0/\K9 y (yU y m)=K9 y m0->U7 y m0 f (yU y m)))
def Xg (o:Option Rat):Value:= .tuple #[kW (match o with|some q=>j8 q|none=>kP),.bool o.isSome]
theorem Nn (vR vP:Value) (y:Ly) (vs:List Value) (pv:List (Value×Value)) (lv:List (List Value)) (m:Rat) (F:Nat) (w:World) (hY:Qi w vR vP y vs pv lv) (hs:Ig y m) (hh:U7 y m F m):
  lU Tryz.prog 109 #[Nk y.n vR vP y.tot,kW (j8 m)] w λr w'=>r=Xg (Gk y m F m)/\Below w.heap.size w w':=by
 have hS:=St.init w;have hslp:=λx w h1 h2=>Ao vR vP y vs pv lv x w h1 h2;have hstp:=λx w h1 h2=>Oq vR vP y vs pv lv x w h1 h2;obtain⟨ty,hty⟩:=jz y.tot;obtain⟨n,hn'⟩:∃n,n=y.n:=⟨_,rfl⟩;rw[<-hn',<-hty]at hslp hstp⊢;obtain⟨res,hres⟩:=jz (Gk y m F m);rw[<-hres];have hsT:∀x,(ky n λk=>j8 ((rR y x y.pl.length).c k))=K9 y x:=λx=>by rw[hn'];rfl
 have hsR:∀x,j8 (rR y x y.pl.length).r=Fo y x:=λx=>rfl;refine enter Tryz.func109 rfl Tryz.ntmps109 rfl ?_;refine jr ?_;refine jh (kZ (new:=pG n vR vP ty) rfl rfl hS ?_);intro b2 wz1 hS hBz1;refine jh (kZ (new:=j5 (j8 m)) rfl rfl hS ?_);intro b3 wz2 hS hBz2;refine J1 ?_;intro b4 wz3 hS hBz3;refine V1 ?_;replace hS:St w _ [(b4,32,j5 kP),(b3,32,j5 (j8 m)),(b2,112,pG n vR vP ty)]:=hS;refine J2 ?_;refine jh (j6 Tryz.call92 rfl (hslp m _ (hY.j4 hS.j4) hs) ?_);rintro r w3 ⟨v6,L6,rfl,hG6,hS3⟩;rw[hsT]at hG6;rw[hsR];replace hS:=(hS.join hS3).perm aF;refine J4 ?_;intro b7 wz4 hS hBz4;refine J2 ?_;intro wz5 hS;refine jb ?_;replace hS:St w _ ([(b7,32,j5 (Fo y m)),(b4,32,j5 kP),(b3,32,j5 (j8 m)),(b2,112,pG n vR vP ty)]++L6):=hS;clear hS3;refine ja ?_;refine ku (σ:=Nat×Rat) (λs ρ w'=>ρ 2=pB b2/\ρ 3=pB b3/\ρ 4=pB b4/\ρ 6=v6/\ρ 7=pB b7/\U7 y m s.1 s.2/\Gk y m s.1 s.2=res/\
   St w w' ([(b7,32,j5 (Fo y m)),(b4,32,j5 kP),(b3,32,j5 (j8 s.2)),(b2,112,pG n vR vP ty)]++L6)) (λs=>s.1) (F,m)
  ⟨rfl,rfl,rfl,rfl,rfl,hh,hres.symm,hS⟩ ?_
 clear hS hh hres;rintro⟨f,x⟩ ρ w4 ⟨h2,h3,h4,h6,h7,hx,hnx,hS⟩;dsimp only at hx hnx hS;obtain _|f:=f
 ·exact hx.elim
 obtain⟨hst,hop⟩:=hx;have e1:Gk y m (f+1) x=if lY y.rk x<y.rk.length then(if Fo y (yU y x)=Fo y m/\K9 y (yU y x)=K9 y m then Gk y m f (yU y x)else some (yU y x))else none:=rfl
 rw[e1]at hnx;clear e1;refine J2 ?_;refine jh (j6 Tryz.call147 rfl (hstp x _ (hY.j4 hS.j4) hst) ?_);rintro r w5 ⟨rfl,hB5⟩;replace hS:=hS.km hB5;by_cases hlt:lY y.rk x<y.rk.length
 case neg=>
  rw[ah hlt];rw[ah hlt]at hnx;subst hnx;refine J4 ?_;intro b8 wz6 hS hBz6;refine J1 ?_;intro wz7 hS;refine V3 ?_;refine k9 rfl (rfl) ?_;refine jr ?_;refine jp (kT rfl px ?_);refine J1 ?_;intro wz8 hS;refine J1 ?_;refine jt ?_;refine nb (k:=2) rfl h4 rfl kf hS rfl rfl ?_;exact⟨rfl,hS.j4⟩
 rw[aj hlt];rw[aj hlt]at hnx;obtain⟨hL1,hs1,hrec⟩:=hop hlt;obtain⟨sq,hsq⟩:=jz (wX y x y.pl.length);rw[<-hsq]at hL1⊢;have hnm:x+sq=yU y x:=by rw[hsq];rfl
 obtain⟨x',hx'⟩:∃x',x'=yU y x:=⟨_,rfl⟩;rw[<-hx']at hnx hs1 hrec hnm;refine J4 ?_;intro b8 wz9 hS hBz9;refine J1 ?_;intro wz10 hS;refine V3 ?_;refine lx rfl (rfl) ?_;refine J2 ?_;refine jh (j6 Tryz.call18 rfl (ob (j8 x) (j8 sq) _ (by rw[Lr_ofQ,Lr_ofQ];exact hL1)) ?_);rintro r w6 ⟨rfl,hB6⟩;rw[toQ_ofQ,toQ_ofQ,hnm];replace hS:=hS.km hB6;refine J1 ?_;intro wz11 hS;refine ja ?_;replace hS:St w _ ([(b8,32,j5 (j8 sq)),(b7,32,j5 (Fo y m)),(b4,32,j5 kP),(b3,32,j5 (j8 x')),(b2,112,pG n vR vP ty)]++L6):=hS;refine ja ?_;refine nc (λρ'=>ρ' 2= .pointer (some ⟨b2,0,none⟩)/\ρ' 3= .pointer (some ⟨b3,0,none⟩)/\ρ' 4= .pointer (some ⟨b4,0,none⟩)/\ρ' 6=v6/\ρ' 7= .pointer (some ⟨b7,0,none⟩)/\True) ⟨h2,h3,h4,h6,h7,trivial⟩ ?_;rintro ρk12 ⟨hk12_2,hk12_3,hk12_4,hk12_6,hk12_7,-⟩;refine J2 ?_;refine jh (j6 Tryz.call92 rfl (hslp x' _ (hY.j4 hS.j4) hs1) ?_);rintro r w7 ⟨v10,L10,rfl,hG10,hS7⟩;rw[hsT]at hG10;rw[hsR];replace hS:St w _ (([(b8,32,j5 (j8 sq)),(b7,32,j5 (Fo y m)),(b4,32,j5 kP),(b3,32,j5 (j8 x')),(b2,112,pG n vR vP ty)]++L6)++L10):=(hS.join hS7).perm aF;clear hS7;refine J4 ?_;intro b11 wz13 hS hBz13;refine J2 ?_;intro wz14 hS;refine ja ?_;replace hS:St w _ (([(b11,32,j5 (Fo y x')),(b8,32,j5 (j8 sq)),(b7,32,j5 (Fo y m)),(b4,32,j5 kP),(b3,32,j5 (j8 x')),(b2,112,pG n vR vP ty)]++L6)++L10):=hS;refine ja ?_;refine nc (λρ'=>ρ' 2= .pointer (some ⟨b2,0,none⟩)/\ρ' 3= .pointer (some ⟨b3,0,none⟩)/\ρ' 4= .pointer (some ⟨b4,0,none⟩)/\ρ' 6=v6/\ρ' 7= .pointer (some ⟨b7,0,none⟩)/\ρ' 10=v10/\ρ' 11= .pointer (some ⟨b11,0,none⟩)/\True) ⟨hk12_2,hk12_3,hk12_4,hk12_6,hk12_7,rfl,rfl,trivial⟩ ?_;rintro ρk15 ⟨hk15_2,hk15_3,hk15_4,hk15_6,hk15_7,hk15_10,hk15_11,-⟩;have hsl6:=hG6.sl (hS.perm (Pm _ _ _)) ks;have hsl10:=hG10.sl hS ks;have hback:=λwx (h:St w wx (([(b11,32,j5 (Fo y x')),(b8,32,j5 (j8 sq)),(b7,32,j5 (Fo y m)),(b4,32,j5 kP),(b3,32,j5 (j8 x')),(b2,112,pG n vR vP ty)]++L6)++L10))=>(h.drop (ak _ _)).drop ((ab _ _).trans (ab _ _));by_cases hr:Fo y x'=Fo y m
 ·refine J2 ?_;refine jp (GX rfl rfl ?_);refine J1 ?_;refine ke (j7 39 kR rfl (ae (λg=>g hr))) (ko hk15_10 ?_);refine ke (j7 39 kR rfl (ae (λg=>g hr))) (ko hk15_6 ?_);refine pj (j7 39 kR rfl (ae (λg=>g hr))) (j6 Tryz.call148 rfl (MF v10 v6 _ _ _ hsl10 hsl6) ?_);rintro r w8 ⟨rfl,hB8⟩;replace hS:=hS.km hB8;by_cases ht:K9 y x'=K9 y m
  ·rw[ao ht];rw[aj ⟨hr,ht⟩]at hnx;refine ke (j7 39 kR rfl (ae (λg=>g hr))) (xU rfl ?_);refine jp (kA (vb rfl (ae (λg=>g hr))) rfl ?_);refine ja ?_;refine lx rfl (rfl) ?_;refine ja ?_;exact⟨(f,x'),_,rfl,⟨jY,jY,jY,jY,jY,hrec ⟨hr,ht⟩,hnx,hback _ hS⟩,eo _⟩
  ·rw[ae ht];rw[ah (λg=>ht g.2)]at hnx;subst hnx;refine ke (j7 39 kR rfl (ae (λg=>g hr))) (xU rfl ?_);refine jp (kA (vb rfl (ae (λg=>g hr))) rfl ?_);refine ja ?_;refine k9 rfl (rfl) ?_;refine J2 ?_;intro wz16 hS;refine J1 ?_;refine jt ?_;refine nb (k:=3) rfl hk15_4 rfl kf hS rfl rfl ?_;exact⟨rfl,hS.j4⟩
 ·rw[ah (λg=>hr g.1)]at hnx;subst hnx;refine J2 ?_;refine jp (GX rfl rfl ?_);refine J1 ?_;refine kL (ka 39 kR rfl (ao hr)) (kL (ka 39 kR rfl (ao hr)) (kL (ka 39 kR rfl (ao hr)) (kL (ka 39 kR rfl (ao hr)) (jp (kA (vb rfl (ao hr)) rfl ?_)))));refine ja ?_;refine k9 rfl (rfl) ?_;refine J2 ?_;intro wz17 hS;refine J1 ?_;refine jt ?_;refine nb (k:=3) rfl hk15_4 rfl kf hS rfl rfl ?_;exact⟨rfl,hS.j4⟩
theorem O3 {w0 w:World} {H:List kU} {k b o:Nat} {T:TypeId} {cs pre mid post:List Value} (hS:St w0 w H) (hk:H[k]?=some (b,T,cs)) (e:cs=pre++(mid++post)) (ho:o=pre.length):At w ⟨b,o,none⟩ mid:=by
 have:=hS.at hk o mid.length;rw[e,ho,List.drop_left,List.take_left]at this;rw[ho];exact this
theorem Jg (pre X Y post:List Value) (v:Value) (h:X.length=Y.length):splice (pre++v::(X++post)) (pre.length+1) Y=pre++v::(Y++post):=by
 unfold splice;have e:pre++v::(X++post)=((pre++[v])++X)++post:=by simp
 have l1:(pre++[v]).length=pre.length+1:=by simp
 have l2:((pre++[v])++X).length=pre.length+1+Y.length:=by rw[aG,l1,h]
 rw[e,<-l2,List.drop_left,<-l1,aI (pre++[v]),List.take_left];simp
theorem Pb (c:Int) (r:RR):Tryz.prog.built 207 [(0,.int .i64 c),(1,kW r)]=some #[.int .i64 c,.bool r.neg,.string r.num,.string r.den]:=by kernel_rfl
theorem Kl (b:Nat) (T:TypeId) (pre post:List Value) (v:Value) (t:Tr) (p:Pa) (H LP:List kU) (w0 w:World) (hG:Gl ph 207 4 v t.ps LP) (hS:St w0 w (((b,T,pre++v::(j5 (j8 t.sm)++post))::H)++LP)) (hn:t.ps.length<=1000) (hL:L t.sm+L p.q<=MX):
  lU Tryz.prog 84 #[.pointer (some ⟨b,pre.length,none⟩),.int .i64 p.c,kW (j8 p.q)] w λr w'=>r= .tuple #[]/\∃v' LP',Gl ph 207 4 v' (t.ps++[p]) LP'/\St w0 w' (((b,T,pre++v'::(j5 (j8 (t.sm+p.q))++post))::H)++LP'):=by
 refine enter Tryz.func84 rfl Tryz.ntmps84 rfl ?_;refine jr ?_;refine jh (kZ (new:=j5 (j8 p.q)) rfl rfl hS ?_);intro b5 wz1 hS hBz1;refine ja ?_;replace hS:St w0 _ (((b5,32,j5 (j8 p.q))::(b,T,pre++v::(j5 (j8 t.sm)++post))::H)++LP):=hS;refine ja ?_;refine kC [jo 0,jo 1,jo 2,jo 3,ju 4,jo 5,ju 6,jo 7,jv 8,jw 9,jo 10,jo 11,jw 12] kR kR hS ?_;intro wz2 hS hBz2;refine J2 ?_;refine jl rfl (mO rfl ?_);refine J1 ?_;refine jm rfl (oB (cs:=[v]) rfl ur (O3 (k:=1) hS rfl (pre:=pre) (mid:=[v]) rfl rfl) rfl rfl (.inr rfl) ?_);refine J2 ?_;refine jl rfl (kT rfl (Pb _ _) (jn rfl (mD (vs:=[SI p]) rfl FE rfl dD dD dD (by simp[Value.cells,SI]) rfl hS ?_)));intro b3 wz4 hS hBz4;refine⟨hBz4,?_⟩;refine jx rfl (mf [p] rfl rfl FE dD hG hS rfl rfl D9 (Mq [p]) dL dL ?_);intro va5 La5 wa5 hG hS hga5;refine jl rfl (mO rfl ?_);refine J1 ?_;refine jx rfl (nM (k:=1) rfl rfl ur hS rfl (by simp) (by obtain⟨a,c,h⟩:=hG.len;rw[h];rfl) ?_);intro wz6 hS;refine ja ?_;replace hS:St w0 _ (((b5,32,j5 (j8 p.q))::(b,T,(pre++v::(j5 (j8 t.sm)++post)).set pre.length va5)::H)++_):=hS;rw[Bp _ _ _ _ rfl]at hS;refine ja ?_;refine kC [jo 0,jo 1,jo 2,jo 3,ju 4,ju 5,jv 6,jo 7,jo 8,jw 9] kR kR hS ?_;intro wz7 hS hBz7;refine J2 ?_;refine jl rfl (mO rfl ?_);refine J1 ?_;refine jm rfl (oB (v:=kW (j8 t.sm)) (cs:=j5 (j8 t.sm)) rfl kf (O3 (k:=1) hS rfl (pre:=pre++[va5]) (mid:=j5 (j8 t.sm)) (post:=post) (by simp) (by simp)) rfl rfl (.inl rfl) ?_);refine J1 ?_;refine jn rfl (j6 Tryz.call18 rfl (ob (j8 t.sm) (j8 p.q) _ (by rw[Lr_ofQ,Lr_ofQ];exact hL)) ?_);rintro r w3 ⟨rfl,hB3⟩;refine⟨hB3,?_⟩;rw[toQ_ofQ,toQ_ofQ];replace hS:=hS.km hB3;refine jl rfl (mO rfl ?_);refine J1 ?_;refine jx rfl (lI (k:=1) (new:=j5 (j8 (t.sm+p.q))) rfl rfl kf hS rfl rfl rfl (by simp[j5];omega) rfl ?_);intro wz8 hS;refine ja ?_;replace hS:St w0 _ (((b5,32,j5 (j8 p.q))::(b,T,splice (pre++va5::(j5 (j8 t.sm)++post)) (pre.length+1) (j5 (j8 (t.sm+p.q))))::H)++_):=hS;rw[Jg pre (j5 (j8 t.sm)) (j5 (j8 (t.sm+p.q))) post va5 rfl]at hS;exact pU rfl ⟨rfl,_,_,hG,hS.drop (ab _ _)⟩
def nF (b:Bool):List Value:=[.bool b]
theorem mz (b:Bool):(nF b).length=1:=rfl
theorem Fz (p q:Rat):decide (sU p q<0)=decide (p<q):=by
 rcases tw p q with⟨h1,h2⟩|⟨h1,h2⟩|⟨h1,h2⟩
 ·rw[h2,ao h1];rfl
 ·rw[h2,ae (by rw[h1];exact dz:¬p<q)];rfl
 ·rw[h2,ae (by grind:¬p<q)];rfl
theorem Kz (p q:Rat):decide (0<sU p q)=decide (q<p):=by
 rcases tw p q with⟨h1,h2⟩|⟨h1,h2⟩|⟨h1,h2⟩
 ·rw[h2,ae (by grind:¬q<p)];rfl
 ·rw[h2,ae (by rw[h1];exact dz:¬q<p)];rfl
 ·rw[h2,ao h1];rfl
theorem ES (p q:Rat):decide (0<=sU p q)=decide (q<=p):=by
 rcases tw p q with⟨h1,h2⟩|⟨h1,h2⟩|⟨h1,h2⟩
 ·rw[h2,ae (by grind:¬q<=p)];rfl
 ·rw[h2,ao (by rw[h1];exact bS:q<=p)];rfl
 ·rw[h2,ao (by grind:q<=p)];rfl
def Hy (n i:Nat) (R:List (Rw RR)):List Value:=R.map Rw.v++List.replicate (n-i) kd
theorem D6 (n:Nat) (w:World) (hn:n<=1000):
  lU Tryz.prog 93 #[.int .i64 n] w λv w'=>∃bo R,v= .slice (some ⟨bo,0,none⟩) n n/\mx R n n (qM λ_ _=>0)/\St w w' (mB j5 32 34 bo R []):=by
 have hS:=St.init w;refine enter Tryz.func93 rfl Tryz.ntmps93 rfl ?_;refine J2 ?_;refine jh (Av (n:=n) rfl rfl lH oO oO oO oO hS ?_);intro bo wz1 hS hBz1;refine V1 ?_;replace hS:St w _ [(bo,34,rep n [kd])]:=hS;rw[FX]at hS;refine J3 ?_;refine jb ?_;refine kx (λρ w'=>ρ 3= .slice (some ⟨bo,0,none⟩) n n/\∃R,mx R n n (qM λ_ _=>0)/\St w w' (mB j5 32 34 bo R [])) ?_ ?_
 ·refine ja ?_;refine ku (σ:=Nat) (λi ρ w'=>i<=n/\ρ 0=iB n/\ρ 3= .slice (some ⟨bo,0,none⟩) n n/\ρ 8=iB n/\ρ 9=iB i/\∃R,mx R i n (qM λ_ _=>0)/\St w w' ((bo,34,Hy n i R)::R.map (Rw.xO j5 32))) (λi=>n-i) 0
   ⟨aB _,rfl,rfl,rfl,rfl,[],⟨rfl,λi hi=>absurd hi (aW _),λi hi=>absurd hi (aW _)⟩,hS⟩ ?_
  clear hS;rintro i ρ w2 ⟨hi,h0,h3,h8,h9,R,hR,hS⟩;refine V1 ?_;by_cases hlt:i<n
  ·refine V1 ?_;have hlR:(R.map Rw.v).length=i:=by rw[aS,hR.len]
   have hfit:i<(Hy n i R).length:=by unfold Hy;rw[aG,hlR,eP];omega
   refine J5 ?_;refine jh (lR (enc:=j5) (n:=n) kP rfl rfl kK rfl oO oO oO oO hS ?_);intro b15 wz2 hS hBz2;refine jp (kD (i:=i) rfl rfl oO dO lH (jh (rY [_] (i:=i) rfl rfl lQ hS oO hfit rfl ?_)));intro wz3 hS;refine V2 ?_;have hX:(⟨b15,n,List.replicate n kP,[]⟩:Rw RR).X=ky n (qM (λ_ _=>0) i):=lB n;refine⟨i+1,_,rfl,⟨hlt,jY,jY,jY,vi rfl oO,R++[⟨b15,n,List.replicate n kP,[]⟩],Ak hR hX ⟨aH _,by show n<=_;omega⟩,?_⟩,oO⟩;obtain⟨d,hd⟩:∃d,n-i=d+1:=⟨n-i-1,oO⟩;have e:(Hy n i R).set i (.slice (some ⟨b15,0,none⟩) n n)=Hy n (i+1) (R++[⟨b15,n,List.replicate n kP,[]⟩]):=by
    unfold Hy;rw[hd,fU,Bp _ _ _ _ hlR,bH,aI,show n-(i+1)=d by omega];show _=R.map Rw.v++([.slice (some ⟨b15,0,none⟩) (List.replicate n kP).length n]++_);rw[eP];rfl
   replace hS:St w _ ([(b15,32,(List.replicate n kP).flatMap j5)]++(bo,34,(Hy n i R).set i (.slice (some ⟨b15,0,none⟩) n n))::R.map (Rw.xO j5 32)):=hS;rw[e]at hS;refine hS.perm ?_;rw[bH];show List.Perm ((b15,32,(List.replicate n kP).flatMap j5)::(bo,34,_)::_) ((bo,34,_)::(_++[(b15,32,(List.replicate n kP).flatMap j5++[])]));rw[aU];exact(List.Perm.swap _ _ _).trans (List.Perm.cons _ (eD _ _).symm)
  ·refine J1 ?_;refine jt ?_;obtain rfl:i=n:=oO;refine⟨_,rfl,h3,R,hR,?_⟩;unfold Hy at hS;rw[ec,jy,aU]at hS;unfold mB;rw[aU];exact hS
 clear hS;rintro ρ w2 ⟨h3,R,hR,hS⟩;refine J2 ?_;refine jt ?_;refine kB rfl rfl ?_;exact⟨bo,R,rfl,hR,hS⟩
def ry (M:Mx) (i j:Nat) (q:Rat):Mx:=λa b=>if a=i/\b=j then M i j+q else M a b
theorem EG {R:List (Rw RR)} {n m:Nat} {M:Mx} {w0:World} {bo:Nat} {pre H:List kU} (c i j:Nat) (q:Rat) (w:World) (hR:mx R n m (qM M)) (hi:i<n) (hj:j<m) (hL:L (M i j)+L q<=MX) (hS:St w0 w (pre++mB j5 32 34 bo R H)):
  lU Tryz.prog 94 #[.slice (some ⟨bo,0,none⟩) n c,.int .i64 i,.int .i64 j,kW (j8 q)] w λv w'=>v= .tuple #[]/\∃R',mx R' n m (qM (ry M i j q))/\St w0 w' (pre++mB j5 32 34 bo R' H):=by
 have hli:i<R.length:=by rw[hR.len];exact hi
 have hxi:j<(R.getD i ov).X.length:=by rw[hR.xQ hi];exact hj
 have hg:(R.getD i ov).X.getD j kP=j8 (M i j):=hR.get hi hj _;have hadd:=λw=>ob (j8 (M i j)) (j8 q) w (by rw[Lr_ofQ,Lr_ofQ];exact hL);rw[toQ_ofQ,toQ_ofQ]at hadd;refine enter Tryz.func94 rfl Tryz.ntmps94 rfl ?_;refine jr ?_;refine jh (kZ (new:=j5 (j8 q)) rfl rfl hS ?_);intro b7 wz1 hS hBz1;refine ja ?_;replace hS:St w0 _ (((b7,32,j5 (j8 q))::pre)++mB j5 32 34 bo R H):=hS;refine ja ?_;refine kC [jo 0,jo 1,jo 2,ju 3,jo 4,jo 5,jo 6,jo 7,ju 8,jo 9,jo 10,ju 11,ju 12,jv 13,jo 14,jw 15] kR kR hS ?_;intro wz2 hS hBz2;refine J2 ?_;refine jl rfl (kD (i:=i) rfl rfl oO dO lH (jm rfl (nh (_::pre) (i:=i) rfl lQ hS oO hli ?_)));refine J3 ?_;refine jl rfl (kD (i:=i) rfl rfl oO dO lH (jm rfl (nh (_::pre) (i:=i) rfl lQ hS oO hli ?_)));refine J1 ?_;refine jl rfl (kD (i:=j) rfl rfl oO dO kK (jm rfl (qW (_::pre) (i:=i) (j:=j) kP ks rfl kf hS rfl hli oO hxi rfl (.inl rfl) ?_)));refine J1 ?_;rw[hg];refine jn rfl (j6 Tryz.call18 rfl (hadd _) ?_);rintro _ wc3 ⟨rfl,hBc3⟩;replace hS:=hS.km hBc3;refine⟨hBc3,?_⟩;refine jl rfl (kD (i:=j) rfl rfl oO dO kK (jx rfl (x9 (_::pre) (i:=i) (j:=j) (j8 (M i j+q)) ks rfl rfl kf hS rfl hli oO hxi rfl rfl ?_)));intro wz4 hS;refine ja ?_;refine pU rfl ⟨rfl,_,(hR.put hi j (j8 (M i j+q))).congr λa _ b _=> ?_,hS.drop (ab _ _)⟩;show(if a=i/\b=j then j8 (M i j+q)else j8 (M a b))=j8 (ry M i j q a b);unfold ry;split<;>rfl
def qP (M:Mx) (c k:Nat):Rat:=kg (λi=>M i c) k
def Gp (M:Mx) (n c:Nat):Bool:=decide (qP M c n<1)
theorem Qg (v:Value) (vs:List Value) (n m:Nat) (M:Mx) (c:Nat) (w:World) (hA:rJ j5 3 w v (ws n m (qM M)) vs) (hc:c<m) (hL:∀i,i<n->L (qP M c i)+L (M i c)<=MX) (hL2:L (qP M c n)+1<=MX):
  lU Tryz.prog 101 #[v,.int .i64 c] w λu w'=>u= .bool (Gp M n c)/\Below w.heap.size w w':=by
 have hmx:=hA.sl.maxLen;have hlen:=hA.len;rw[mQ]at hlen;have hL1:L 1<=1:=FO (n:=1) dD;have hS:=St.init w;refine enter Tryz.func101 rfl Tryz.ntmps101 rfl ?_;refine Y1 ?_;refine jp (kT rfl px ?_);refine J1 ?_;intro b5 wz1 hS hBz1;refine J1 ?_;intro wz2 hS;refine ja ?_;replace hS:St w _ [(b5,32,j5 kP)]:=hS;rw[o6]at hS;refine J1 ?_;refine jp (ki rfl (hA.sl.j4 hS.j4) ⟨_,Tryz.underlying35⟩ ?_);refine J1 ?_;refine jb ?_;rw[hlen];refine kx (λρ w'=>ρ 5=pB b5/\St w w' [(b5,32,j5 (j8 (qP M c n)))]) ?_ ?_
 ·refine ja ?_;refine ku (σ:=Nat) (λi ρ w'=>i<=n/\ρ 1=iB c/\ρ 5=pB b5/\ρ 9=v/\ρ 10=iB n/\ρ 11=iB i/\St w w' [(b5,32,j5 (j8 (qP M c i)))]) (λi=>n-i) 0
   ⟨aB _,rfl,rfl,rfl,rfl,rfl,hS⟩ ?_
  clear hS;rintro i ρ w2 ⟨hi,h1,h5,h9,h10,h11,hS⟩;refine V1 ?_;by_cases hlt:i<n
  ·refine V1 ?_;have hrow:=hA.row i (by rw[mQ];exact hlt);rw[pD _ hlt]at hrow;have htl:=j9 m (qM M i);have hg:(ky m (qM M i)).getD c kP=j8 (M i c):=kz _ _ hc;have hadd:=λw=>ob (j8 (qP M c i)) (j8 (M i c)) w (by rw[Lr_ofQ,Lr_ofQ];exact hL i hlt);rw[toQ_ofQ,toQ_ofQ]at hadd;refine jr ?_;refine jp (kj (i:=i) h9 h11 (hA.sl.j4 hS.j4) oO dO lH (jq (kt (i:=i) undef rfl lQ (hA.sl.j4 hS.j4) dO rfl rfl (.inr rfl) ?_)));refine V1 ?_;refine kC [ju 0,jo 1,jo 2,jo 3,ju 4,jv 5,jw 6] kR kR hS ?_;intro wz3 hS hBz3;refine J3 ?_;refine jl rfl (kj (i:=c) rfl rfl (hrow.j4 hS.j4) oO dO kK (jm rfl (kt (i:=c) kP rfl kf (hrow.j4 hS.j4) dO rfl rfl (.inl rfl) ?_)));rw[hg];refine jn rfl (j6 Tryz.call18 rfl (hadd _) ?_);rintro _ wc4 ⟨rfl,hBc4⟩;replace hS:=hS.km hBc4;refine⟨hBc4,?_⟩;refine J1 ?_;intro wz5 hS;refine V2 ?_;exact⟨i+1,_,rfl,⟨hlt,jY,jY,jY,jY,vi rfl oO,hS⟩,oO⟩
  ·refine J1 ?_;refine jt ?_;obtain rfl:i=n:=oO;exact⟨_,rfl,h5,hS⟩
 clear hS;rintro ρ w2 ⟨h5,hS⟩;refine ja ?_;refine kC [ju 0,jv 1,jv 2,jo 3,jo 4] kR kR hS ?_;intro wz6 hS hBz6;refine J1 ?_;refine jn rfl (j6 Tryz.call33 rfl (mI 1 _ dD dD) ?_);rintro _ wc7 ⟨rfl,hBc7⟩;replace hS:=hS.km hBc7;refine⟨hBc7,?_⟩;rw[show((1:Int):Rat)=1 from rfl];refine jn rfl (j6 Tryz.call50 rfl (pg _ _ _ (by rw[Lr_ofQ,Lr_ofQ];omega)) ?_);rintro _ wc8 ⟨rfl,hBc8⟩;replace hS:=hS.km hBc8;refine⟨hBc8,?_⟩;refine V2 ?_;rw[toQ_ofQ,toQ_ofQ];refine jt ?_;refine kB rfl rfl ?_;refine⟨?_,hS.j4⟩;show Value.bool (decide (sU (qP M c n) 1<0))=Value.bool (Gp M n c);rw[Fz];rfl
def tO (B:List Bool) (k:Nat):List Nat:=(List.range k).filter λi=>B.getD i false
theorem Jy (B:List Bool) (k:Nat):tO B (k+1)=if B.getD k false=true then tO B k++[k]else tO B k:=by
 unfold tO;rw[iT,ij];by_cases h:B.getD k false=true
 ·rw[aj h];rw[ap]at h;simp[h]
 ·rw[ah h];rw[ap]at h;simp[h]
theorem z7 (B:List Bool) (k:Nat):(tO B k).length<=k:=by
 have:=iY (λi=>B.getD i false) (List.range k);rw[dI]at this;exact this
theorem Lu (v:Value) (B:List Bool) (w:World) (hv:Sl nF 1 w v B) (hn:B.length<=1000):
  lU Tryz.prog 62 #[v] w λr w'=>∃LO,Gl sK 3 1 r (nI (tO B B.length)) LO/\St w w' LO:=by
 have hS:=St.init w;refine enter Tryz.func62 rfl Tryz.ntmps62 rfl ?_;refine J3 ?_;refine jp (ki rfl (hv.j4 hS.j4) ⟨_,Tryz.underlying36⟩ ?_);refine J1 ?_;refine jb ?_;refine kx (λρ w'=>∃vo LO,ρ 3=vo/\Gl sK 3 1 vo (nI (tO B B.length)) LO/\St w w' LO) ?_ ?_
 ·refine ja ?_;refine ku (σ:=Nat) (λi ρ w'=>i<=B.length/\ρ 6=v/\ρ 7=iB B.length/\ρ 8=iB i/\∃vo LO,ρ 3=vo/\Gl sK 3 1 vo (nI (tO B i)) LO/\St w w' ([]++LO)) (λi=>B.length-i) 0
   ⟨aB _,rfl,rfl,rfl,_,[],rfl,Gl.nil _ _ _,hS⟩ ?_
  clear hS;rintro i ρ w2 ⟨hi,h6,h7,h8,vo,LO,h3,hG,hS⟩;have hll:=z7 B i;have hnl:=rT (tO B i);refine V1 ?_;by_cases hlt:i<B.length
  ·refine V1 ?_;have hts:=Jy B i;refine J1 ?_;refine jp (kj (i:=i) h6 h8 (hv.j4 hS.j4) oO dO pT (jq (kt (i:=i) false rfl p9 (hv.j4 hS.j4) dO rfl rfl (.inr rfl) ?_)));refine J3 ?_;refine jb ?_;refine kx (λρ w'=>ρ 6=v/\ρ 7=iB B.length/\ρ 8=iB i/\∃vo LO,ρ 3=vo/\Gl sK 3 1 vo (nI (tO B (i+1))) LO/\St w w' ([]++LO)) ?_ ?_
   ·refine ja ?_;by_cases hb:B.getD i false=true
    ·refine k9 rfl (hb) ?_;refine ja ?_;rw[aj hb]at hts;refine J2 ?_;refine jh (mD (vs:=[.int .i64 i]) rfl py rfl dD dD dD (by simp[Value.cells]) rfl hS ?_);intro b16 wz1 hS hBz1;refine jh (mf [(i:Int)] rfl rfl py dD hG hS rfl rfl (λ_=>rfl) (λu hu=>by rw[aZ.1 (show u∈[Value.int .i64 (i:Int)]from hu)];rfl) dL dL ?_);intro va2 La2 wa2 hG hS hga2;refine V1 ?_;rw[hts,K0];exact⟨_,rfl,jY,jY,jY,_,_,rfl,hG,hS⟩
    ·refine lx rfl (by simpa using hb) ?_;refine ja ?_;rw[ah hb]at hts;rw[hts];exact⟨_,rfl,jY,jY,jY,vo,_,jY,hG,hS⟩
   clear hS hG;rintro ρ w3 ⟨h6,h7,h8,vo,LO,h3,hG,hS⟩;refine V2 ?_;exact⟨i+1,_,rfl,⟨hlt,jY,jY,vi rfl oO,_,_,jY,hG,hS⟩,oO⟩
  ·refine J1 ?_;refine jt ?_;obtain rfl:i=B.length:=oO;exact⟨_,rfl,vo,LO,h3,hG,hS⟩
 clear hS;rintro ρ w2 ⟨vo,LO,h3,hG,hS⟩;refine J2 ?_;refine jt ?_;refine kB rfl rfl ?_;exact⟨LO,hG,hS⟩
def RD (x d:Nat->Rat) (h:Rat) (i k:Nat):Rat:=if k<i then x k+h*d k else 0
theorem Bu (n:Nat) (f g:Nat->Rat) (i:Nat) (q:Rat) (h:∀k,k<n->(if k=i then q else f k)=g k):(ky n λk=>j8 (f k)).set i (j8 q)=ky n λk=>j8 (g k):=by
 rw[yJ];exact kF λk hk=>by rw[h k hk]
theorem yK (vx vd:Value) (n:Nat) (x d:Nat->Rat) (h:Rat) (w:World) (hx:Sl j5 3 w vx (ky n λi=>j8 (x i))) (hd:Sl j5 3 w vd (ky n λi=>j8 (d i))) (hn:n<=1000) (hL:∀i,i<n->L (x i)+L h+L (d i)+2<=MX):
  lU Tryz.prog 64 #[vx,vd,kW (j8 h)] w λr w'=>∃LO,Gl j5 32 3 r (ky n λi=>j8 (x i+h*d i)) LO/\St w w' LO:=by
 have hS:=St.init w;have hlx:=j9 n λi=>j8 (x i);have hld:=j9 n λi=>j8 (d i);refine enter Tryz.func64 rfl Tryz.ntmps64 rfl ?_;refine jr ?_;refine jh (kZ (new:=j5 (j8 h)) rfl rfl hS ?_);intro b5 wz1 hS hBz1;refine J2 ?_;refine jp (ki rfl (hx.j4 hS.j4) ⟨_,Tryz.underlying34⟩ (jh (lR (enc:=j5) (n:=n) kP rfl rfl kK rfl oO oO oO oO hS ?_)));intro b11 wz2 hS hBz2;refine V1 ?_;replace hS:St w _ ([(b5,32,j5 (j8 h))]++[(b11,32,(List.replicate n kP).flatMap j5)]):=hS.perm (List.Perm.swap _ _ _);rw[lB]at hS;have hG:Gl j5 32 3 (.slice (some ⟨b11,0,none⟩) n n) (ky n λk=>j8 (RD x d h 0 k)) [(b11,32,(ky n λk=>j8 (RD x d h 0 k)).flatMap j5)]:=pK (j9 _ _) oO;refine J1 ?_;refine jp (ki rfl (hx.j4 hS.j4) ⟨_,Tryz.underlying34⟩ ?_);refine J1 ?_;refine jb ?_;rw[hlx];refine kx (λρ w'=>∃LO,ρ 7= .slice (some ⟨b11,0,none⟩) n n/\Gl j5 32 3 (.slice (some ⟨b11,0,none⟩) n n) (ky n λi=>j8 (x i+h*d i)) LO/\St w w' LO) ?_ ?_
 ·refine ja ?_;refine ku (σ:=Nat) (λi ρ w'=>i<=n/\ρ 0=vx/\ρ 1=vd/\ρ 5=pB b5/\ρ 7= .slice (some ⟨b11,0,none⟩) n n/\ρ 13=iB n/\ρ 14=iB i/\∃LO,Gl j5 32 3 (.slice (some ⟨b11,0,none⟩) n n) (ky n λk=>j8 (RD x d h i k)) LO/\St w w' ([(b5,32,j5 (j8 h))]++LO)) (λi=>n-i) 0
   ⟨aB _,rfl,rfl,rfl,rfl,rfl,rfl,_,hG,hS⟩ ?_
  clear hS hG;rintro i ρ w2 ⟨hi,h0,h1,h5,h7,h13,h14,LO,hG,hS⟩;have htl:=j9 n λk=>j8 (RD x d h i k);refine V1 ?_;by_cases hlt:i<n
  ·refine V1 ?_;have hgx:(ky n λi=>j8 (x i)).getD i kP=j8 (x i):=kz _ _ hlt;have hgd:(ky n λi=>j8 (d i)).getD i kP=j8 (d i):=kz _ _ hlt;have hLi:=hL i hlt;have hm:=zM h (d i);have hmul:=λw=>pu (j8 h) (j8 (d i)) w (by rw[Lr_ofQ,Lr_ofQ];omega);rw[toQ_ofQ,toQ_ofQ]at hmul;have hadd:=λw=>ob (j8 (x i)) (j8 (h*d i)) w (by rw[Lr_ofQ,Lr_ofQ];omega);rw[toQ_ofQ,toQ_ofQ]at hadd;refine V2 ?_;refine kC [jo 0,jo 1,jo 2,jo 3,jo 4,ju 5,ju 6,jo 7,jo 8,jo 9,ju 10,jv 11,jv 12,jo 13,jw 14] kR kR hS ?_;intro wz3 hS hBz3;refine J4 ?_;refine jl rfl (kj (i:=i) rfl rfl (hx.j4 hS.j4) oO dO kK (jm rfl (kt (i:=i) kP rfl kf (hx.j4 hS.j4) dO rfl rfl (.inl rfl) ?_)));refine J3 ?_;refine jl rfl (kj (i:=i) rfl rfl (hd.j4 hS.j4) oO dO kK (jm rfl (kt (i:=i) kP rfl kf (hd.j4 hS.j4) dO rfl rfl (.inl rfl) ?_)));rw[hgx,hgd];refine jn rfl (j6 Tryz.call11 rfl (hmul _) ?_);rintro _ wc4 ⟨rfl,hBc4⟩;replace hS:=hS.km hBc4;refine⟨hBc4,?_⟩;refine jn rfl (j6 Tryz.call18 rfl (hadd _) ?_);rintro _ wc5 ⟨rfl,hBc5⟩;replace hS:=hS.km hBc5;refine⟨hBc5,?_⟩;refine jl rfl (kj (i:=i) rfl rfl (hG.sl hS ks) oO dO kK (jx rfl (tD (i:=i) (j8 (x i+h*d i)) ks rfl rfl kf hG hS oO rfl rfl ?_)));intro wz6 hS;refine ja ?_;obtain⟨LC2,hG,hS⟩:=hS;rw[Bu n (RD x d h i) (RD x d h (i+1)) i (x i+h*d i) (λk _=>by
    unfold RD;by_cases e:k=i
    ·rw[aj e,aj oO,e]
    ·rw[ah e];by_cases e2:k<i
     ·rw[aj e2,aj oO]
     ·rw[ah e2,ah oO])]at hG
   refine V2 ?_;exact⟨i+1,_,rfl,⟨hlt,jY,jY,jY,jY,jY,vi rfl oO,_,hG,hS⟩,oO⟩
  ·refine J1 ?_;refine jt ?_;obtain rfl:i=n:=oO;have e:(ky i λk=>j8 (RD x d h i k))=ky i λk=>j8 (x k+h*d k):=kF λk hk=>by unfold RD;rw[aj hk]
   rw[e]at hG;exact⟨_,rfl,LO,h7,hG,hS.drop (ai _ _)⟩
 clear hS hG;rintro ρ w2 ⟨LO,h7,hG,hS⟩;refine J2 ?_;refine jt ?_;refine kB rfl rfl ?_;exact⟨LO,hG,hS⟩
def uz (C:List Nat) (l:Nat->Rat) (k i:Nat):Rat:=if i∈C.take k then l (C.idxOf i)else 0
theorem vV (C:List Nat) (hC:C.Nodup) {k:Nat} (hk:k<C.length):C.idxOf (C.getD k 0)=k:=by
 rw[ap,aJ hk,fc];exact List.Nodup.idxOf_getElem hC k hk
theorem DK (vc vl:Value) (n:Nat) (C:List Nat) (l:Nat->Rat) (w:World) (hc:Sl sK 1 w vc (nI C)) (hl:Sl j5 3 w vl (ky C.length λi=>j8 (l i))) (hC:C.Nodup) (hCn:∀i∈C,i<n) (hn:n<=1000):
  lU Tryz.prog 104 #[.int .i64 n,vc,vl] w λr w'=>∃LO,Gl j5 32 3 r (ky n λi=>j8 (uz C l C.length i)) LO/\St w w' LO:=by
 have hS:=St.init w;have hll:=j9 C.length λi=>j8 (l i);have hnl:=rT C;have hmx:=hc.maxLen;refine enter Tryz.func104 rfl Tryz.ntmps104 rfl ?_;refine J2 ?_;refine jh (lR (enc:=j5) (n:=n) kP rfl rfl kK rfl oO oO oO oO hS ?_);intro b11 wz1 hS hBz1;refine V1 ?_;replace hS:St w _ ([]++[(b11,32,(List.replicate n kP).flatMap j5)]):=hS;rw[lB]at hS;have hG:Gl j5 32 3 (.slice (some ⟨b11,0,none⟩) n n) (ky n λk=>j8 (uz C l 0 k)) [(b11,32,(ky n λk=>j8 (uz C l 0 k)).flatMap j5)]:=pK (j9 _ _) oO;refine J1 ?_;refine jp (ki rfl (hc.j4 hS.j4) ⟨_,Tryz.underlying46⟩ ?_);refine J1 ?_;refine jb ?_;rw[hnl];refine kx (λρ w'=>∃LO,ρ 7= .slice (some ⟨b11,0,none⟩) n n/\Gl j5 32 3 (.slice (some ⟨b11,0,none⟩) n n) (ky n λi=>j8 (uz C l C.length i)) LO/\St w w' LO) ?_ ?_
 ·refine ja ?_;refine ku (σ:=Nat) (λi ρ w'=>i<=C.length/\ρ 2=vl/\ρ 7= .slice (some ⟨b11,0,none⟩) n n/\ρ 12=vc/\ρ 13=iB C.length/\ρ 14=iB i/\∃LO,Gl j5 32 3 (.slice (some ⟨b11,0,none⟩) n n) (ky n λk=>j8 (uz C l i k)) LO/\St w w' ([]++LO)) (λi=>C.length-i) 0
   ⟨aB _,rfl,rfl,rfl,rfl,rfl,_,hG,hS⟩ ?_
  clear hS hG;rintro i ρ w2 ⟨hi,h2,h7,h12,h13,h14,LO,hG,hS⟩;have htl:=j9 n λk=>j8 (uz C l i k);refine V1 ?_;by_cases hlt:i<C.length
  ·refine V1 ?_;obtain⟨k,hk⟩:=jz (C.getD i 0);have hkn:k<n:=hCn k (by rw[hk];exact kE _ _ _ hlt);have hni:(nI C).getD i 0=(k:Int):=by unfold nI;rw[getD_map _ _ 0 _ hlt,hk]
   have hgl:(ky C.length λi=>j8 (l i)).getD i kP=j8 (l i):=kz _ _ hlt;have ht:=lE C i 0 hlt;rw[<-hk]at ht;have hix:=vV C hC hlt;rw[<-hk]at hix;refine J1 ?_;refine jp (kj (i:=i) h12 h14 (hc.j4 hS.j4) oO dO py (jq (kt (i:=i) 0 rfl nm (hc.j4 hS.j4) dO rfl rfl (.inr rfl) ?_)));refine V2 ?_;rw[hni];refine J4 ?_;refine jp (kj (i:=i) rfl rfl (hl.j4 hS.j4) oO dO kK (jq (kt (i:=i) kP rfl kf (hl.j4 hS.j4) dO rfl rfl (.inl rfl) (jp (kj (i:=k) rfl rfl (hG.sl hS ks) oO dO kK (jh (tD (i:=k) (j8 (l i)) ks rfl rfl kf hG hS oO (by rw[hgl];rfl) rfl ?_)))))));intro wz2 hS;refine ja ?_;obtain⟨LC2,hG,hS⟩:=hS;rw[Bu n (uz C l i) (uz C l (i+1)) k (l i) (λa _=>by
    unfold uz;rw[ht];by_cases e:a=k
    ·rw[aj e,aj (by rw[e];simp),e,hix]
    ·rw[ah e];have:a∈C.take i++[k]↔a∈C.take i:=by simp[e]
     simp only[this])]at hG
   refine V2 ?_;exact⟨i+1,_,rfl,⟨hlt,jY,jY,jY,jY,vi rfl oO,_,hG,hS⟩,oO⟩
  ·refine J1 ?_;refine jt ?_;obtain rfl:i=C.length:=oO;exact⟨_,rfl,LO,h7,hG,hS⟩
 clear hS hG;rintro ρ w2 ⟨LO,h7,hG,hS⟩;refine J2 ?_;refine jt ?_;refine kB rfl rfl ?_;exact⟨LO,hG,hS⟩
def sx (M:Mx) (C:List Nat):Mx:=λa b=>M (C.getD a 0) (C.getD b 0)-(if a=b then 1 else 0)
def yi (M:Mx) (C:List Nat) (i j:Nat):Mx:=λa b=>if a<i then sx M C a b else if a=i/\b<j then M (C.getD a 0) (C.getD b 0)else 0
theorem Ps (v vc:Value) (vs:List Value) (n:Nat) (M:Mx) (C:List Nat) (w:World) (hA:rJ j5 3 w v (ws n n (qM M)) vs) (hc:Sl sK 1 w vc (nI C)) (hCn:∀i∈C,i<n) (hn:C.length<=1000) (hL:∀i,i<C.length->L (M (C.getD i 0) (C.getD i 0))+1<=MX):
  lU Tryz.prog 103 #[v,vc] w λr w'=>∃bo R,r= .slice (some ⟨bo,0,none⟩) C.length C.length/\mx R C.length C.length (qM (sx M C))/\St w w' (mB j5 32 34 bo R []):=by
 have hS:=St.init w;have hmx:=hA.sl.maxLen;have hlen:=hA.len;rw[mQ]at hlen;have hnl:=rT C;have hL1:L 1<=1:=FO (n:=1) dD;obtain⟨m,hm⟩:=jz C.length;rw[<-hm]at hn hL hnl⊢;refine enter Tryz.func103 rfl Tryz.ntmps103 rfl ?_;refine J2 ?_;refine jp (ki rfl (hc.j4 hS.j4) ⟨_,Tryz.underlying46⟩ ?_);rw[hnl];refine jh (j6 Tryz.call93 rfl (D6 m _ hn) ?_);rintro r w3 ⟨bo,R0,rfl,hR0,hS3⟩;replace hS:=hS.join hS3;refine V1 ?_;rw[aU]at hS;refine J1 ?_;refine jp (ki rfl (hc.j4 hS.j4) ⟨_,Tryz.underlying46⟩ ?_);refine J1 ?_;refine jb ?_;rw[hnl];refine kx (λρ w'=>ρ 5= .slice (some ⟨bo,0,none⟩) m m/\∃R,mx R m m (qM (sx M C))/\St w w' (mB j5 32 34 bo R [])) ?_ ?_
 ·refine ja ?_;refine ku (σ:=Nat) (λi ρ w'=>i<=m/\ρ 0=v/\ρ 1=vc/\ρ 5= .slice (some ⟨bo,0,none⟩) m m/\ρ 13=vc/\ρ 14=iB m/\ρ 15=iB i/\∃R,mx R m m (qM (yi M C i 0))/\St w w' (mB j5 32 34 bo R [])) (λi=>m-i) 0
   ⟨aB _,rfl,rfl,rfl,rfl,rfl,rfl,R0,hR0.congr λa _ b _=>by show j8 0=j8 (yi M C 0 0 a b);unfold yi;rw[ah oO,ah oO],hS⟩ ?_
  clear hS hR0;rintro i ρ w2 ⟨hi,h0,h1,h5,h13,h14,h15,R,hR,hS⟩;refine V1 ?_;by_cases hlt:i<m
  ·refine V1 ?_;obtain⟨k,hk⟩:=jz (C.getD i 0);have hkn:k<n:=hCn k (by rw[hk];exact kE _ _ _ oO);have hni:(nI C).getD i 0=(k:Int):=by unfold nI;rw[getD_map _ _ 0 _ oO,hk]
   have hrow:=hA.row k (by rw[mQ];exact hkn);rw[pD _ hkn]at hrow;have htl:=j9 n (qM M k);refine J1 ?_;refine jp (kj (i:=i) h13 h15 (hc.j4 hS.j4) oO dO py (jq (kt (i:=i) 0 rfl nm (hc.j4 hS.j4) dO rfl rfl (.inr rfl) ?_)));refine V2 ?_;rw[hni];refine J1 ?_;refine jp (ki rfl (hc.j4 hS.j4) ⟨_,Tryz.underlying46⟩ ?_);refine J1 ?_;refine jb ?_;rw[hnl];refine kx (λρ w'=>ρ 0=v/\ρ 1=vc/\ρ 5= .slice (some ⟨bo,0,none⟩) m m/\ρ 6=iB i/\ρ 13=vc/\ρ 14=iB m/\ρ 15=iB i/\∃R,mx R m m (qM (yi M C i m))/\St w w' (mB j5 32 34 bo R [])) ?_ ?_
   ·refine ja ?_;refine ku (σ:=Nat) (λj ρ w'=>j<=m/\ρ 0=v/\ρ 1=vc/\ρ 5= .slice (some ⟨bo,0,none⟩) m m/\ρ 6=iB i/\ρ 7=iB k/\ρ 13=vc/\ρ 14=iB m/\ρ 15=iB i/\ρ 20=vc/\ρ 21=iB m/\ρ 22=iB j/\∃R,mx R m m (qM (yi M C i j))/\St w w' (mB j5 32 34 bo R [])) (λj=>m-j) 0
     ⟨aB _,jY,jY,jY,rfl,rfl,jY,jY,jY,rfl,rfl,rfl,R,hR,hS⟩ ?_
    clear hS hR;rintro j ρ w4 ⟨hj,h0,h1,h5,h6,h7,h13,h14,h15,h20,h21,h22,R,hR,hS⟩;refine V1 ?_;by_cases hjl:j<m
    ·refine V1 ?_;obtain⟨q,hq⟩:=jz (C.getD j 0);have hqn:q<n:=hCn q (by rw[hq];exact kE _ _ _ oO);have hnj:(nI C).getD j 0=(q:Int):=by unfold nI;rw[getD_map _ _ 0 _ oO,hq]
     have hli:i<R.length:=by rw[hR.len];exact hlt
     have hxi:j<(R.getD i ov).X.length:=by rw[hR.xQ hlt];exact hjl
     have hg:(ky n (qM M k)).getD q kP=j8 (M k q):=kz _ _ hqn;refine J1 ?_;refine jp (kj (i:=j) h20 h22 (hc.j4 hS.j4) oO dO py (jq (kt (i:=j) 0 rfl nm (hc.j4 hS.j4) dO rfl rfl (.inr rfl) ?_)));refine V2 ?_;rw[hnj];refine ja ?_;refine kC [jo 0,jo 1,jo 2,ju 3,jo 4,jo 5,jo 6,jo 7,ju 8,jo 9,jo 10,ju 11,jo 12,jw 13] kR kR hS ?_;intro wz1 hS hBz1;refine J2 ?_;refine jl rfl (kD (i:=i) rfl rfl oO dO lH (jm rfl (nh [] (i:=i) rfl lQ hS oO hli ?_)));refine J3 ?_;refine jl rfl (kj (i:=k) rfl rfl (hA.sl.j4 hS.j4) oO dO lH (jm rfl (kt (i:=k) undef rfl lQ (hA.sl.j4 hS.j4) dO rfl rfl (.inr rfl) ?_)));refine J1 ?_;refine jl rfl (kj (i:=q) rfl rfl (hrow.j4 hS.j4) oO dO kK (jm rfl (kt (i:=q) kP rfl kf (hrow.j4 hS.j4) dO rfl rfl (.inl rfl) (jl rfl (kD (i:=j) rfl rfl oO dO kK (jx rfl (x9 [] (i:=i) (j:=j) (j8 (M k q)) ks rfl rfl kf hS rfl hli oO hxi (by rw[hg];rfl) rfl ?_)))))));intro wz2 hS;refine V2 ?_;refine⟨j+1,_,rfl,⟨hjl,jY,jY,jY,jY,jY,jY,jY,jY,jY,jY,vi rfl oO,_,(hR.put hlt j (j8 (M k q))).congr λa _ b _=> ?_,hS⟩,oO⟩;show(if a=i/\b=j then j8 (M k q)else j8 (yi M C i j a b))=j8 (yi M C i (j+1) a b);unfold yi;by_cases g:a=i/\b=j
     ·rw[aj g,ah oO,aj oO,g.1,g.2,hk,hq]
     ·rw[ah g];by_cases g1:a<i
      ·rw[aj g1,aj g1]
      ·rw[ah g1,ah g1];by_cases g2:a=i/\b<j
       ·rw[aj g2,aj oO]
       ·rw[ah g2,ah oO]
    ·refine J1 ?_;refine jt ?_;obtain rfl:j=m:=oO;exact⟨_,rfl,h0,h1,h5,h6,h13,h14,h15,R,hR,hS⟩
   clear hS hR;rintro ρ w4 ⟨h0,h1,h5,h6,h13,h14,h15,R,hR,hS⟩;have hli:i<R.length:=by rw[hR.len];exact hlt
   have hxi:i<(R.getD i ov).X.length:=by rw[hR.xQ hlt];exact hlt
   have hg:(R.getD i ov).X.getD i kP=j8 (M k k):=by
    rw[hR.get hlt hlt];show j8 (yi M C i m i i)=_;unfold yi;rw[ah oO,aj ⟨rfl,hlt⟩,hk]
   have hLi:=hL i hlt;rw[<-hk]at hLi;have hsub:=λw=>mA (j8 (M k k)) (j8 1) w (by rw[Lr_ofQ,Lr_ofQ];omega);rw[toQ_ofQ,toQ_ofQ]at hsub;refine ja ?_;refine kC [jo 0,jo 1,jo 2,ju 3,jo 4,jo 5,jo 6,jo 7,ju 8,jo 9,jo 10,ju 11,jv 12,jv 13,jo 14,jw 15] kR kR hS ?_;intro wz3 hS hBz3;refine J2 ?_;refine jl rfl (kD (i:=i) rfl rfl oO dO lH (jm rfl (nh [] (i:=i) rfl lQ hS oO hli ?_)));refine J3 ?_;refine jl rfl (kD (i:=i) rfl rfl oO dO lH (jm rfl (nh [] (i:=i) rfl lQ hS oO hli ?_)));refine J1 ?_;refine jl rfl (kD (i:=i) rfl rfl oO dO kK (jm rfl (qW [] (i:=i) (j:=i) kP ks rfl kf hS rfl hli oO hxi rfl (.inl rfl) ?_)));rw[hg];refine jn rfl (j6 Tryz.call33 rfl (mI 1 _ dD dD) ?_);rintro r w5 ⟨rfl,hB5⟩;refine⟨hB5,?_⟩;rw[show((1:Int):Rat)=1 from rfl];replace hS:=hS.km hB5;refine jn rfl (j6 Tryz.call16 rfl (hsub _) ?_);rintro _ wc4 ⟨rfl,hBc4⟩;replace hS:=hS.km hBc4;refine⟨hBc4,?_⟩;refine jl rfl (kD (i:=i) rfl rfl oO dO kK (jx rfl (x9 [] (i:=i) (j:=i) (j8 (M k k-1)) ks rfl rfl kf hS rfl hli oO hxi rfl rfl ?_)));intro wz5 hS;refine V2 ?_;refine⟨i+1,_,rfl,⟨hlt,jY,jY,jY,jY,jY,vi rfl oO,_,(hR.put hlt i (j8 (M k k-1))).congr λa ha b hb=> ?_,hS⟩,oO⟩;show(if a=i/\b=i then j8 (M k k-1)else j8 (yi M C i m a b))=j8 (yi M C (i+1) 0 a b);unfold yi;by_cases g:a=i/\b=i
   ·rw[aj g,aj oO];unfold sx;rw[g.1,g.2,aj rfl,hk]
   ·rw[ah g];by_cases g1:a<i
    ·rw[aj g1,aj oO]
    ·rw[ah g1];by_cases g2:a=i
     ·rw[aj ⟨g2,hb⟩,aj oO];unfold sx;rw[ah oO,hJ,Rat.neg_zero,g8]
     ·rw[ah oO,ah oO,ah oO]
  ·refine J1 ?_;refine jt ?_;obtain rfl:i=m:=oO;refine⟨_,rfl,h5,R,hR.congr λa ha b _=> ?_,hS⟩;show j8 (yi M C i 0 a b)=j8 (sx M C a b);unfold yi;rw[aj ha]
 clear hS hR0;rintro ρ w2 ⟨h5,R,hR,hS⟩;refine J2 ?_;refine jt ?_;refine kB rfl rfl ?_;exact⟨bo,R,rfl,hR,hS⟩
end Go.Proofs.YtoeiejliehgopaaGreatDoor
