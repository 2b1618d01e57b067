import Derived.Test.YtoeiejliehgopaaGreatDoorPd5
set_option maxRecDepth 20000
set_option maxHeartbeats 8000000
namespace Go.Proofs.YtoeiejliehgopaaGreatDoor
open Go Go.RowKit Go.Sx
structure Rs where
 c:Nat->Rat
 r:Rat
def wm (s:Rs) (p:Pa):Rs:=if p.c= -1 then⟨s.c,s.r+p.q⟩else⟨λk=>if(k:Int)=p.c then s.c k+p.q else s.c k,s.r⟩
def jk (s:Rs) (l:List Pa):Rs:=l.foldl wm s
def tZ (l:List Pa):Nat:=(l.map λp=>L p.q+1).sum
theorem oS (p:Pa) (l:List Pa):tZ (p::l)=L p.q+1+tZ l:=by unfold tZ;rw[List.map_cons,List.sum_cons]
theorem wR (l m:List Pa):tZ (l++m)=tZ l+tZ m:=by unfold tZ;rw[List.map_append,List.sum_append]
def ut (n B:Nat) (s:Rs) (l:List Pa):Prop:=(∀k,k<n->L (s.c k)+tZ l<=B)/\L s.r+tZ l<=B
theorem ut.step {n B:Nat} {s:Rs} {p:Pa} {l:List Pa} (h:ut n B s (p::l)):ut n B (wm s p) l:=by
 obtain⟨h1,h2⟩:=h;rw[oS]at h2;unfold wm;split
 ·refine⟨λk hk=> ?_,?_⟩
  ·have:=h1 k hk;rw[oS]at this;show L (s.c k)+tZ l<=B;omega
  ·have:=t6 s.r p.q;show L (s.r+p.q)+tZ l<=B;omega
 ·refine⟨λk hk=> ?_,by show L s.r+tZ l<=B;omega⟩;have g:=h1 k hk;rw[oS]at g;show L (if(k:Int)=p.c then s.c k+p.q else s.c k)+tZ l<=B;have:=t6 (s.c k) p.q;split<;>omega
theorem ut.part {n B:Nat} {s:Rs} {l m:List Pa} (h:ut n B s (l++m)):ut n B s l:=by
 unfold ut at h⊢;rw[wR]at h;exact⟨λk hk=>by have:=h.1 k hk;omega,by have:=h.2;omega⟩
def r7 (n:Nat) (p:Pa):Prop:=p.c= -1\/(0<=p.c/\p.c<n)
def ey (br:Nat) (vc:Value) (r:Rat):bQ:=(br,167,vc::ae (aj r))
theorem EG (br n:Nat) (vc:Value) (s:Rs) (p:Pa) (H LC:List bQ) (w0 w:World) (hG:Gl ae 32 3 vc (aS n λk=>aj (s.c k)) LC) (hS:St w0 w ((ey br vc s.r::H)++LC)) (hp:r7 n p) (hL:ut n MX s [p]):
  dj Tryz.prog 131 #[.pointer (some ⟨br,0,none⟩),.int .i64 p.c,cw (aj p.q)] w λv w'=>v= .tuple #[]/\∃LC',Gl ae 32 3 vc (aS n λk=>aj ((wm s p).c k)) LC'/\St w0 w' ((ey br vc (wm s p).r::H)++LC'):=by
 have htl:=ao n λk=>aj (s.c k);obtain⟨hL1,hL2⟩:=hL;rw[show tZ [p]=L p.q+1 from rfl]at hL1 hL2;refine enter Tryz.func131 rfl Tryz.ntmps131 rfl ?_;refine jr ?_;refine jh (bY (new:=ae (aj p.q)) rfl rfl hS ?_);intro b5 wz1 hS hBz1;refine ja ?_;replace hS:St w0 _ (([(b5,32,ae (aj p.q)),(br,167,vc::ae (aj s.r))]++H)++LC):=hS;refine V2 ?_;by_cases hc:p.c= -1
 ·have e:wm s p=⟨s.c,s.r+p.q⟩:=if_pos hc;rw[e];refine bZ rfl (decide_eq_true hc) ?_;refine ja ?_;refine bk [jo 0,jo 1,jo 2,jo 3,ju 4,ju 5,jv 6,jo 7,jo 8,jw 9] kR kR hS ?_;intro wz2 hS hBz2;refine J2 ?_;refine jl rfl (dX rfl ?_);refine J3 ?_;refine jn rfl (ah Tryz.call18 rfl (fW (aj s.r) (aj p.q) _ (by rw[Lr_ofQ,Lr_ofQ];omega)) ?_);rintro r w3 ⟨rfl,hB3⟩;refine⟨hB3,?_⟩;rw[toQ_ofQ,toQ_ofQ];replace hS:=hS.aG hB3;refine jl rfl (dX rfl ?_);refine J2 ?_;intro wz3 hS;refine ja ?_;replace hS:St w0 _ ((b5,32,ae (aj p.q))::((ey br vc (s.r+p.q)::H)++LC)):=hS;refine jt ?_;exact AI rfl ⟨rfl,LC,hG,hS.drop (List.sublist_cons_self _ _)⟩
 ·refine ct rfl (decide_eq_false hc) ?_;refine ja ?_;have hp2:0<=p.c/\p.c<n:=hp.resolve_left hc;obtain⟨k,hk⟩:=Int.eq_ofNat_of_zero_le hp2.1;have hkn:k<n:=oO;have hgk:(aS n λk=>aj (s.c k)).getD k bM=aj (s.c k):=aV _ _ hkn;have hLk:=hL1 k hkn;have e:wm s p=⟨λk=>if(k:Int)=p.c then s.c k+p.q else s.c k,s.r⟩:=if_neg hc;rw[e];refine ja ?_;refine bk [jo 0,jo 1,jo 2,ju 3,jo 4,jo 5,jo 6,jo 7,ju 8,jo 9,jo 10,ju 11,ju 12,jv 13,jo 14,jw 15] kR kR hS ?_;intro wz4 hS hBz4;refine J1 ?_;refine jl rfl (dX rfl ?_);refine J4 ?_;refine jl rfl (dX rfl ?_);refine J3 ?_;refine jl rfl (aH (i:=k) rfl rfl (hG.sl hS aK) oO dO bJ (jm rfl (aO (i:=k) bM rfl aB (hG.sl hS aK) dO rfl rfl (.inl rfl) ?_)));refine J1 ?_;refine jn rfl (ah Tryz.call18 rfl (fW ((aS n λk=>aj (s.c k)).getD k bM) (aj p.q) _ (by rw[hgk,Lr_ofQ,Lr_ofQ];omega)) ?_);rintro r w3 ⟨rfl,hB3⟩;refine⟨hB3,?_⟩;rw[hgk,toQ_ofQ,toQ_ofQ];replace hS:=hS.aG hB3;refine jl rfl (aH (i:=k) rfl rfl (hG.sl hS aK) oO dO bJ (jx rfl (mD (i:=k) (aj (s.c k+p.q)) aK rfl rfl aB hG hS oO rfl rfl ?_)));intro wz5 hS;refine ja ?_;obtain⟨LC2,hG,hS⟩:=hS;rw[eP,bA (g:=λj=>aj (if(j:Int)=p.c then s.c j+p.q else s.c j)) λj _=>by
   by_cases g:j=k
   ·rw[if_pos g,if_pos oO,g]
   ·rw[if_neg g,if_neg oO]]at hG
  replace hS:St w0 _ ((b5,32,ae (aj p.q))::((ey br vc s.r::H)++LC2)):=hS;exact iS rfl ⟨rfl,LC2,hG,hS.drop (List.sublist_cons_self _ _)⟩
def Aa (t:Tr) (a:Rat):List Pa:=t.ps.map λp=>⟨p.c,p.q*(a/t.sm)⟩
theorem getD_map {α β:Type} (f:α->β) (l:List α) (d:α) (d':β) {i:Nat} (h:i<l.length):(l.map f).getD i d'=f (l.getD i d):=by
 rw[ff _ d' (by rw[List.length_map];exact h),List.getElem_map,ff l d h]
theorem drop_cons {α:Type} (l:List α) (d:α) {i:Nat} (h:i<l.length):l.drop i=l.getD i d::l.drop (i+1):=by
 rw[List.drop_eq_getElem_cons h,ff l d h]
theorem ut.head {n B:Nat} {s:Rs} {p:Pa} {l:List Pa} (h:ut n B s (p::l)):ut n B s [p]:=ut.part (l:=[p]) (m:=l) h
theorem Ql {α:Type} (x y z:α) (H:List α):([x,y,z]++H).Perm (z::x::y::H):=(List.Perm.cons x (List.Perm.swap z y H)).trans (List.Perm.swap z x (y::H))
theorem zo (br n:Nat) (vc vp:Value) (s:Rs) (t:Tr) (a:Rat) (H LC:List bQ) (w0 w:World) (hG:Gl ae 32 3 vc (aS n λk=>aj (s.c k)) LC) (hS:St w0 w ((ey br vc s.r::H)++LC)) (hP:∀wx A B,St w0 wx ((A++H)++B)->Sl g9 4 wx vp t.ps) (hp:∀p∈t.ps,r7 n p)
  (ht:t.sm≠0) (hL:ut n MX s (Aa t a)) (hLa:L a+L t.sm<=MX) (hLp:∀p∈t.ps,L p.q+L (a/t.sm)<=MX):
  dj Tryz.prog 132 #[.pointer (some ⟨br,0,none⟩),se t vp,cw (aj a)] w λv w'=>v= .tuple #[]/\∃LC',Gl ae 32 3 vc (aS n λk=>aj ((jk s (Aa t a)).c k)) LC'/\St w0 w' ((ey br vc (jk s (Aa t a)).r::H)++LC'):=by
 obtain⟨q,hq⟩:=jz (a/t.sm);have hsh:Aa t a=t.ps.map λp=>⟨p.c,p.q*q⟩:=by rw[hq];rfl
 rw[<-hq]at hLp;have hPs:=hP w [ey br vc s.r] LC hS;have hmx:=hPs.maxLen;obtain⟨pa,pc,rfl,_⟩:=hPs.form;have hal:(Aa t a).length=t.ps.length:=List.length_map _;refine enter Tryz.func132 rfl Tryz.ntmps132 rfl ?_;refine jr ?_;refine jh (bY (new:=eC (t,.slice pa t.ps.length pc)) rfl rfl hS ?_);intro b4 wz1 hS hBz1;refine jh (bY (new:=ae (aj a)) rfl rfl hS ?_);intro b5 wz2 hS hBz2;refine J3 ?_;refine jh (ah Tryz.call108 rfl (oo (aj a) (aj t.sm) _ (by rw[Lr_ofQ,Lr_ofQ];exact hLa) (by rw[toQ_ofQ];exact ht)) ?_);rintro r w3 ⟨rfl,hB3⟩;rw[toQ_ofQ,toQ_ofQ,<-hq];replace hS:=hS.aG hB3;refine J4 ?_;intro b6 wz3 hS hBz3;refine J1 ?_;intro wz4 hS;refine V1 ?_;replace hS:St w0 _ (([(b6,32,ae (aj q)),(b5,32,ae (aj a)),(b4,157,eC (t,.slice pa t.ps.length pc)),ey br vc s.r]++H)++LC):=hS;refine J2 ?_;refine jp (aF rfl (hP _ [(b6,32,ae (aj q)),(b5,32,ae (aj a)),(b4,157,eC (t,.slice pa t.ps.length pc)),ey br vc s.r] LC hS) ⟨_,Tryz.underlying155⟩ ?_);refine V1 ?_;refine aQ (σ:=Nat) (λi ρ w'=>i<=t.ps.length/\ρ 0=pB br/\ρ 6=pB b6/\ρ 18= .slice pa t.ps.length pc/\ρ 19=iB t.ps.length/\ρ 20=iB i/\∃s' LC,ut n MX s' ((Aa t a).drop i)/\jk s' ((Aa t a).drop i)=jk s (Aa t a)/\Gl ae 32 3 vc (aS n λk=>aj (s'.c k)) LC/\
   St w0 w' (([(b6,32,ae (aj q)),ey br vc s'.r]++H)++LC)) (λi=>t.ps.length-i) 0
  ⟨Nat.zero_le _,rfl,rfl,rfl,rfl,rfl,s,LC,hL,rfl,hG,hS.drop (List.Sublist.append (List.Sublist.append (List.Sublist.cons_cons _ ((List.Sublist.cons _ (List.Sublist.cons _ (List.Sublist.refl _))))) (List.Sublist.refl _)) (List.Sublist.refl _))⟩ ?_
 clear hS hG hPs hL;rintro i ρ w4 ⟨hi,h0,h6,h18,h19,h20,s',LC,hL,hadd,hG,hS⟩;refine V1 ?_;by_cases hlt:i<t.ps.length
 ·refine V1 ?_;obtain⟨p,hpe⟩:=jz (t.ps.getD i NU);have hpm:p∈t.ps:=by rw[hpe];exact bC _ _ _ hlt
  have hd:(Aa t a).drop i=(⟨p.c,p.q*q⟩:Pa)::(Aa t a).drop (i+1):=by
   rw[drop_cons _ NU (by rw[hal];exact hlt)];congr 1;rw[hsh,getD_map _ _ NU _ hlt,<-hpe]
  rw[hd]at hL hadd;refine jr ?_;refine jp (aH (i:=i) h18 h20 (hP _ [(b6,32,ae (aj q)),ey br vc s'.r] LC hS) oO dO AS (jq (aO (i:=i) NU rfl nl (hP _ [(b6,32,ae (aj q)),ey br vc s'.r] LC hS) dO rfl rfl (.inl rfl) ?_)));refine J1 ?_;intro b9 wz5 hS hBz5;refine J1 ?_;intro wz6 hS;refine ja ?_;rw[<-hpe]at hS;replace hS:St w0 _ (([(b9,207,g9 p),(b6,32,ae (aj q)),ey br vc s'.r]++H)++LC):=hS;refine ja ?_;refine bk [jo 0,jo 1,ju 2,jo 3,ju 4,ju 5,jv 6,jw 7] kR kR hS ?_;intro wz7 hS hBz7;refine J6 ?_;refine jn rfl (ah Tryz.call11 rfl (ka (aj p.q) (aj q) _ (by rw[Lr_ofQ,Lr_ofQ];exact hLp p hpm)) ?_);rintro r w5 ⟨rfl,hB5⟩;refine⟨hB5,?_⟩;rw[toQ_ofQ,toQ_ofQ];replace hS:=hS.aG hB5;refine jx rfl (ah Tryz.call131 rfl (EG br n vc s' ⟨p.c,p.q*q⟩ ((b9,207,g9 p)::(b6,32,ae (aj q))::H) LC w0 _ hG (hS.perm (List.Perm.append_right _ (Ql _ _ _ _))) (hp p hpm) hL.head) ?_);rintro r w6 ⟨rfl,LC',hG,hS⟩;refine V2 ?_;exact⟨i+1,_,rfl,⟨hlt,jY,jY,jY,jY,vi rfl oO,_,LC',hL.step,hadd,hG,(hS.perm (List.Perm.append_right _ (Ql _ _ _ _).symm)).drop (List.sublist_cons_self _ _)⟩,oO⟩
 ·refine J1 ?_;refine jt ?_;obtain rfl:i=t.ps.length:=oO;rw[List.drop_of_length_le oO]at hadd;replace hadd:s'=jk s (Aa t a):=hadd;subst hadd;exact iS rfl ⟨rfl,LC,hG,hS.drop (List.sublist_cons_self _ _)⟩
def jD (T:List Tr) (m:Rat):List Pa:=(T.take (dq T m)).flatMap Tr.ps++if dq T m<T.length then Aa (T.getD (dq T m) jZ) (j9 T m)else []
def jy (T:List Tr) (m rate:Rat):List Pa:=if dq T m<T.length then Aa (T.getD (dq T m) jZ) rate else []
theorem A5:∀ {T:List Tr} {m:Rat},dq T m<T.length->j9 T m<(T.getD (dq T m) jZ).sm
 | [],_,h=>absurd h (Nat.not_lt_zero _)
 |t::T,m,h=>by
  unfold j9;by_cases hc:m<t.sm
  ·have e:dq (t::T) m=0:=if_pos hc;rw[e];show m-0<t.sm;grind
  ·have e:dq (t::T) m=dq T (m-t.sm)+1:=if_neg hc;rw[e]at h⊢;have ih:=A5 (T:=T) (m:=m-t.sm) (by rw[List.length_cons]at h;omega);unfold j9 at ih;rw[md];show _<(T.getD _ jZ).sm;grind
theorem zU:∀ {T:List Tr} {m:Rat},(∀t∈T,0<=t.sm)->0<=m->0<=j9 T m
 | [],m,_,h=>by show 0<=m-0;grind
 |t::T,m,ht,h=>by
  unfold j9;by_cases hc:m<t.sm
  ·have e:dq (t::T) m=0:=if_pos hc;rw[e];show 0<=m-0;grind
  ·have e:dq (t::T) m=dq T (m-t.sm)+1:=if_neg hc;have ih:=zU (T:=T) (m:=m-t.sm) (λt h=>ht t (List.mem_cons_of_mem _ h)) (by grind);unfold j9 at ih;rw[e,md];grind
structure Dy (n:Nat) (T:List Tr):Prop where
 p:∀t∈T,∀p∈t.ps,r7 n p
 s:∀t∈T,0<=t.sm
def yk (T:List Tr) (f i:Nat) (tl:List Pa):List Pa:=((T.take f).drop i).flatMap Tr.ps++tl
theorem Hj {T:List Tr} {f i:Nat} (tl:List Pa) (hf:f<=T.length) (hi:i<f):yk T f i tl=(T.getD i jZ).ps++yk T f (i+1) tl:=by
 unfold yk;have hl:i<(T.take f).length:=by rw[List.length_take];omega
 rw[drop_cons _ jZ hl,List.flatMap_cons,List.append_assoc];congr 1;rw[ff _ _ hl,List.getElem_take,ff T jZ oO]
theorem Ko (T:List Tr) (f:Nat) (tl:List Pa):yk T f f tl=tl:=by
 unfold yk;rw[List.drop_of_length_le (by rw[List.length_take];omega)];rfl
theorem EL (br n:Nat) (vc v:Value) (T:List Tr) (vs:List Value) (m:Rat) (s:Rs) (H LC:List bQ) (w0 w:World) (hT:∀wx A B,St w0 wx ((A++H)++B)->Df wx v T vs) (hG:Gl ae 32 3 vc (aS n λk=>aj (s.c k)) LC) (hS:St w0 w ((ey br vc s.r::H)++LC)) (hok:Dy n T)
  (hm0:0<=m) (hK:2*(L m+qf T+2)<=MX) (hL:ut n MX s (jD T m)) (hLp:∀t∈T,∀p∈t.ps,L p.q+L m+2*qf T+2<=MX):
  dj Tryz.prog 87 #[v,cw (aj m),.pointer (some ⟨br,0,none⟩)] w λu w'=>u= .tuple #[]/\∃LC',Gl ae 32 3 vc (aS n λk=>aj ((jk s (jD T m)).c k)) LC'/\St w0 w' ((ey br vc (jk s (jD T m)).r::H)++LC'):=by
 have hT0:=hT w [ey br vc s.r] LC hS;have hzl:=hT0.I8;have hmx:=hT0.sl.maxLen;rw[hzl]at hmx;obtain⟨f,hf⟩:=jz (dq T m);have hfl:f<=T.length:=by rw[hf];exact lT T m
 obtain⟨lq,hlq⟩:=jz (j9 T m);have hLq:L lq<=L m+qf T+2:=by rw[hlq];exact Ae T m (lT T m)
 obtain⟨tl,htl⟩:∃tl:List Pa,tl=if f<T.length then Aa (T.getD f jZ) lq else []:=⟨_,rfl⟩
 have hpay:jD T m=yk T f 0 tl:=by rw[htl,hlq,hf];rfl
 rw[hpay]at hL⊢;obtain⟨fin,hfin⟩:=jz (jk s (yk T f 0 tl));rw[<-hfin];refine enter Tryz.func87 rfl Tryz.ntmps87 rfl ?_;refine jr ?_;refine jh (bY (new:=ae (aj m)) rfl rfl hS ?_);intro b4 wz1 hS hBz1;refine ja ?_;replace hS:St w0 _ (([(b4,32,ae (aj m)),ey br vc s.r]++H)++LC):=hS;refine J2 ?_;refine jh (ah Tryz.call130 rfl (tu v T vs m _ (hT _ [(b4,32,ae (aj m)),ey br vc s.r] LC hS) hK) ?_);rintro r w3 ⟨rfl,hB3⟩;rw[<-hf,<-hlq];replace hS:=hS.aG hB3;refine J4 ?_;intro b7 wz2 hS hBz2;refine J2 ?_;intro wz3 hS;refine ja ?_;replace hS:St w0 _ (([(b7,32,ae (aj lq)),(b4,32,ae (aj m)),ey br vc s.r]++H)++LC):=hS;refine ja ?_;refine fi (λρ'=>ρ' 0=v/\ρ' 2= .pointer (some ⟨br,0,none⟩)/\ρ' 6= .int .i64 f/\ρ' 7= .pointer (some ⟨b7,0,none⟩)/\True) ⟨rfl,rfl,rfl,rfl,trivial⟩ ?_;rintro ρk4 ⟨hk4_0,hk4_2,hk4_6,hk4_7,-⟩;refine J2 ?_;refine jp (sJ rfl rfl (hT _ [(b7,32,ae (aj lq)),(b4,32,ae (aj m)),ey br vc s.r] LC hS).sl rfl (by rw[hzl];exact hfl) kC (jp (aF rfl (Sl.sub (hT _ [(b7,32,ae (aj lq)),(b4,32,ae (aj m)),ey br vc s.r] LC hS).sl kG dD (Nat.zero_le f) (by rw[hzl];exact hfl)) ⟨_,Tryz.underlying109⟩ ?_)));refine J1 ?_;refine jb ?_;have hsl:(((T.zip vs).drop 0).take (f-0)).length=f:=by rw[List.length_take,List.length_drop,hzl];omega
 have hsub:=λwx A B h=>Sl.sub (hT wx A B h).sl kG dD (Nat.zero_le f) (by rw[hzl];exact hfl);have hzg:∀i,i<f->(((T.zip vs).drop 0).take (f-0)).getD i (jZ,undef)=(T.getD i jZ,vs.getD i undef):=λi hi=>by
  rw[ff _ _ (by rw[hsl];exact hi),List.getElem_take,List.getElem_drop,<-ff (T.zip vs) (jZ,undef) (by rw[hzl];omega),Nat.zero_add,hT0.I7 oO]
 obtain⟨v20,hv20⟩:=jz (ua v 4 0 f);rw[<-hv20]at hsub;rw[hsl];refine aW (λρ w'=>ρ 0=v/\ρ 2=pB br/\ρ 6=iB f/\ρ 7=pB b7/\∃s' LC,ut n MX s' tl/\jk s' tl=fin/\Gl ae 32 3 vc (aS n λk=>aj (s'.c k)) LC/\St w0 w' (([(b7,32,ae (aj lq)),ey br vc s'.r]++H)++LC)) ?_ ?_
 ·refine ja ?_;refine aQ (σ:=Nat) (λi ρ w'=>i<=f/\ρ 0=v/\ρ 2=pB br/\ρ 6=iB f/\ρ 7=pB b7/\ρ 20=v20/\ρ 21=iB f/\ρ 22=iB i/\
    ∃s' LC,ut n MX s' (yk T f i tl)/\jk s' (yk T f i tl)=fin/\Gl ae 32 3 vc (aS n λk=>aj (s'.c k)) LC/\St w0 w' (([(b7,32,ae (aj lq)),ey br vc s'.r]++H)++LC)) (λi=>f-i) 0
   ⟨Nat.zero_le _,jY,jY,jY,jY,hv20.symm,rfl,rfl,s,LC,hL,hfin.symm,hG,(hS.perm (List.Perm.append_right _ (List.Perm.swap _ _ _))).drop (List.sublist_cons_self _ _)⟩ ?_
  clear hS hG hL;rintro i ρ w4 ⟨hi,h0,h2,h6,h7,h20,h21,h22,s1,LC,hL,hadd,hG,hS⟩;refine V1 ?_;by_cases hlt:i<f
  ·refine V1 ?_;have hli:i<T.length:=oO;obtain⟨t,ht⟩:=jz (T.getD i jZ);have htm:t∈T:=by rw[ht];exact bC _ _ _ hli
   obtain⟨pv,hpv⟩:=jz (vs.getD i undef);have hpr:∀wx A B,St w0 wx ((A++H)++B)->Sl g9 4 wx pv t.ps:=λwx A B h=>by rw[hpv,ht];exact(hT wx A B h).ps i hli
   have hzi:=hzg i hlt;rw[<-ht,<-hpv]at hzi;have hp0:=hpr _ [(b7,32,ae (aj lq)),ey br vc s1.r] LC hS;have hpm:=hp0.maxLen;obtain⟨pa,pc,hpe,_⟩:=hp0.form;clear hp0;subst hpe;rw[Hj tl hfl hlt,<-ht]at hL hadd;obtain⟨rm,hrm⟩:=jz (yk T f (i+1) tl);rw[<-hrm]at hL hadd;refine jr ?_;refine jp (aH (i:=i) h20 h22 (hsub _ [(b7,32,ae (aj lq)),ey br vc s1.r] LC hS) oO dO kC (jq (aO (v:=se t (.slice pa t.ps.length pc)) (i:=i) (jZ,undef) rfl lA (hsub _ [(b7,32,ae (aj lq)),ey br vc s1.r] LC hS) oO rfl (by rw[hzi];rfl) (.inl rfl) ?_)));refine J1 ?_;intro b9 wz5 hS hBz5;refine J1 ?_;intro wz6 hS;refine ja ?_;replace hS:St w0 _ (([(b9,157,eC (t,.slice pa t.ps.length pc)),(b7,32,ae (aj lq)),ey br vc s1.r]++H)++LC):=hS;refine ja ?_;refine fi (λρ'=>ρ' 0=v/\ρ' 2= .pointer (some ⟨br,0,none⟩)/\ρ' 6= .int .i64 f/\ρ' 7= .pointer (some ⟨b7,0,none⟩)/\ρ' 20=v20/\ρ' 21= .int .i64 f/\ρ' 22= .int .i64 i/\ρ' 9= .pointer (some ⟨b9,0,none⟩)/\True) ⟨h0,h2,h6,h7,h20,h21,h22,rfl,trivial⟩ ?_;rintro ρk7 ⟨hk7_0,hk7_2,hk7_6,hk7_7,hk7_20,hk7_21,hk7_22,hk7_9,-⟩;refine J2 ?_;refine jp (aF rfl (hpr _ [(b9,157,eC (t,.slice pa t.ps.length pc)),(b7,32,ae (aj lq)),ey br vc s1.r] LC hS) ⟨_,Tryz.underlying155⟩ ?_);refine J1 ?_;refine jb ?_;refine aW (λρ w'=>ρ 0=v/\ρ 2=pB br/\ρ 6=iB f/\ρ 7=pB b7/\ρ 20=v20/\ρ 21=iB f/\ρ 22=iB i/\
    ∃s' LC,ut n MX s' rm/\jk s' rm=fin/\Gl ae 32 3 vc (aS n λk=>aj (s'.c k)) LC/\St w0 w' (([(b7,32,ae (aj lq)),ey br vc s'.r]++H)++LC)) ?_ ?_
   ·refine ja ?_;refine aQ (σ:=Nat) (λj ρ w'=>j<=t.ps.length/\ρ 0=v/\ρ 2=pB br/\ρ 6=iB f/\ρ 7=pB b7/\ρ 20=v20/\ρ 21=iB f/\ρ 22=iB i/\ρ 27= .slice pa t.ps.length pc/\ρ 28=iB t.ps.length/\ρ 29=iB j/\
     ∃s' LC,ut n MX s' (t.ps.drop j++rm)/\jk s' (t.ps.drop j++rm)=fin/\Gl ae 32 3 vc (aS n λk=>aj (s'.c k)) LC/\St w0 w' (([(b7,32,ae (aj lq)),ey br vc s'.r]++H)++LC)) (λj=>t.ps.length-j) 0
     ⟨Nat.zero_le _,jY,jY,jY,jY,jY,jY,jY,rfl,rfl,rfl,s1,LC,hL,hadd,hG,hS.drop (List.sublist_cons_self _ _)⟩ ?_
    clear hS hG hL hadd h0 h2 h6 h7 h20 h21 h22;rintro j ρ w5 ⟨hj,h0,h2,h6,h7,h20,h21,h22,h27,h28,h29,s2,LC,hL,hadd,hG,hS⟩;refine V1 ?_;by_cases hjl:j<t.ps.length
    ·refine V1 ?_;obtain⟨p,hpe⟩:=jz (t.ps.getD j NU);have hpm:p∈t.ps:=by rw[hpe];exact bC _ _ _ hjl
     rw[drop_cons _ NU hjl,<-hpe,List.cons_append]at hL hadd;refine jr ?_;refine jp (aH (i:=j) h27 h29 (hpr _ [(b7,32,ae (aj lq)),ey br vc s2.r] LC hS) oO dO AS (jq (aO (i:=j) NU rfl nl (hpr _ [(b7,32,ae (aj lq)),ey br vc s2.r] LC hS) dO rfl rfl (.inl rfl) ?_)));refine J1 ?_;intro b11 wz8 hS hBz8;refine J1 ?_;intro wz9 hS;refine ja ?_;rw[<-hpe]at hS;replace hS:St w0 _ (([(b11,207,g9 p),(b7,32,ae (aj lq)),ey br vc s2.r]++H)++LC):=hS;refine J5 ?_;refine jh (ah Tryz.call131 rfl (EG br n vc s2 p ((b11,207,g9 p)::(b7,32,ae (aj lq))::H) LC w0 _ hG (hS.perm (List.Perm.append_right _ (Ql _ _ _ _))) (hok.p t htm p hpm) hL.head) ?_);rintro r w6 ⟨rfl,LC',hG,hS⟩;refine V2 ?_;exact⟨j+1,_,rfl,⟨hjl,jY,jY,jY,jY,jY,jY,jY,jY,jY,vi rfl oO,_,LC',hL.step,hadd,hG,(hS.perm (List.Perm.append_right _ (Ql _ _ _ _).symm)).drop (List.sublist_cons_self _ _)⟩,oO⟩
    ·refine J1 ?_;refine jt ?_;rw[List.drop_of_length_le oO]at hL hadd;exact⟨_,rfl,h0,h2,h6,h7,h20,h21,h22,s2,LC,hL,hadd,hG,hS⟩
   clear hS hG hL hadd h0 h2 h6 h7 h20 h21 h22;rintro ρ w5 ⟨h0,h2,h6,h7,h20,h21,h22,s2,LC,hL,hadd,hG,hS⟩;rw[hrm]at hL hadd;refine V2 ?_;exact⟨i+1,_,rfl,⟨hlt,jY,jY,jY,jY,jY,jY,vi rfl oO,s2,LC,hL,hadd,hG,hS⟩,oO⟩
  ·refine J1 ?_;refine jt ?_;obtain rfl:i=f:=oO;rw[Ko]at hL hadd;exact⟨_,rfl,h0,h2,h6,h7,s1,LC,hL,hadd,hG,hS⟩
 clear hS hG hL;rintro ρ w4 ⟨h0,h2,h6,h7,s1,LC,hL,hadd,hG,hS⟩;refine J2 ?_;refine jp (aF rfl (hT _ [(b7,32,ae (aj lq)),ey br vc s1.r] LC hS).sl ⟨_,Tryz.underlying109⟩ ?_);refine V1 ?_;by_cases hlt:f<T.length
 ·refine bZ rfl (decide_eq_true (by rw[hzl];omega)) ?_;refine ja ?_;obtain⟨t,ht⟩:=jz (T.getD f jZ);rw[if_pos hlt,<-ht]at htl;have htm:t∈T:=by rw[ht];exact bC _ _ _ hlt
  have hz:=hT0.I7 hlt;rw[<-ht]at hz;obtain⟨pv,hpv⟩:=jz (vs.getD f undef);rw[<-hpv]at hz;have hlt2:lq<t.sm:=by rw[hlq,ht,hf];exact A5 (by rw[<-hf];exact hlt)
  have hl0:0<=lq:=by rw[hlq];exact zU hok.s hm0
  have hsm:L t.sm+1<=qf T:=by rw[ht];exact sx T hlt
  rw[htl]at hL hadd;refine ja ?_;refine bk [jo 0,jo 1,jo 2,jo 3,ju 4,ju 5,jw 6] kR kR hS ?_;intro wz10 hS hBz10;refine J3 ?_;refine jl rfl (aH (i:=f) rfl rfl (hT _ [(b7,32,ae (aj lq)),ey br vc s1.r] LC hS).sl oO oO kC (jm rfl (aO (v:=se t pv) (i:=f) (jZ,undef) rfl lA (hT _ [(b7,32,ae (aj lq)),ey br vc s1.r] LC hS).sl oO rfl (by rw[hz];rfl) (.inl rfl) ?_)));refine J1 ?_;refine jx rfl (ah Tryz.call132 rfl (zo br n vc pv s1 t lq ((b7,32,ae (aj lq))::H) LC w0 _ hG (hS.perm (List.Perm.append_right _ (List.Perm.swap _ _ _))) (λwx A B h=>by rw[hpv,ht];exact(hT wx (A++[(b7,32,ae (aj lq))]) B (by rw[List.append_assoc A];exact h)).ps f hlt) (hok.p t htm) (by intro g;rw[g]at hlt2;grind) hL oO (λp hp=>by have:=hLp t htm p hp;have:=ri lq t.sm;omega)) ?_);rintro r w6 ⟨rfl,LC',hG,hS⟩;refine ja ?_;rw[hadd]at hG hS;exact iS rfl ⟨rfl,LC',hG,hS.drop (List.Sublist.append (List.Sublist.cons_cons _ (List.sublist_cons_self _ _)) (List.Sublist.refl _))⟩
 ·refine ct rfl (decide_eq_false (by rw[hzl];omega)) ?_;refine ja ?_;rw[if_neg hlt]at htl;rw[htl]at hadd;replace hadd:s1=fin:=hadd;subst hadd;exact iS rfl ⟨rfl,LC,hG,hS.drop (List.sublist_cons_self _ _)⟩
theorem y4 (br n:Nat) (vc v:Value) (T:List Tr) (vs:List Value) (m rate:Rat) (s:Rs) (H LC:List bQ) (w0 w:World) (hT:∀wx A B,St w0 wx ((A++H)++B)->Df wx v T vs) (hG:Gl ae 32 3 vc (aS n λk=>aj (s.c k)) LC) (hS:St w0 w ((ey br vc s.r::H)++LC)) (hok:Dy n T)
  (hm0:0<=m) (hK:2*(L m+qf T+2)<=MX) (hL:ut n MX s (jy T m rate)) (hLr:L rate+qf T<=MX) (hLp:∀t∈T,∀p∈t.ps,L p.q+L rate+2*qf T+2<=MX):
  dj Tryz.prog 136 #[v,cw (aj m),cw (aj rate),.pointer (some ⟨br,0,none⟩)] w λu w'=>u= .tuple #[]/\∃LC',Gl ae 32 3 vc (aS n λk=>aj ((jk s (jy T m rate)).c k)) LC'/\St w0 w' ((ey br vc (jk s (jy T m rate)).r::H)++LC'):=by
 have hT0:=hT w [ey br vc s.r] LC hS;have hzl:=hT0.I8;have hmx:=hT0.sl.maxLen;rw[hzl]at hmx;obtain⟨f,hf⟩:=jz (dq T m);have hfl:f<=T.length:=by rw[hf];exact lT T m
 refine enter Tryz.func136 rfl Tryz.ntmps136 rfl ?_;refine jr ?_;refine jh (bY (new:=ae (aj m)) rfl rfl hS ?_);intro b5 wz1 hS hBz1;refine jh (bY (new:=ae (aj rate)) rfl rfl hS ?_);intro b6 wz2 hS hBz2;refine ja ?_;replace hS:St w0 _ (([(b6,32,ae (aj rate)),(b5,32,ae (aj m)),ey br vc s.r]++H)++LC):=hS;refine J2 ?_;refine jh (ah Tryz.call130 rfl (tu v T vs m _ (hT _ [(b6,32,ae (aj rate)),(b5,32,ae (aj m)),ey br vc s.r] LC hS) hK) ?_);rintro r w3 ⟨rfl,hB3⟩;rw[<-hf];replace hS:=hS.aG hB3;refine J4 ?_;intro b9 wz3 hS hBz3;refine J2 ?_;intro wz4 hS;refine ja ?_;replace hS:St w0 _ (([(b9,32,ae (aj (j9 T m))),(b6,32,ae (aj rate)),(b5,32,ae (aj m)),ey br vc s.r]++H)++LC):=hS;have hpm:∀x y z u:bQ,([x,y,z,u]++H).Perm ([y,u]++(x::z::H)):=λx y z u=>(List.Perm.swap y x _).trans (List.Perm.cons y ((List.Perm.cons x (List.Perm.swap u z H)).trans (List.Perm.swap u x _)));replace hS:St w0 _ (([(b6,32,ae (aj rate)),ey br vc s.r]++H)++LC):=(hS.perm (List.Perm.append_right _ (hpm _ _ _ _))).drop (List.Sublist.append (List.Sublist.append (List.Sublist.refl _) ((List.sublist_cons_self _ _).trans (List.sublist_cons_self _ _))) (List.Sublist.refl _));refine ja ?_;refine fi (λρ'=>ρ' 0=v/\ρ' 3= .pointer (some ⟨br,0,none⟩)/\ρ' 6= .pointer (some ⟨b6,0,none⟩)/\ρ' 8= .int .i64 f/\True) ⟨rfl,rfl,rfl,rfl,trivial⟩ ?_;rintro ρk5 ⟨hk5_0,hk5_3,hk5_6,hk5_8,-⟩;refine J2 ?_;refine jp (aF rfl (hT _ [(b6,32,ae (aj rate)),ey br vc s.r] LC hS).sl ⟨_,Tryz.underlying109⟩ ?_);refine V1 ?_;by_cases hlt:f<T.length
 ·refine bZ rfl (decide_eq_true (by rw[hzl];omega)) ?_;refine ja ?_;obtain⟨t,ht⟩:=jz (T.getD f jZ);have htm:t∈T:=by rw[ht];exact bC _ _ _ hlt
  have hz:=hT0.I7 hlt;rw[<-ht]at hz;obtain⟨pv,hpv⟩:=jz (vs.getD f undef);rw[<-hpv]at hz;have hlt2:j9 T m<t.sm:=by rw[ht,hf];exact A5 (by rw[<-hf];exact hlt)
  have hl0:0<=j9 T m:=zU hok.s hm0;have hsm:L t.sm+1<=qf T:=by rw[ht];exact sx T hlt
  have htl:jy T m rate=Aa t rate:=by unfold jy;rw[<-hf,if_pos hlt,ht]
  rw[htl]at hL⊢;refine ja ?_;refine bk [jo 0,jo 1,jo 2,jo 3,ju 4,ju 5,jw 6] kR kR hS ?_;intro wz6 hS hBz6;refine J3 ?_;refine jl rfl (aH (i:=f) rfl rfl (hT _ [(b6,32,ae (aj rate)),ey br vc s.r] LC hS).sl oO oO kC (jm rfl (aO (v:=se t pv) (i:=f) (jZ,undef) rfl lA (hT _ [(b6,32,ae (aj rate)),ey br vc s.r] LC hS).sl oO rfl (by rw[hz];rfl) (.inl rfl) ?_)));refine J1 ?_;refine jx rfl (ah Tryz.call132 rfl (zo br n vc pv s t rate ((b6,32,ae (aj rate))::H) LC w0 _ hG (hS.perm (List.Perm.append_right _ (List.Perm.swap _ _ _))) (λwx A B h=>by rw[hpv,ht];exact(hT wx (A++[(b6,32,ae (aj rate))]) B (by rw[List.append_assoc A];exact h)).ps f hlt) (hok.p t htm) (by intro g;rw[g]at hlt2;grind) hL oO (λp hp=>by have:=hLp t htm p hp;have:=ri rate t.sm;omega)) ?_);rintro r w6 ⟨rfl,LC',hG,hS⟩;refine ja ?_;exact iS rfl ⟨rfl,LC',hG,hS.drop (List.Sublist.append (List.Sublist.cons_cons _ (List.sublist_cons_self _ _)) (List.Sublist.refl _))⟩
 ·refine ct rfl (decide_eq_false (by rw[hzl];omega)) ?_;refine ja ?_;have htl:jy T m rate=[]:=by unfold jy;rw[<-hf,if_neg hlt]
  rw[htl];exact iS rfl ⟨rfl,LC,hG,hS.drop (List.sublist_cons_self _ _)⟩
theorem EN (v:Value) (T:List Tr) (vs:List Value) (m:Rat) (w:World) (hT:Df w v T vs) (hK:2*(L m+qf T+2)<=MX):
  dj Tryz.prog 177 #[v,cw (aj m)] w λr w'=>r=(if dq T m<T.length then .tuple #[cw (aj ((T.getD (dq T m) jZ).sm-j9 T m)),.bool true]else .tuple #[cw bM,.bool false])/\Below w.heap.size w w':=by
 have hzl:=hT.I8;obtain⟨f,hf⟩:=jz (dq T m);have hfl:f<=T.length:=by rw[hf];exact lT T m
 have hLq:=Ae T m (lT T m);have hS:=St.init w;refine enter Tryz.func177 rfl Tryz.ntmps177 rfl ?_;refine jr ?_;refine jh (bY (new:=ae (aj m)) rfl rfl hS ?_);intro b3 wz1 hS hBz1;refine J1 ?_;intro b4 wz2 hS hBz2;refine J3 ?_;refine jh (ah Tryz.call130 rfl (tu v T vs m _ (hT.ab hS.ab) hK) ?_);rintro r w3 ⟨rfl,hB3⟩;rw[<-hf];replace hS:=hS.aG hB3;refine J4 ?_;intro b7 wz3 hS hBz3;refine J2 ?_;intro wz4 hS;refine ja ?_;replace hS:St w _ [(b7,32,ae (aj (j9 T m))),(b4,32,ae bM),(b3,32,ae (aj m))]:=hS;refine ja ?_;refine fi (λρ'=>ρ' 0=v/\ρ' 4= .pointer (some ⟨b4,0,none⟩)/\ρ' 5= .bool false/\ρ' 6= .int .i64 f/\ρ' 7= .pointer (some ⟨b7,0,none⟩)/\True) ⟨rfl,rfl,rfl,rfl,rfl,trivial⟩ ?_;rintro ρk5 ⟨hk5_0,hk5_4,hk5_5,hk5_6,hk5_7,-⟩;refine J2 ?_;refine jp (aF rfl (hT.sl.ab hS.ab) ⟨_,Tryz.underlying109⟩ ?_);refine V1 ?_;by_cases hlt:f<T.length
 ·rw[if_pos hlt];refine ct rfl (decide_eq_false (by rw[hzl];omega)) ?_;refine ja ?_;have hz:=hT.I7 hlt;have hsm:=sx T hlt;obtain⟨lq,hlq⟩:=jz (j9 T m);change L (j9 T m)<=_ at hLq;rw[<-hlq]at hLq hS⊢;obtain⟨pv,hpv⟩:=jz (vs.getD f undef);rw[<-hpv]at hz;obtain⟨t,ht⟩:=jz (T.getD f jZ);rw[<-ht]at hz hsm⊢;refine ja ?_;refine bk [jo 0,jo 1,jo 2,jo 3,ju 4,ju 5,jv 6,jw 7,jo 8] kR kR hS ?_;intro wz6 hS hBz6;refine J2 ?_;refine jl rfl (aH (i:=f) rfl rfl (hT.sl.ab hS.ab) oO oO kC ?_);refine jl rfl (fL rfl (dZ (hT.sl.ab hS.ab) (λ_=>rfl) dD oO) ws ?_);refine jm rfl (fJ (i:=f) (off:=1) (v:=cw (aj t.sm)) (jZ,undef) rfl aB (hT.sl.ab hS.ab) (λ_=>rfl) dD oO rfl (by rw[hz];rfl) (.inl rfl) ?_);refine J1 ?_;refine jn rfl (ah Tryz.call16 rfl (dH (aj t.sm) (aj lq) _ (by rw[Lr_ofQ,Lr_ofQ];omega)) ?_);rintro r w4 ⟨rfl,hB4⟩;refine⟨hB4,?_⟩;rw[toQ_ofQ,toQ_ofQ];replace hS:=hS.aG hB4;refine J1 ?_;intro wz7 hS;refine J1 ?_;refine jt ?_;refine eV (k:=1) rfl hk5_4 rfl aB hS rfl rfl ?_;exact⟨rfl,hS.ab⟩
 ·rw[if_neg hlt];refine bZ rfl (decide_eq_true (by rw[hzl];omega)) ?_;refine jr ?_;refine jp (bR rfl ix ?_);refine J1 ?_;intro wz8 hS;refine J1 ?_;refine jt ?_;refine eV (k:=1) rfl hk5_4 rfl aB hS rfl rfl ?_;exact⟨rfl,hS.ab⟩
structure Pl where
 mem:List Nat
 ld:List Tr
structure Ly where
 n:Nat
 rk:List Tr
 pl:List Pl
 tot:Rat
def oQ:Pl:=⟨[],[]⟩
def mq:Value×Value:=(undef,undef)
def xA (p:Value×Value):List Value:=[p.1,p.2]
structure Qw (w:World) (v:Value) (P:List Pl) (pv:List (Value×Value)) (lv:List (List Value)):Prop where
 len:pv.length=P.length
 sl:Sl xA 2 w v pv
 mem:∀i,i<P.length->Sl lD 1 w (pv.getD i mq).1 (nI (P.getD i oQ).mem)
 ld:∀i,i<P.length->Df w (pv.getD i mq).2 (P.getD i oQ).ld (lv.getD i [])
theorem Qw.ab {w w':World} {v:Value} {P:List Pl} {pv:List (Value×Value)} {lv:List (List Value)} (h:Qw w v P pv lv) (hb:Below w.heap.size w w'):Qw w' v P pv lv:=⟨h.len,h.sl.ab hb,λi hi=>(h.mem i hi).ab hb,λi hi=>(h.ld i hi).ab hb⟩
def Hp (n:Nat) (vR vP:Value) (tot:Rat):Value:= .agg #[.int .i64 n,vR,vP,.bool (aj tot).neg,.string (aj tot).num,.string (aj tot).den]
def iA (n:Nat) (vR vP:Value) (tot:Rat):List Value:= .int .i64 n::vR::vP::ae (aj tot)
structure HF (w:World) (vR vP:Value) (y:Ly) (vs:List Value) (pv:List (Value×Value)) (lv:List (List Value)):Prop where
 rk:Df w vR y.rk vs
 pl:Qw w vP y.pl pv lv
theorem HF.ab {w w':World} {vR vP:Value} {y:Ly} {vs:List Value} {pv:List (Value×Value)} {lv:List (List Value)} (h:HF w vR vP y vs pv lv) (hb:Below w.heap.size w w'):HF w' vR vP y vs pv lv:=⟨h.rk.ab hb,h.pl.ab hb⟩
def fN (mem:List Nat) (f:Nat->Rat):Rat:=(mem.map f).foldl (· + ·) 0
theorem yz (mem:List Nat) (i:Nat) (f:Nat->Rat):fN (mem++[i]) f=fN mem f+f i:=by unfold fN;rw[List.map_append,List.foldl_append];rfl
def Bb (mem:List Nat) (f:Nat->Rat):Nat:=(mem.map λi=>L (f i)+1).sum
theorem ID (mem:List Nat) (f:Nat->Rat):∀k,k<=mem.length->L (fN (mem.take k) f)<=Bb (mem.take k) f+1
 |0,_=>by rw[List.take_zero];show L 0<=_;rw[fM];omega
 |k+1,h=>by
  have ih:=ID mem f k oO;rw[cH mem k 0 h,yz];have:=t6 (fN (mem.take k) f) (f (mem.getD k 0));have e:Bb (mem.take k++[mem.getD k 0]) f=Bb (mem.take k) f+(L (f (mem.getD k 0))+1):=by unfold Bb;rw[List.map_append,List.sum_append];rfl
  rw[e];omega
theorem IE (mem:List Nat) (f:Nat->Rat) (k:Nat):Bb (mem.take k) f<=Bb mem f:=by
 have e:Bb mem f=Bb (mem.take k) f+Bb (mem.drop k) f:=by
  unfold Bb;rw[<-List.sum_append,<-List.map_append,List.take_append_drop]
 omega
theorem nF (vm vl va:Value) (mem:List Nat) (n:Nat) (f:Nat->Rat) (w:World) (hM:Sl lD 1 w vm (nI mem)) (hA:Sl ae 3 w va (aS n λk=>aj (f k))) (hm:∀i∈mem,i<n) (hK:Bb mem f+1<=MX):
  dj Tryz.prog 88 #[.agg #[vm,vl],va] w λr w'=>r=cw (aj (fN mem f))/\Below w.heap.size w w':=by
 have hmx:=hM.maxLen;have hnl:=kJ mem;have htl:=ao n λk=>aj (f k);have hS:=St.init w;have hz:ae bM=ae (aj (fN (mem.take 0) f)):=by rw[cB];rfl
 refine enter Tryz.func88 rfl Tryz.ntmps88 rfl ?_;refine jr ?_;refine jh (bY (new:=[vm,vl]) rfl rfl hS ?_);intro b2 wz1 hS hBz1;refine J1 ?_;intro b4 wz2 hS hBz2;refine jr ?_;refine jp (bR rfl ix ?_);refine J1 ?_;intro b5 wz3 hS hBz3;refine J1 ?_;intro wz4 hS;refine ja ?_;replace hS:St w _ [(b5,32,ae bM),(b4,32,ae bM),(b2,160,[vm,vl])]:=hS;rw[hz]at hS;refine J2 ?_;refine jp (aF rfl (hM.ab hS.ab) ⟨_,Tryz.underlying46⟩ ?_);refine J1 ?_;refine jb ?_;rw[hnl];refine aW (λρ w'=>ρ 4=pB b4/\ρ 5=pB b5/\∃x,St w w' [(b5,32,ae (aj (fN mem f))),(b4,32,x)]/\x.length=3) ?_ ?_
 ·refine ja ?_;refine aQ (σ:=Nat) (λk ρ w'=>k<=mem.length/\ρ 1=va/\ρ 4=pB b4/\ρ 5=pB b5/\ρ 10=vm/\ρ 11=iB mem.length/\ρ 12=iB k/\∃x,St w w' [(b5,32,ae (aj (fN (mem.take k) f))),(b4,32,x)]/\x.length=3) (λk=>mem.length-k) 0
   ⟨Nat.zero_le _,rfl,rfl,rfl,rfl,rfl,rfl,_,hS.drop (List.sublist_append_left [_,_] [_]),rfl⟩ ?_
  clear hS hz;rintro k ρ w2 ⟨hk,h1,h4,h5,h10,h11,h12,x,hS,hx⟩;refine V1 ?_;by_cases hlt:k<mem.length
  ·refine V1 ?_;obtain⟨i,hi⟩:=jz (mem.getD k 0);have hin:i<n:=hm i (by rw[hi];exact bC _ _ _ hlt);have hni:(nI mem).getD k 0=(i:Int):=by unfold nI;rw[getD_map _ _ 0 _ hlt,hi]
   have hgi:(aS n λk=>aj (f k)).getD i bM=aj (f i):=aV _ _ hin;have ht:=cH mem k 0 hlt;rw[<-hi]at ht;have h1':=ID mem f k hk;have h2':=IE mem f (k+1);have h3':Bb (mem.take (k+1)) f=Bb (mem.take k) f+(L (f i)+1):=by rw[ht];unfold Bb;rw[List.map_append,List.sum_append];rfl
   refine jr ?_;refine jp (aH (i:=k) h10 h12 (hM.ab hS.ab) oO dO ga (jq (aO (i:=k) 0 rfl eI (hM.ab hS.ab) dO rfl rfl (.inr rfl) ?_)));refine V1 ?_;rw[hni];refine ja ?_;refine bk [ju 0,jo 1,jo 2,jo 3,ju 4,jv 5,jw 6] kR kR hS ?_;intro wz5 hS hBz5;refine J3 ?_;refine jl rfl (aH (i:=i) rfl rfl (hA.ab hS.ab) oO dO bJ (jm rfl (aO (i:=i) bM rfl aB (hA.ab hS.ab) dO rfl rfl (.inl rfl) ?_)));refine jn rfl (ah Tryz.call18 rfl (fW (aj (fN (mem.take k) f)) ((aS n λk=>aj (f k)).getD i bM) _ (by rw[hgi,Lr_ofQ,Lr_ofQ];omega)) ?_);rintro r w3 ⟨rfl,hB3⟩;refine⟨hB3,?_⟩;rw[hgi,toQ_ofQ,toQ_ofQ,<-yz,<-ht];replace hS:=hS.aG hB3;refine J1 ?_;intro wz6 hS;refine V2 ?_;exact⟨k+1,_,rfl,⟨hlt,h1,h4,h5,h10,h11,vi rfl oO,x,hS,hx⟩,oO⟩
  ·refine J1 ?_;refine jt ?_;obtain rfl:k=mem.length:=oO;rw[List.take_length]at hS;exact⟨_,rfl,h4,h5,x,hS,hx⟩
 clear hS;rintro ρ w2 ⟨h4,h5,x,hS,hx⟩;obtain⟨x0,x1,x2,rfl⟩:∃a b c,x=[a,b,c]:=by
  match x,hx with
  | [a,b,c],_=>exact⟨a,b,c,rfl⟩
 refine J2 ?_;intro wz7 hS;refine jt ?_;refine dx (k:=1) rfl h4 aB hS rfl rfl ?_;exact⟨rfl,hS.ab⟩
theorem Cb (vo:Value) (l:List RR) (w:World) (ho:Sl ae 3 w vo l) (hl:l.length<=1000000):
  dj Tryz.prog 47 #[vo] w λr w'=>∃LO,Gl ae 32 3 r l LO/\St w w' ([]++LO):=by
 obtain⟨a,c,rfl,h1,h2,h3⟩:=ho.form;have hS:=St.init w;have hW:=hS.ab;refine enter Tryz.func47 rfl Tryz.ntmps47 rfl ?_;refine J2 ?_;refine jp (uM rfl rfl (ht:=⟨_,Tryz.underlying34⟩) ?_);refine ja ?_;cases a with
 |none=>
  refine bZ rfl (rfl) ?_;refine J1 ?_;refine jt ?_;refine bj rfl rfl ?_;have:=h3 rfl;obtain rfl:l=[]:=List.eq_nil_of_length_eq_zero oO;exact⟨[],Gl.nil _ _ _,hS⟩
 |some a=>
  refine ct rfl (rfl) ?_;refine jr ?_;refine jh (JF bJ hS ?_);intro b5 wz1 hS hBz1;refine J1 ?_;refine jh (zV rfl rfl bJ dD (H:=[]) (Gl.Kx (z:=ae bM) (n:=0) rfl dD) hS (ho.ab hS.ab) aK (pd l) (by simp;omega) (by simp;omega) ?_);intro va2 La2 wa2 hG hS hga2 hgu2;refine J1 ?_;refine jt ?_;refine bj rfl rfl ?_;exact⟨_,hG,hS⟩
def rH:Rs:=⟨λ_=>0,0⟩
def cy (y:Ly) (m:Rat):Nat->Rat:=(jk rH (jD y.rk m)).c
def dy (y:Ly) (m:Rat):Nat->Rat:=(jk rH (jy y.rk m 1)).c
theorem wV (a:Option Addr) (n c:Nat):Tryz.prog.built 167 [(0,.slice a n c)]=some #[.slice a n c,.bool false,.string ⟨#[]⟩,.string ⟨#[]⟩]:=by kernel_rfl
theorem cG (n:Nat):List.replicate n bM=aS n λk=>aj (rH.c k):=by rw[mW];exact bA λ_ _=>by show bM=aj 0;rw[gm];rfl
theorem iE {b n:Nat} {t:TypeId} {X:List RR} (hn:X.length=n) (hm:n<=9223372036854775807):Gl ae t 3 (.slice (some ⟨b,0,none⟩) n n) X [(b,t,X.flatMap ae)]:=
 ⟨cQ aK _,.inr ⟨b,n,[],by rw[hn],by rw[List.append_nil],oO,by unfold Go.maxLen;omega,by rw[List.append_nil,cQ aK,hn]⟩⟩
theorem sS (vR vP:Value) (y:Ly) (vs:List Value) (m:Rat) (w:World) (hR:Df w vR y.rk vs) (hn:y.n<=1000000) (hok:Dy y.n y.rk) (hm0:0<=m) (hK:2*(L m+qf y.rk+2)<=MX) (hL:ut y.n MX rH (jD y.rk m)) (hLp:∀t∈y.rk,∀p∈t.ps,L p.q+L m+2*qf y.rk+2<=MX):
  dj Tryz.prog 49 #[Hp y.n vR vP y.tot,cw (aj m)] w λr w'=>∃LO,Gl ae 32 3 r (aS y.n λk=>aj (cy y m k)) LO/\St w w' LO:=by
 have hS:=St.init w;obtain⟨n,hn'⟩:∃n,n=y.n:=⟨_,rfl⟩;rw[<-hn']at hn hok hL⊢;refine enter Tryz.func49 rfl Tryz.ntmps49 rfl ?_;refine jr ?_;refine jh (bY (new:=iA n vR vP y.tot) rfl rfl hS ?_);intro b2 wz1 hS hBz1;refine jh (bY (new:=ae (aj m)) rfl rfl hS ?_);intro b3 wz2 hS hBz2;refine J3 ?_;refine jh (de (enc:=ae) (n:=n) bM rfl rfl bJ rfl oO oO oO oO hS ?_);intro b8 wz3 hS hBz3;refine jp (bR rfl (wV _ _ _) (jh (bY (new:= .slice (some ⟨b8,0,none⟩) n n::ae bM) rfl rfl hS ?_)));intro b10 wz4 hS hBz4;refine V1 ?_;replace hS:St w _ ((b10,167,.slice (some ⟨b8,0,none⟩) n n::ae bM)::(b8,32,(List.replicate n bM).flatMap ae)::[(b3,32,ae (aj m)),(b2,112,iA n vR vP y.tot)]):=hS;rw[cG,cB]at hS;have hG:Gl ae 32 3 (.slice (some ⟨b8,0,none⟩) n n) (aS n λk=>aj (rH.c k)) [(b8,32,(aS n λk=>aj (rH.c k)).flatMap ae)]:=iE (ao _ _) oO;replace hS:St w _ ((ey b10 (.slice (some ⟨b8,0,none⟩) n n) rH.r::[(b3,32,ae (aj m)),(b2,112,iA n vR vP y.tot)])++[(b8,32,(aS n λk=>aj (rH.c k)).flatMap ae)]):=hS.perm (List.Perm.cons _ (List.perm_append_comm (l₁:=[_])));refine J4 ?_;refine jh (ah Tryz.call87 rfl (EL b10 n _ vR y.rk vs m rH [(b3,32,ae (aj m)),(b2,112,iA n vR vP y.tot)] _ w _ (λwx A B h=>hR.ab h.ab) hG hS hok hm0 hK hL hLp) ?_);rintro r w3 ⟨rfl,LC,hG,hS⟩;refine J1 ?_;refine jp (dX rfl ?_);refine J3 ?_;refine jt ?_;refine bj rfl rfl ?_;exact⟨LC,hG,hS.drop (List.sublist_append_right _ _)⟩
theorem Bq (vR vP:Value) (y:Ly) (vs:List Value) (m:Rat) (w:World) (hR:Df w vR y.rk vs) (hn:y.n<=1000000) (hok:Dy y.n y.rk) (hm0:0<=m) (hK:2*(L m+qf y.rk+2)<=MX) (hL:ut y.n MX rH (jy y.rk m 1)) (hLp:∀t∈y.rk,∀p∈t.ps,L p.q+2*qf y.rk+3<=MX):
  dj Tryz.prog 135 #[Hp y.n vR vP y.tot,cw (aj m)] w λr w'=>∃LO,Gl ae 32 3 r (aS y.n λk=>aj (dy y m k)) LO/\St w w' LO:=by
 have hS:=St.init w;have hL1:L 1<=1:=zH (n:=1) dD;obtain⟨n,hn'⟩:∃n,n=y.n:=⟨_,rfl⟩;rw[<-hn']at hn hok hL⊢;refine enter Tryz.func135 rfl Tryz.ntmps135 rfl ?_;refine jr ?_;refine jh (bY (new:=iA n vR vP y.tot) rfl rfl hS ?_);intro b2 wz1 hS hBz1;refine jh (bY (new:=ae (aj m)) rfl rfl hS ?_);intro b3 wz2 hS hBz2;refine J3 ?_;refine jh (de (enc:=ae) (n:=n) bM rfl rfl bJ rfl oO oO oO oO hS ?_);intro b8 wz3 hS hBz3;refine jp (bR rfl (wV _ _ _) (jh (bY (new:= .slice (some ⟨b8,0,none⟩) n n::ae bM) rfl rfl hS ?_)));intro b10 wz4 hS hBz4;refine V1 ?_;replace hS:St w _ ((b10,167,.slice (some ⟨b8,0,none⟩) n n::ae bM)::(b8,32,(List.replicate n bM).flatMap ae)::[(b3,32,ae (aj m)),(b2,112,iA n vR vP y.tot)]):=hS;rw[cG,cB]at hS;have hG:Gl ae 32 3 (.slice (some ⟨b8,0,none⟩) n n) (aS n λk=>aj (rH.c k)) [(b8,32,(aS n λk=>aj (rH.c k)).flatMap ae)]:=iE (ao _ _) oO;replace hS:St w _ ((ey b10 (.slice (some ⟨b8,0,none⟩) n n) rH.r::[(b3,32,ae (aj m)),(b2,112,iA n vR vP y.tot)])++[(b8,32,(aS n λk=>aj (rH.c k)).flatMap ae)]):=hS.perm (List.Perm.cons _ (List.perm_append_comm (l₁:=[_])));refine ja ?_;refine bk [jo 0,ju 1,ju 2,jo 4,jv 3,jw 5] kR kR hS ?_;intro wz5 hS hBz5;refine J4 ?_;refine jn rfl (ah Tryz.call33 rfl (dN 1 _ dD dD) ?_);rintro r w2 ⟨rfl,hB2⟩;refine⟨hB2,?_⟩;rw[show((1:Int):Rat)=1 from rfl];replace hS:=hS.aG hB2;refine jx rfl (ah Tryz.call136 rfl (y4 b10 n _ vR y.rk vs m 1 rH [(b3,32,ae (aj m)),(b2,112,iA n vR vP y.tot)] _ w _ (λwx A B h=>hR.ab h.ab) hG hS hok hm0 hK hL oO (λt ht p hp=>by have:=hLp t ht p hp;omega)) ?_);rintro r w3 ⟨rfl,LC,hG,hS⟩;refine J1 ?_;refine jp (dX rfl ?_);refine J3 ?_;refine jt ?_;refine bj rfl rfl ?_;exact⟨LC,hG,hS.drop (List.sublist_append_right _ _)⟩
def yr (Z:List Nat) (f:Nat->Rat) (k:Nat):Rat:=if k∈Z then 0 else f k
def iT (y:Ly) (f:Nat->Rat):Nat->Rat:=yr (y.pl.flatMap Pl.mem) f
theorem gY:bM=aj 0:=by rw[gm];rfl
theorem Ic (n:Nat) (Z:List Nat) (f:Nat->Rat) (i:Nat):(aS n λk=>aj (yr Z f k)).set i bM=aS n λk=>aj (yr (Z++[i]) f k):=by
 rw[eP];refine bA λk _=> ?_;unfold yr;by_cases h:k=i
 ·rw[if_pos h,if_pos (by rw[h];simp),gY]
 ·rw[if_neg h];have:k∈Z++[i]↔k∈Z:=by simp[h]
  simp only[this]
theorem He {α β:Type} (l:List α) (d:α) (f:α->List β) {i:Nat} (h:i<l.length):(l.take (i+1)).flatMap f=(l.take i).flatMap f++f (l.getD i d):=by
 rw[cH l i d h,List.flatMap_append,List.flatMap_cons,List.flatMap_nil,List.append_nil]
theorem Cx (vR vP va:Value) (y:Ly) (pv:List (Value×Value)) (lv:List (List Value)) (f:Nat->Rat) (w:World) (hP:Qw w vP y.pl pv lv) (hA:Sl ae 3 w va (aS y.n λk=>aj (f k))) (hm:∀p∈y.pl,∀i∈p.mem,i<y.n) (hn:y.n<=1000):
  dj Tryz.prog 86 #[Hp y.n vR vP y.tot,va] w λr w'=>∃br vc LC,r= .pointer (some ⟨br,0,none⟩)/\Gl ae 32 3 vc (aS y.n λk=>aj (iT y f k)) LC/\St w w' ([ey br vc 0]++LC):=by
 have hS:=St.init w;obtain⟨n,hn'⟩:∃n,n=y.n:=⟨_,rfl⟩;rw[<-hn']at hn hA hm⊢;have htl:=ao n λk=>aj (f k);have hpm:=hP.sl.maxLen;have hpl:=hP.len;rw[hpl]at hpm;refine enter Tryz.func86 rfl Tryz.ntmps86 rfl ?_;refine jr ?_;refine jh (bY (new:=iA n vR vP y.tot) rfl rfl hS ?_);intro b2 wz1 hS hBz1;refine J2 ?_;refine jh (ah Tryz.call47 rfl (Cb va _ _ (hA.ab hS.ab) oO) ?_);rintro r w3 ⟨LC,hG,hS3⟩;replace hS:=hS.join hS3;obtain⟨a,c,rfl⟩:=hG.len;rw[htl]at hG⊢;refine jp (bR rfl (wV _ _ _) (jh (bY (new:= .slice a n c::ae bM) rfl rfl hS ?_)));intro b5 wz2 hS hBz2;refine V1 ?_;replace hS:St w _ ((b5,167,.slice a n c::ae bM)::(LC++[(b2,112,iA n vR vP y.tot)])):=hS;replace hS:St w _ ([(b5,167,.slice a n c::ae bM),(b2,112,iA n vR vP y.tot)]++LC):=hS.perm (List.Perm.cons _ List.perm_append_comm);rw[cB]at hS;refine ja ?_;refine fi (λρ'=>ρ' 2= .pointer (some ⟨b2,0,none⟩)/\ρ' 5= .pointer (some ⟨b5,0,none⟩)/\True) ⟨rfl,rfl,trivial⟩ ?_;rintro ρk3 ⟨hk3_2,hk3_5,-⟩;refine J2 ?_;refine jp (aF rfl (hP.ab hS.ab).sl ⟨_,Tryz.underlying110⟩ ?_);refine J1 ?_;refine jb ?_;rw[hpl];have hG0:Gl ae 32 3 (.slice a n c) (aS n λk=>aj (yr ((y.pl.take 0).flatMap Pl.mem) f k)) LC:=hG;refine aW (λρ w'=>ρ 5=pB b5/\∃LC,Gl ae 32 3 (.slice a n c) (aS n λk=>aj (iT y f k)) LC/\St w w' ([ey b5 (.slice a n c) 0]++LC)) ?_ ?_
 ·refine ja ?_;refine aQ (σ:=Nat) (λi ρ w'=>i<=y.pl.length/\ρ 5=pB b5/\ρ 15=vP/\ρ 16=iB y.pl.length/\ρ 17=iB i/\∃LC,Gl ae 32 3 (.slice a n c) (aS n λk=>aj (yr ((y.pl.take i).flatMap Pl.mem) f k)) LC/\St w w' ([ey b5 (.slice a n c) 0]++LC)) (λi=>y.pl.length-i) 0
   ⟨Nat.zero_le _,jY,rfl,rfl,rfl,LC,hG0,hS.drop (List.Sublist.append (List.Sublist.cons_cons _ (List.nil_sublist _)) (List.Sublist.refl _))⟩ ?_
  clear hS hG hG0;rintro i ρ w4 ⟨hi,h5,h15,h16,h17,LC,hG,hS⟩;refine V1 ?_;by_cases hlt:i<y.pl.length
  ·refine V1 ?_;obtain⟨p,hp⟩:=jz (y.pl.getD i oQ);have hpm':p∈y.pl:=by rw[hp];exact bC _ _ _ hlt
   have hmi:=hP.mem i hlt;have hli:=(hP.ld i hlt).sl;obtain⟨v2,hv2⟩:=jz (pv.getD i mq);rw[<-hp,<-hv2]at hmi hli;obtain⟨ma,mc,hme,_⟩:=hmi.form;obtain⟨la,lc,hle,_⟩:=hli.form;obtain⟨u1,u2⟩:=v2;dsimp only at hmi hme hle;subst hme hle;have hnl:=kJ p.mem;have hmm:=hmi.maxLen;rw[hnl]at hmm hmi hv2;have htf:=He y.pl oQ Pl.mem hlt;rw[<-hp]at htf;refine jr ?_;refine jp (aH (i:=i) h15 h17 (hP.ab hS.ab).sl oO dO to (jq (aO (v:= .agg #[.slice ma p.mem.length mc,.slice la (p.ld.zip (lv.getD i [])).length lc]) (i:=i) mq rfl jN (hP.ab hS.ab).sl oO rfl (by rw[<-hv2];rfl) (.inl rfl) ?_)));refine J1 ?_;intro b7 wz4 hS hBz4;refine J1 ?_;intro wz5 hS;refine ja ?_;replace hS:St w _ ([(b7,160,[.slice ma p.mem.length mc,.slice la (p.ld.zip (lv.getD i [])).length lc]),ey b5 (.slice a n c) 0]++LC):=hS;refine J2 ?_;refine jp (aF rfl (hmi.ab hS.ab) ⟨_,Tryz.underlying46⟩ ?_);refine J1 ?_;refine jb ?_;rw[hnl];refine aW (λρ w'=>ρ 5=pB b5/\ρ 15=vP/\ρ 16=iB y.pl.length/\ρ 17=iB i/\∃LC,Gl ae 32 3 (.slice a n c) (aS n λk=>aj (yr ((y.pl.take (i+1)).flatMap Pl.mem) f k)) LC/\St w w' ([ey b5 (.slice a n c) 0]++LC)) ?_ ?_
   ·rw[htf];obtain⟨Z,hZ⟩:=jz ((y.pl.take i).flatMap Pl.mem);rw[<-hZ]at hG⊢;have hG0:Gl ae 32 3 (.slice a n c) (aS n λk=>aj (yr (Z++p.mem.take 0) f k)) LC:=by rw[List.take_zero,List.append_nil];exact hG
    refine ja ?_;refine aQ (σ:=Nat) (λj ρ w'=>j<=p.mem.length/\ρ 5=pB b5/\ρ 15=vP/\ρ 16=iB y.pl.length/\ρ 17=iB i/\ρ 22= .slice ma p.mem.length mc/\ρ 23=iB p.mem.length/\ρ 24=iB j/\∃LC,Gl ae 32 3 (.slice a n c) (aS n λk=>aj (yr (Z++p.mem.take j) f k)) LC/\St w w' ([ey b5 (.slice a n c) 0]++LC)) (λj=>p.mem.length-j) 0
     ⟨Nat.zero_le _,jY,jY,jY,jY,rfl,rfl,rfl,LC,hG0,hS.drop (List.sublist_cons_self _ _)⟩ ?_
    clear hS hG hG0 h5 h15 h16 h17;rintro j ρ w5 ⟨hj,h5,h15,h16,h17,h22,h23,h24,LC,hG,hS⟩;have htg:=ao n λk=>aj (yr (Z++p.mem.take j) f k);refine V1 ?_;by_cases hjl:j<p.mem.length
    ·refine V1 ?_;obtain⟨k,hk⟩:=jz (p.mem.getD j 0);have hkn:k<n:=hm p hpm' k (by rw[hk];exact bC _ _ _ hjl);have hni:(nI p.mem).getD j 0=(k:Int):=by unfold nI;rw[getD_map _ _ 0 _ hjl,hk]
     have ht:=cH p.mem j 0 hjl;rw[<-hk]at ht;refine jr ?_;refine jp (aH (i:=j) h22 h24 (hmi.ab hS.ab) oO dO ga (jq (aO (i:=j) 0 rfl eI (hmi.ab hS.ab) dO rfl rfl (.inr rfl) ?_)));refine V1 ?_;rw[hni];refine J1 ?_;refine jp (dX rfl ?_);refine J3 ?_;refine jp (bR rfl ix (jp (aH (i:=k) rfl rfl (hG.sl hS aK) oO dO bJ (jh (mD (i:=k) bM aK rfl rfl aB hG hS oO rfl rfl ?_)))));intro wz6 hS;refine ja ?_;obtain⟨LC2,hG,hS⟩:=hS;rw[Ic,List.append_assoc,<-ht]at hG;refine V2 ?_;exact⟨j+1,_,rfl,⟨hjl,jY,jY,jY,jY,jY,jY,vi rfl oO,LC2,hG,hS⟩,oO⟩
    ·refine J1 ?_;refine jt ?_;rw[List.take_of_length_le oO]at hG;exact⟨_,rfl,h5,h15,h16,h17,LC,hG,hS⟩
   clear hS hG h5 h15 h16 h17;rintro ρ w5 ⟨h5,h15,h16,h17,LC,hG,hS⟩;refine V2 ?_;exact⟨i+1,_,rfl,⟨hlt,jY,jY,jY,vi rfl oO,LC,hG,hS⟩,oO⟩
  ·refine J1 ?_;refine jt ?_;obtain rfl:i=y.pl.length:=oO;rw[List.take_length]at hG;exact⟨_,rfl,h5,LC,hG,hS⟩
 clear hS hG hG0;rintro ρ w4 ⟨h5,LC,hG,hS⟩;refine J2 ?_;refine jt ?_;refine bj rfl rfl ?_;exact⟨b5,_,LC,rfl,hG,hS⟩
def O8 (y:Ly) (m:Rat) (s:Rs) (p:Pl):Rs:=jk s (jD p.ld (fN p.mem (cy y m)))
def kp (y:Ly) (m:Rat) (i:Nat):Rs:=(y.pl.take i).foldl (O8 y m) ⟨iT y (cy y m),0⟩
def Qg (y:Ly) (m:Rat) (s:Rs) (p:Pl):Rs:=jk s (jy p.ld (fN p.mem (cy y m)) (fN p.mem (dy y m)))
def kB (y:Ly) (m:Rat) (i:Nat):Rs:=(y.pl.take i).foldl (Qg y m) ⟨iT y (dy y m),0⟩
theorem Gj (y:Ly) (m:Rat) {i:Nat} (h:i<y.pl.length):kp y m (i+1)=O8 y m (kp y m i) (y.pl.getD i oQ):=by
 unfold kp;rw[cH y.pl i oQ h,List.foldl_append];rfl
theorem Gp (y:Ly) (m:Rat) {i:Nat} (h:i<y.pl.length):kB y m (i+1)=Qg y m (kB y m i) (y.pl.getD i oQ):=by
 unfold kB;rw[cH y.pl i oQ h,List.foldl_append];rfl
structure Ih (y:Ly) (m:Rat):Prop where
 n:y.n<=1000
 rk:Dy y.n y.rk
 m0:0<=m
 k:2*(L m+qf y.rk+2)<=MX
 l:ut y.n MX rH (jD y.rk m)
 lp:∀t∈y.rk,∀p∈t.ps,L p.q+L m+2*qf y.rk+2<=MX
 mem:∀p∈y.pl,∀i∈p.mem,i<y.n
 ld:∀p∈y.pl,Dy y.n p.ld
 s:∀p∈y.pl,Bb p.mem (cy y m)+1<=MX
 p0:∀p∈y.pl,0<=fN p.mem (cy y m)
 pk:∀p∈y.pl,2*(L (fN p.mem (cy y m))+qf p.ld+2)<=MX
 pl:∀i,i<y.pl.length->ut y.n MX (kp y m i) (jD (y.pl.getD i oQ).ld (fN (y.pl.getD i oQ).mem (cy y m)))
 pp:∀p∈y.pl,∀t∈p.ld,∀q∈t.ps,L q.q+L (fN p.mem (cy y m))+2*qf p.ld+2<=MX
structure Ch (y:Ly) (m:Rat):Prop where
 d:Ih y m
 l:ut y.n MX rH (jy y.rk m 1)
 lp:∀t∈y.rk,∀p∈t.ps,L p.q+2*qf y.rk+3<=MX
 s:∀p∈y.pl,Bb p.mem (dy y m)+1<=MX
 pl:∀i,i<y.pl.length->ut y.n MX (kB y m i) (jy (y.pl.getD i oQ).ld (fN (y.pl.getD i oQ).mem (cy y m)) (fN (y.pl.getD i oQ).mem (dy y m)))
 pr:∀p∈y.pl,L (fN p.mem (dy y m))+qf p.ld<=MX
 pp:∀p∈y.pl,∀t∈p.ld,∀q∈t.ps,L q.q+L (fN p.mem (dy y m))+2*qf p.ld+2<=MX
theorem QK {α:Type} (x:α) (A LC:List α):(([x]++LC)++A).Perm ((x::A)++LC):=List.Perm.cons _ List.perm_append_comm
theorem qQ (vR vP:Value) (y:Ly) (vs:List Value) (pv:List (Value×Value)) (lv:List (List Value)) (m:Rat) (w:World) (hY:HF w vR vP y vs pv lv) (hh:Ih y m):
  dj Tryz.prog 48 #[Hp y.n vR vP y.tot,cw (aj m)] w λr w'=>∃v LO,r= .tuple #[v,cw (aj (kp y m y.pl.length).r)]/\Gl ae 32 3 v (aS y.n λk=>aj ((kp y m y.pl.length).c k)) LO/\St w w' LO:=by
 have hS:=St.init w;have hR:=hY.rk;have hP:=hY.pl;have hpm:=hP.sl.maxLen;have hpl:=hP.len;rw[hpl]at hpm;have hd:=hh;have hn:=hd.n;obtain⟨n,hn'⟩:∃n,n=y.n:=⟨_,rfl⟩;have hgross:=λw h=>sS vR vP y vs m w h oO hd.rk hd.m0 hd.k hd.l hd.lp;have htake:=λva w h1 h2=>Cx vR vP va y pv lv (cy y m) w h1 h2 hd.mem hn;have hrk:=hd.rk;have hmem:=hd.mem;have hldo:=hd.ld;have hpl':=hd.pl;rw[<-hn']at hn hgross htake hmem hldo hpl'⊢;obtain⟨cl,hcl⟩:=jz (iA n vR vP y.tot);refine enter Tryz.func48 rfl Tryz.ntmps48 rfl ?_;refine jr ?_;refine jh (bY (new:=iA n vR vP y.tot) rfl rfl hS ?_);intro b2 wz1 hS hBz1;refine jh (bY (new:=ae (aj m)) rfl rfl hS ?_);intro b3 wz2 hS hBz2;refine J2 ?_;intro b5 wz3 hS hBz3;refine ja ?_;replace hS:St w _ [(b5,32,ae bM),(b3,32,ae (aj m)),(b2,112,iA n vR vP y.tot)]:=hS;refine J2 ?_;refine jh (ah Tryz.call49 rfl (hgross _ (hR.ab hS.ab)) ?_);rintro vg w3 ⟨LG,hg,hB3⟩;replace hg:=hg.sl (H:=[]) hB3 aK;replace hB3:=hB3.ab;replace hS:=hS.aG hB3;refine V1 ?_;have hB0:=hS.ab;have hS0:=hS;have hP3:=hP.ab hB0;refine J2 ?_;refine jh (ah Tryz.call86 rfl (htake vg _ (hP.ab hS.ab) hg) ?_);rintro r w4 ⟨br,vc,LC,rfl,hG,hS4⟩;replace hS:St w _ ([ey br vc 0,(b5,32,ae bM),(b3,32,ae (aj m)),(b2,112,iA n vR vP y.tot)]++LC):=(hS.join hS4).perm (QK _ _ _);refine V1 ?_;refine fi (λρ'=>ρ' 2= .pointer (some ⟨b2,0,none⟩)/\ρ' 5= .pointer (some ⟨b5,0,none⟩)/\ρ' 6=vg/\ρ' 7= .pointer (some ⟨br,0,none⟩)/\True) ⟨rfl,rfl,rfl,rfl,trivial⟩ ?_;rintro ρk4 ⟨hk4_2,hk4_5,hk4_6,hk4_7,-⟩;refine J2 ?_;refine jp (aF rfl (hP.ab hS.ab).sl ⟨_,Tryz.underlying110⟩ ?_);refine J1 ?_;refine jb ?_;rw[hpl];replace hS:=hS4;clear hS4;refine aW (λρ w'=>ρ 5=pB b5/\ρ 7=pB br/\∃LC,Gl ae 32 3 vc (aS n λk=>aj ((kp y m y.pl.length).c k)) LC/\St w3 w' ([ey br vc (kp y m y.pl.length).r]++LC)) ?_ ?_
 ·refine ja ?_;refine aQ (σ:=Nat) (λi ρ w'=>i<=y.pl.length/\ρ 5=pB b5/\ρ 6=vg/\ρ 7=pB br/\ρ 17=vP/\ρ 18=iB y.pl.length/\ρ 19=iB i/\∃LC,Gl ae 32 3 vc (aS n λk=>aj ((kp y m i).c k)) LC/\St w3 w' ([ey br vc (kp y m i).r]++LC)) (λi=>y.pl.length-i) 0
   ⟨Nat.zero_le _,jY,jY,jY,rfl,rfl,rfl,LC,hG,hS⟩ ?_
  clear hS hG;rintro i ρ w6 ⟨hi,h5,h6,h7,h17,h18,h19,LC,hG,hS⟩;refine V1 ?_;by_cases hlt:i<y.pl.length
  ·refine V1 ?_;obtain⟨p,hp⟩:=jz (y.pl.getD i oQ);have hpm':p∈y.pl:=by rw[hp];exact bC _ _ _ hlt
   have hmi:=hP3.mem i hlt;have hld:=hP3.ld i hlt;obtain⟨v2,hv2⟩:=jz (pv.getD i mq);obtain⟨lvi,hlvi⟩:=jz (lv.getD i []);rw[<-hp,<-hv2]at hmi hld;rw[<-hlvi]at hld;have hli:=hld.sl;obtain⟨ma,mc,hme,_⟩:=hmi.form;obtain⟨la,lc,hle,_⟩:=hli.form;obtain⟨u1,u2⟩:=v2;dsimp only at hmi hld hli hme hle;obtain⟨ll,hll⟩:=jz ((p.ld.zip lvi).length);rw[<-hll]at hle;obtain⟨ml,hml⟩:=jz ((nI p.mem).length);rw[<-hml]at hme;subst hme hle;have hsucc:=Gj y m hlt;have hplx:=hpl' i hlt;rw[<-hp]at hsucc hplx;refine jr ?_;refine jp (aH (i:=i) h17 h19 (hP3.ab hS.ab).sl oO dO to (jq (aO (v:= .agg #[.slice ma ml mc,.slice la ll lc]) (i:=i) mq rfl jN (hP3.ab hS.ab).sl oO rfl (by rw[<-hv2];rfl) (.inl rfl) ?_)));refine J1 ?_;intro b9 wz5 hS hBz5;refine J1 ?_;intro wz6 hS;refine ja ?_;replace hS:St w3 _ ([(b9,160,[.slice ma ml mc,.slice la ll lc]),ey br vc (kp y m i).r]++LC):=hS;refine ja ?_;refine bk [jo 0,ju 1,ju 2,jo 3,jo 5,jv 4,jw 6] kR kR hS ?_;intro wz7 hS hBz7;refine J5 ?_;refine jn rfl (ah Tryz.call88 rfl (nF _ _ vg p.mem n (cy y m) _ (hmi.ab hS.ab) (hg.ab hS.ab) (hmem p hpm') (hd.s p hpm')) ?_);rintro r w7 ⟨rfl,hB7⟩;refine⟨hB7,?_⟩;replace hS:=hS.aG hB7;refine jx rfl (ah Tryz.call87 rfl (EL br n vc _ p.ld lvi (fN p.mem (cy y m)) (kp y m i) [(b9,160,[.slice ma ml mc,.slice la ll lc])] LC w3 _ (λwx A B h=>hld.ab h.ab) hG (hS.perm (List.Perm.append_right _ (List.Perm.swap _ _ _))) (hldo p hpm') (hd.p0 p hpm') (hd.pk p hpm') hplx (hd.pp p hpm')) ?_);rintro r w8 ⟨rfl,LC2,hG,hS⟩;rw[show jk (kp y m i) (jD p.ld (fN p.mem (cy y m)))=kp y m (i+1)from hsucc.symm]at hG hS;refine V2 ?_;exact⟨i+1,_,rfl,⟨hlt,jY,jY,jY,jY,jY,vi rfl oO,LC2,hG,(hS.perm (List.Perm.append_right _ (List.Perm.swap _ _ _))).drop (List.sublist_cons_self _ _)⟩,oO⟩
  ·refine J1 ?_;refine jt ?_;obtain rfl:i=y.pl.length:=oO;exact⟨_,rfl,h5,h7,LC,hG,hS⟩
 clear hS hG;rintro ρ w6 ⟨h5,h7,LC,hG,hS⟩;replace hS:=(hS0.join hS).perm (QK _ _ _);refine ja ?_;refine bk [jo 0,jo 1,jo 2,ju 3,jo 4,jo 5,jo 6,ju 7,jo 8,jw 9] kR kR hS ?_;intro wz8 hS hBz8;refine J1 ?_;refine jl rfl (dX rfl ?_);refine J3 ?_;refine jl rfl (dX rfl ?_);refine J4 ?_;intro wz9 hS;refine jt ?_;refine mL (k:=1) rfl h5 rfl aB hS rfl rfl ?_;exact⟨_,LC,rfl,hG,hS.drop (List.sublist_append_right [_,_,_,_] LC)⟩
theorem tQ (vR vP:Value) (y:Ly) (vs:List Value) (pv:List (Value×Value)) (lv:List (List Value)) (m:Rat) (w:World) (hY:HF w vR vP y vs pv lv) (hh:Ch y m):
  dj Tryz.prog 92 #[Hp y.n vR vP y.tot,cw (aj m)] w λr w'=>∃v LO,r= .tuple #[v,cw (aj (kB y m y.pl.length).r)]/\Gl ae 32 3 v (aS y.n λk=>aj ((kB y m y.pl.length).c k)) LO/\St w w' LO:=by
 have hS:=St.init w;have hR:=hY.rk;have hP:=hY.pl;have hpm:=hP.sl.maxLen;have hpl:=hP.len;rw[hpl]at hpm;have hd:=hh.d;have hn:=hd.n;obtain⟨n,hn'⟩:∃n,n=y.n:=⟨_,rfl⟩;have hgross:=λw h=>sS vR vP y vs m w h oO hd.rk hd.m0 hd.k hd.l hd.lp;have hrates:=λw h=>Bq vR vP y vs m w h oO hd.rk hd.m0 hd.k hh.l hh.lp;have htake:=λva w h1 h2=>Cx vR vP va y pv lv (dy y m) w h1 h2 hd.mem hn;have hrk:=hd.rk;have hmem:=hd.mem;have hldo:=hd.ld;have hpl':=hh.pl;rw[<-hn']at hn hgross htake hmem hldo hpl' hrates⊢;obtain⟨cl,hcl⟩:=jz (iA n vR vP y.tot);refine enter Tryz.func92 rfl Tryz.ntmps92 rfl ?_;refine jr ?_;refine jh (bY (new:=iA n vR vP y.tot) rfl rfl hS ?_);intro b2 wz1 hS hBz1;refine jh (bY (new:=ae (aj m)) rfl rfl hS ?_);intro b3 wz2 hS hBz2;refine J2 ?_;intro b5 wz3 hS hBz3;refine ja ?_;replace hS:St w _ [(b5,32,ae bM),(b3,32,ae (aj m)),(b2,112,iA n vR vP y.tot)]:=hS;refine ja ?_;refine bk [ju 0,ju 1,ju 3,ju 4,jv 2,jv 5,jo 6,jo 7] kR kR hS ?_;intro wz4 hS hBz4;refine J4 ?_;refine jn rfl (ah Tryz.call49 rfl (hgross _ (hR.ab hS.ab)) ?_);rintro vg w3 ⟨LG,hg,hB3⟩;refine⟨hB3.ab,?_⟩;replace hg:=hg.sl (H:=[]) hB3 aK;replace hB3:=hB3.ab;replace hS:=hS.aG hB3;refine jn rfl (ah Tryz.call135 rfl (hrates _ (hR.ab hS.ab)) ?_);rintro vr w3' ⟨LR,hr,hB3'⟩;refine⟨hB3'.ab,?_⟩;replace hr:=hr.sl (H:=[]) hB3' aK;replace hB3':=hB3'.ab;replace hS:=hS.aG hB3';replace hg:=hg.ab hB3';refine V2 ?_;have hB0:=hS.ab;have hS0:=hS;have hP3:=hP.ab hB0;refine J2 ?_;refine jh (ah Tryz.call86 rfl (htake vr _ (hP.ab hS.ab) hr) ?_);rintro r w4 ⟨br,vc,LC,rfl,hG,hS4⟩;replace hS:St w _ ([ey br vc 0,(b5,32,ae bM),(b3,32,ae (aj m)),(b2,112,iA n vR vP y.tot)]++LC):=(hS.join hS4).perm (QK _ _ _);refine V1 ?_;refine fi (λρ'=>ρ' 2= .pointer (some ⟨b2,0,none⟩)/\ρ' 5= .pointer (some ⟨b5,0,none⟩)/\ρ' 6=vg/\ρ' 7=vr/\ρ' 8= .pointer (some ⟨br,0,none⟩)/\True) ⟨rfl,rfl,rfl,rfl,rfl,trivial⟩ ?_;rintro ρk5 ⟨hk5_2,hk5_5,hk5_6,hk5_7,hk5_8,-⟩;refine J2 ?_;refine jp (aF rfl (hP.ab hS.ab).sl ⟨_,Tryz.underlying110⟩ ?_);refine J1 ?_;refine jb ?_;rw[hpl];replace hS:=hS4;clear hS4;refine aW (λρ w'=>ρ 5=pB b5/\ρ 8=pB br/\∃LC,Gl ae 32 3 vc (aS n λk=>aj ((kB y m y.pl.length).c k)) LC/\St w3' w' ([ey br vc (kB y m y.pl.length).r]++LC)) ?_ ?_
 ·refine ja ?_;refine aQ (σ:=Nat) (λi ρ w'=>i<=y.pl.length/\ρ 5=pB b5/\ρ 6=vg/\ρ 7=vr/\ρ 8=pB br/\ρ 21=vP/\ρ 22=iB y.pl.length/\ρ 23=iB i/\∃LC,Gl ae 32 3 vc (aS n λk=>aj ((kB y m i).c k)) LC/\St w3' w' ([ey br vc (kB y m i).r]++LC)) (λi=>y.pl.length-i) 0
   ⟨Nat.zero_le _,jY,jY,jY,jY,rfl,rfl,rfl,LC,hG,hS⟩ ?_
  clear hS hG;rintro i ρ w6 ⟨hi,h5,h6,h7,h8,h21,h22,h23,LC,hG,hS⟩;refine V1 ?_;by_cases hlt:i<y.pl.length
  ·refine V1 ?_;obtain⟨p,hp⟩:=jz (y.pl.getD i oQ);have hpm':p∈y.pl:=by rw[hp];exact bC _ _ _ hlt
   have hmi:=hP3.mem i hlt;have hld:=hP3.ld i hlt;obtain⟨v2,hv2⟩:=jz (pv.getD i mq);obtain⟨lvi,hlvi⟩:=jz (lv.getD i []);rw[<-hp,<-hv2]at hmi hld;rw[<-hlvi]at hld;have hli:=hld.sl;obtain⟨ma,mc,hme,_⟩:=hmi.form;obtain⟨la,lc,hle,_⟩:=hli.form;obtain⟨u1,u2⟩:=v2;dsimp only at hmi hld hli hme hle;obtain⟨ll,hll⟩:=jz ((p.ld.zip lvi).length);rw[<-hll]at hle;obtain⟨ml,hml⟩:=jz ((nI p.mem).length);rw[<-hml]at hme;subst hme hle;have hsucc:=Gp y m hlt;have hplx:=hpl' i hlt;rw[<-hp]at hsucc hplx;refine jr ?_;refine jp (aH (i:=i) h21 h23 (hP3.ab hS.ab).sl oO dO to (jq (aO (v:= .agg #[.slice ma ml mc,.slice la ll lc]) (i:=i) mq rfl jN (hP3.ab hS.ab).sl oO rfl (by rw[<-hv2];rfl) (.inl rfl) ?_)));refine J1 ?_;intro b9 wz6 hS hBz6;refine J1 ?_;intro wz7 hS;refine ja ?_;replace hS:St w3' _ ([(b9,160,[.slice ma ml mc,.slice la ll lc]),ey br vc (kB y m i).r]++LC):=hS;refine ja ?_;refine bk [jo 0,ju 1,ju 2,jo 3,ju 5,jo 6,jo 8,jv 4,jv 7,jw 9] kR kR hS ?_;intro wz8 hS hBz8;refine J7 ?_;refine jn rfl (ah Tryz.call88 rfl (nF _ _ vg p.mem n (cy y m) _ (hmi.ab hS.ab) (hg.ab hS.ab) (hmem p hpm') (hd.s p hpm')) ?_);rintro r w7 ⟨rfl,hB7⟩;refine⟨hB7,?_⟩;replace hS:=hS.aG hB7;refine jn rfl (ah Tryz.call88 rfl (nF _ _ vr p.mem n (dy y m) _ (hmi.ab hS.ab) (hr.ab hS.ab) (hmem p hpm') (hh.s p hpm')) ?_);rintro r w7' ⟨rfl,hB7'⟩;refine⟨hB7',?_⟩;replace hS:=hS.aG hB7';refine jx rfl (ah Tryz.call136 rfl (y4 br n vc _ p.ld lvi (fN p.mem (cy y m)) (fN p.mem (dy y m)) (kB y m i) [(b9,160,[.slice ma ml mc,.slice la ll lc])] LC w3' _ (λwx A B h=>hld.ab h.ab) hG (hS.perm (List.Perm.append_right _ (List.Perm.swap _ _ _))) (hldo p hpm') (hd.p0 p hpm') (hd.pk p hpm') hplx (hh.pr p hpm') (hh.pp p hpm')) ?_);rintro r w8 ⟨rfl,LC2,hG,hS⟩;rw[show jk (kB y m i) (jy p.ld (fN p.mem (cy y m)) (fN p.mem (dy y m)))=kB y m (i+1)from hsucc.symm]at hG hS;refine V2 ?_;exact⟨i+1,_,rfl,⟨hlt,jY,jY,jY,jY,jY,jY,vi rfl oO,LC2,hG,(hS.perm (List.Perm.append_right _ (List.Perm.swap _ _ _))).drop (List.sublist_cons_self _ _)⟩,oO⟩
  ·refine J1 ?_;refine jt ?_;obtain rfl:i=y.pl.length:=oO;exact⟨_,rfl,h5,h8,LC,hG,hS⟩
 clear hS hG;rintro ρ w6 ⟨h5,h8,LC,hG,hS⟩;replace hS:=(hS0.join hS).perm (QK _ _ _);refine ja ?_;refine bk [jo 0,jo 1,jo 2,ju 3,jo 4,jo 5,jo 6,ju 7,jo 8,jw 9] kR kR hS ?_;intro wz9 hS hBz9;refine J1 ?_;refine jl rfl (dX rfl ?_);refine J3 ?_;refine jl rfl (dX rfl ?_);refine J4 ?_;intro wz10 hS;refine jt ?_;refine mL (k:=1) rfl h5 rfl aB hS rfl rfl ?_;exact⟨_,LC,rfl,hG,hS.drop (List.sublist_append_right [_,_,_,_] LC)⟩
theorem HO {α:Type} (A B C:List α):(A++B++C).Perm (A++C++B):=by
 rw[List.append_assoc,List.append_assoc];exact List.Perm.append_left _ List.perm_append_comm
def j8 (T:List Tr) (m:Rat):Rat:=(T.getD (dq T m) jZ).sm-j9 T m
def rY (y:Ly) (m:Rat) (p:Pl):Prop:=dq p.ld (fN p.mem (cy y m))<p.ld.length/\0<fN p.mem (dy y m)
instance (y:Ly) (m:Rat) (p:Pl):Decidable (rY y m p):=by unfold rY;infer_instance
def qk (y:Ly) (m:Rat) (p:Pl):Rat:=j8 p.ld (fN p.mem (cy y m))/fN p.mem (dy y m)
def lS (y:Ly) (m:Rat) (o:Rat) (p:Pl):Rat:=if rY y m p then r6 o (qk y m p)else o
def pj (y:Ly) (m:Rat) (i:Nat):Rat:=(y.pl.take i).foldl (lS y m) (j8 y.rk m)
theorem Gx (y:Ly) (m:Rat) {i:Nat} (h:i<y.pl.length):pj y m (i+1)=lS y m (pj y m i) (y.pl.getD i oQ):=by
 unfold pj;rw[cH y.pl i oQ h,List.foldl_append];rfl
structure Om (y:Ly) (m:Rat):Prop where
 s:Ch y m
 g:∀p∈y.pl,L (j8 p.ld (fN p.mem (cy y m)))+L (fN p.mem (dy y m))<=MX
 o:∀i,i<y.pl.length->L (pj y m i)+L (qk y m (y.pl.getD i oQ))<=MX
theorem Ij (vR vP:Value) (y:Ly) (vs:List Value) (pv:List (Value×Value)) (lv:List (List Value)) (m:Rat) (w:World) (hY:HF w vR vP y vs pv lv) (hh:Om y m):
  dj Tryz.prog 147 #[Hp y.n vR vP y.tot,cw (aj m)] w λr w'=>r=(if dq y.rk m<y.rk.length then .tuple #[cw (aj (pj y m y.pl.length)),.bool true]else .tuple #[cw bM,.bool false])/\Below w.heap.size w w':=by
 have hS:=St.init w;have hR:=hY.rk;have hP:=hY.pl;have hpm:=hP.sl.maxLen;have hpl:=hP.len;rw[hpl]at hpm;have hd:=hh.s.d;have hn:=hd.n;obtain⟨n,hn'⟩:∃n,n=y.n:=⟨_,rfl⟩;have hgross:=λw h=>sS vR vP y vs m w h oO hd.rk hd.m0 hd.k hd.l hd.lp;have hrates:=λw h=>Bq vR vP y vs m w h oO hd.rk hd.m0 hd.k hh.s.l hh.s.lp;have hgap:=λw h=>EN vR y.rk vs m w h hd.k;have hmem:=hd.mem;rw[<-hn']at hn hgross hrates hmem⊢;refine enter Tryz.func147 rfl Tryz.ntmps147 rfl ?_;refine jr ?_;refine jh (bY (new:=iA n vR vP y.tot) rfl rfl hS ?_);intro b2 wz1 hS hBz1;refine jh (bY (new:=ae (aj m)) rfl rfl hS ?_);intro b3 wz2 hS hBz2;refine J1 ?_;intro b4 wz3 hS hBz3;refine V1 ?_;replace hS:St w _ [(b4,32,ae bM),(b3,32,ae (aj m)),(b2,112,iA n vR vP y.tot)]:=hS;refine J3 ?_;refine jh (ah Tryz.call177 rfl (hgap _ (hR.ab hS.ab)) ?_);rintro r w3 ⟨rfl,hB3⟩;replace hS:=hS.aG hB3;by_cases hlt:dq y.rk m<y.rk.length
 case neg=>
  rw[if_neg hlt,if_neg hlt];refine J4 ?_;intro b6 wz4 hS hBz4;refine J1 ?_;intro wz5 hS;refine V3 ?_;refine bZ rfl (rfl) ?_;refine jr ?_;refine jp (bR rfl ix ?_);refine J1 ?_;intro wz6 hS;refine J1 ?_;refine jt ?_;refine eV (k:=1) rfl rfl rfl aB hS rfl rfl ?_;exact⟨rfl,hS.ab⟩
 rw[if_pos hlt,if_pos hlt];obtain⟨g0,hg0⟩:=jz ((y.rk.getD (dq y.rk m) jZ).sm-j9 y.rk m);have hs0:pj y m 0=g0:=hg0.symm;rw[<-hg0];refine J4 ?_;intro b6 wz7 hS hBz7;refine J1 ?_;intro wz8 hS;refine V1 ?_;refine fi (λρ'=>ρ' 2= .pointer (some ⟨b2,0,none⟩)/\ρ' 3= .pointer (some ⟨b3,0,none⟩)/\ρ' 4= .pointer (some ⟨b4,0,none⟩)/\ρ' 6= .pointer (some ⟨b6,0,none⟩)/\ρ' 7= .bool true/\True) ⟨rfl,rfl,rfl,rfl,rfl,trivial⟩ ?_;rintro ρk9 ⟨hk9_2,hk9_3,hk9_4,hk9_6,hk9_7,-⟩;refine V2 ?_;refine ct rfl (rfl) ?_;refine ja ?_;refine bk [ju 0,ju 1,ju 3,ju 4,jv 2,jv 5,jo 6,jo 7] kR kR hS ?_;intro wz10 hS hBz10;refine J4 ?_;refine jn rfl (ah Tryz.call49 rfl (hgross _ (hR.ab hS.ab)) ?_);rintro vg w4 ⟨LG,hg,hS4⟩;refine⟨hS4.ab,?_⟩;replace hS:St w _ ([(b6,32,ae (aj g0)),(b4,32,ae bM),(b3,32,ae (aj m)),(b2,112,iA n vR vP y.tot)]++LG):=(hS.join hS4).perm List.perm_append_comm;refine jn rfl (ah Tryz.call135 rfl (hrates _ (hR.ab hS.ab)) ?_);rintro vr w5 ⟨LR,hr,hS5⟩;refine⟨hS5.ab,?_⟩;replace hS:St w _ ([(b6,32,ae (aj g0)),(b4,32,ae bM),(b3,32,ae (aj m)),(b2,112,iA n vR vP y.tot)]++LG++LR):=(hS.join hS5).perm List.perm_append_comm;refine V2 ?_;refine fi (λρ'=>ρ' 2= .pointer (some ⟨b2,0,none⟩)/\ρ' 4= .pointer (some ⟨b4,0,none⟩)/\ρ' 6= .pointer (some ⟨b6,0,none⟩)/\ρ' 8=vg/\ρ' 9=vr/\True) ⟨hk9_2,hk9_4,hk9_6,rfl,rfl,trivial⟩ ?_;rintro ρk11 ⟨hk11_2,hk11_4,hk11_6,hk11_8,hk11_9,-⟩;refine J2 ?_;refine jp (aF rfl (hP.ab hS.ab).sl ⟨_,Tryz.underlying110⟩ ?_);refine J1 ?_;refine jb ?_;rw[hpl];rw[<-hs0]at hS;refine aW (λρ w'=>ρ 4=pB b4/\ρ 6=pB b6/\St w w' [(b6,32,ae (aj (pj y m y.pl.length))),(b4,32,ae bM)]) ?_ ?_
 ·refine ja ?_;refine aQ (σ:=Nat) (λi ρ w'=>i<=y.pl.length/\ρ 4=pB b4/\ρ 6=pB b6/\ρ 8=vg/\ρ 9=vr/\ρ 34=vP/\ρ 35=iB y.pl.length/\ρ 36=iB i/\St w w' ([(b6,32,ae (aj (pj y m i))),(b4,32,ae bM)]++LG++LR)) (λi=>y.pl.length-i) 0
   ⟨Nat.zero_le _,jY,jY,jY,jY,rfl,rfl,rfl,hS.drop (List.Sublist.append (List.Sublist.append (List.sublist_append_left [_,_] [_,_]) (List.Sublist.refl _)) (List.Sublist.refl _))⟩ ?_
  clear hS hs0 hS4 hS5;rintro i ρ w6 ⟨hi,h4,h6,h8,h9,h34,h35,h36,hS⟩;refine V1 ?_;by_cases hil:i<y.pl.length
  ·refine V1 ?_;obtain⟨p,hp⟩:=jz (y.pl.getD i oQ);have hpm':p∈y.pl:=by rw[hp];exact bC _ _ _ hil
   have hmi:=hP.mem i hil;have hld:=hP.ld i hil;obtain⟨v2,hv2⟩:=jz (pv.getD i mq);obtain⟨lvi,hlvi⟩:=jz (lv.getD i []);rw[<-hp,<-hv2]at hmi hld;rw[<-hlvi]at hld;have hli:=hld.sl;obtain⟨ma,mc,hme,_⟩:=hmi.form;obtain⟨la,lc,hle,_⟩:=hli.form;obtain⟨u1,u2⟩:=v2;dsimp only at hmi hld hli hme hle;obtain⟨ll,hll⟩:=jz ((p.ld.zip lvi).length);rw[<-hll]at hle;obtain⟨ml,hml⟩:=jz ((nI p.mem).length);rw[<-hml]at hme;subst hme hle;have hsucc:=Gx y m hil;have hox:=hh.o i hil;rw[<-hp]at hsucc hox;have hgp:=hh.g p hpm';obtain⟨P,hPe⟩:=jz (fN p.mem (cy y m));obtain⟨R,hRe⟩:=jz (fN p.mem (dy y m));have hpk:=hd.pk p hpm';rw[<-hPe,<-hRe]at hgp;rw[<-hPe]at hpk;obtain⟨o,ho⟩:=jz (pj y m i);rw[<-ho]at hS hsucc hox;have hstp:lS y m o p=if dq p.ld P<p.ld.length/\0<R then r6 o (j8 p.ld P/R)else o:=by
    unfold lS rY qk;rw[hPe,hRe]
   have hox2:L o+L (j8 p.ld P/R)<=MX:=by rw[hPe,hRe];exact hox
   rw[hstp]at hsucc;clear hstp hox;obtain⟨gp,hgpe⟩:=jz (j8 p.ld P);rw[<-hgpe]at hgp hox2 hsucc;refine jr ?_;refine jp (aH (i:=i) h34 h36 (hP.ab hS.ab).sl oO dO to (jq (aO (v:= .agg #[.slice ma ml mc,.slice la ll lc]) (i:=i) mq rfl jN (hP.ab hS.ab).sl oO rfl (by rw[<-hv2];rfl) (.inl rfl) ?_)));refine J1 ?_;intro b11 wz12 hS hBz12;refine J1 ?_;intro wz13 hS;refine ja ?_;replace hS:St w _ ([(b11,160,[.slice ma ml mc,.slice la ll lc]),(b6,32,ae (aj o)),(b4,32,ae bM)]++LG++LR):=hS;refine J2 ?_;refine jh (ah Tryz.call88 rfl (nF _ _ vr p.mem n (dy y m) _ (hmi.ab hS.ab) (hr.sl hS aK) (hmem p hpm') (hh.s.s p hpm')) ?_);rintro r w7 ⟨rfl,hB7⟩;rw[<-hRe];replace hS:=hS.aG hB7;refine J1 ?_;intro b12 wz14 hS hBz14;refine J1 ?_;intro wz15 hS;refine ja ?_;replace hS:St w _ ([(b12,32,ae (aj R)),(b11,160,[.slice ma ml mc,.slice la ll lc]),(b6,32,ae (aj o)),(b4,32,ae bM)]++LG++LR):=hS;have htotg:=λw h1 h2=>nF (.slice ma ml mc) (.slice la ll lc) vg p.mem n (cy y m) w h1 h2 (hmem p hpm') (hd.s p hpm');rw[<-hPe]at htotg;have hgapp:=λw h=>EN (.slice la ll lc) p.ld lvi P w h hpk;obtain⟨op,hop⟩:=jz (decide (dq p.ld P<p.ld.length));obtain⟨gv,hgv⟩:∃gv:Rat,gv=if dq p.ld P<p.ld.length then gp else 0:=⟨_,rfl⟩
   have hgr:(if dq p.ld P<p.ld.length then Value.tuple #[cw (aj ((p.ld.getD (dq p.ld P) jZ).sm-j9 p.ld P)),.bool true]else .tuple #[cw bM,.bool false])= .tuple #[cw (aj gv),.bool op]:=by
    rw[hop,hgv];by_cases g:dq p.ld P<p.ld.length
    ·rw[if_pos g,if_pos g,decide_eq_true g,hgpe];rfl
    ·rw[if_neg g,if_neg g,decide_eq_false g,gY]
   rw[hgr]at hgapp;refine ja ?_;refine fi (λρ'=>ρ' 4= .pointer (some ⟨b4,0,none⟩)/\ρ' 6= .pointer (some ⟨b6,0,none⟩)/\ρ' 8=vg/\ρ' 9=vr/\ρ' 34=vP/\ρ' 35= .int .i64 y.pl.length/\ρ' 36= .int .i64 i/\ρ' 11= .pointer (some ⟨b11,0,none⟩)/\ρ' 12= .pointer (some ⟨b12,0,none⟩)/\True) ⟨h4,h6,h8,h9,h34,h35,h36,rfl,rfl,trivial⟩ ?_;rintro ρk16 ⟨hk16_4,hk16_6,hk16_8,hk16_9,hk16_34,hk16_35,hk16_36,hk16_11,hk16_12,-⟩;refine aW (λρ w'=>ρ 4=pB b4/\ρ 6=pB b6/\ρ 8=vg/\ρ 9=vr/\ρ 34=vP/\ρ 35=iB y.pl.length/\ρ 36=iB i/\ρ 12=pB b12/\ρ 14= .bool op/\∃b13,ρ 13=pB b13/\
    St w w' ([(b13,32,ae (aj gv)),(b12,32,ae (aj R)),(b6,32,ae (aj o)),(b4,32,ae bM)]++LG++LR)) ?_ ?_
   ·refine ja ?_;refine pT 9 [jo 0,ju 1,ju 2,jo 3,jv 4,jv 5,jo 6,jo 7,jo 8,jw 10,jo 11] kR kR hS ?_;intro wz17 hS hBz17;refine dG kR rfl rfl (cx hk16_11 wE (jE kR rfl rfl (bT (k:=1) rfl mr hS rfl rfl rfl (.inr rfl) (jE kR rfl rfl (bT (k:=1) hk16_11 jN hS rfl rfl rfl (.inl rfl) (dG kR rfl rfl (aI hk16_8 ?_)))))));refine lY rfl rfl ?_ ?_
    ·refine J1 ?_;intro b13 wz18 hS hBz18;refine⟨hBz18,?_⟩;refine jn rfl (ah Tryz.call88 rfl (htotg _ (hmi.ab hS.ab) (hg.sl (H:=(b13,32,ae bM)::[(b12,32,ae (aj R)),(b11,160,[.slice ma ml mc,.slice la ll lc]),(b6,32,ae (aj o)),(b4,32,ae bM)]++LR) (hS.perm (HO ((b13,32,ae bM)::[_,_,_,_]) _ _)) aK)) ?_);rintro r wa ⟨rfl,hBa⟩;refine⟨hBa,?_⟩;replace hS:=hS.aG hBa;refine jn rfl (ah Tryz.call177 rfl (hgapp _ (hld.ab hS.ab)) ?_);rintro r wb ⟨rfl,hBb⟩;refine⟨hBb,?_⟩;replace hS:=hS.aG hBb;refine J4 ?_;intro wz19 hS;refine V1 ?_;replace hS:St w _ ([(b13,32,ae (aj gv)),(b12,32,ae (aj R)),(b11,160,[.slice ma ml mc,.slice la ll lc]),(b6,32,ae (aj o)),(b4,32,ae bM)]++LG++LR):=hS;exact⟨_,rfl,jY,jY,jY,jY,jY,jY,jY,jY,rfl,b13,rfl,hS.drop (List.Sublist.cons_cons _ (List.Sublist.cons_cons _ (List.sublist_cons_self _ _)))⟩
    ·refine ah Tryz.call88 rfl (htotg _ (hmi.ab hS.ab) (hg.sl (hS.perm (HO _ _ _)) aK)) ?_;rintro r wa ⟨rfl,hBa⟩;refine⟨hBa,?_⟩;replace hS:=hS.aG hBa;refine lY rfl rfl ?_ ?_
     ·refine J1 ?_;intro b13 wz20 hS hBz20;refine⟨hBz20,?_⟩;refine jn rfl (ah Tryz.call177 rfl (hgapp _ (hld.ab hS.ab)) ?_);rintro r wb ⟨rfl,hBb⟩;refine⟨hBb,?_⟩;replace hS:=hS.aG hBb;refine J4 ?_;intro wz21 hS;refine V1 ?_;replace hS:St w _ ([(b13,32,ae (aj gv)),(b12,32,ae (aj R)),(b11,160,[.slice ma ml mc,.slice la ll lc]),(b6,32,ae (aj o)),(b4,32,ae bM)]++LG++LR):=hS;exact⟨_,rfl,jY,jY,jY,jY,jY,jY,jY,jY,rfl,b13,rfl,hS.drop (List.Sublist.cons_cons _ (List.Sublist.cons_cons _ (List.sublist_cons_self _ _)))⟩
     ·refine ah Tryz.call177 rfl (hgapp _ (hld.ab hS.ab)) ?_;rintro r wb ⟨rfl,hBb⟩;refine⟨hBb,?_⟩;replace hS:=hS.aG hBb;refine dG kR rfl rfl (aI rfl (dG kR rfl rfl (oB rfl rfl (dG kR rfl rfl (oB rfl rfl (tz kR ?_))))));refine J1 ?_;intro b13 wz22 hS hBz22;refine⟨hBz22,?_⟩;refine J1 ?_;intro wz23 hS;refine V1 ?_;replace hS:St w _ ([(b13,32,ae (aj gv)),(b12,32,ae (aj R)),(b11,160,[.slice ma ml mc,.slice la ll lc]),(b6,32,ae (aj o)),(b4,32,ae bM)]++LG++LR):=hS;exact⟨_,rfl,jY,jY,jY,jY,jY,jY,jY,jY,rfl,b13,rfl,hS.drop (List.Sublist.cons_cons _ (List.Sublist.cons_cons _ (List.sublist_cons_self _ _)))⟩
   clear hS hgapp htotg h4 h6 h8 h9 h34 h35 h36;rintro ρ w8 ⟨h4,h6,h8,h9,h34,h35,h36,h12,h14,b13,h13,hS⟩;refine ja ?_;have hdone:∀wx,St w wx ([(b13,32,ae (aj gv)),(b12,32,ae (aj R)),(b6,32,ae (aj o)),(b4,32,ae bM)]++LG++LR)->¬(dq p.ld P<p.ld.length/\0<R)->St w wx ([(b6,32,ae (aj (pj y m (i+1)))),(b4,32,ae bM)]++LG++LR):=λwx h g=>by
    rw[hsucc,if_neg g];exact h.drop ((List.sublist_cons_self _ _).trans (List.sublist_cons_self _ _))
   by_cases hc:dq p.ld P<p.ld.length
   ·have hopt:op=true:=by rw[hop];exact decide_eq_true hc
    have hgvt:gv=gp:=by rw[hgv,if_pos hc]
    refine J2 ?_;refine bW (ai 53 kR rfl hopt) (bT (k:=1) h12 aB hS rfl rfl rfl (.inl rfl) (fB (ai 53 kR rfl hopt) (ah Tryz.call80 rfl (kK (aj R) _ (by rw[Lr_ofQ];omega)) ?_)));rintro r w9 ⟨rfl,hB9⟩;rw[toQ_ofQ];replace hS:=hS.aG hB9;refine ax (ai 53 kR rfl hopt) (mQ rfl rfl (jp (aZ (vb rfl hopt) rfl ?_)));refine ja ?_;by_cases hr0:0<R
    ·rw[if_pos ⟨hc,hr0⟩]at hsucc;refine bZ rfl (decide_eq_true (fh.2 hr0)) ?_;refine ja ?_;rw[hgvt]at hS;replace hS:St w _ ([(b13,32,ae (aj gp)),(b12,32,ae (aj R)),(b6,32,ae (aj o)),(b4,32,ae bM)]++LG++LR):=hS;refine J2 ?_;refine jh (ah Tryz.call108 rfl (oo (aj gp) (aj R) _ (by rw[Lr_ofQ,Lr_ofQ];exact hgp) (by rw[toQ_ofQ];intro g;rw[g]at hr0;exact absurd hr0 Rat.lt_irrefl)) ?_);rintro r wa ⟨rfl,hBa⟩;rw[toQ_ofQ,toQ_ofQ];replace hS:=hS.aG hBa;refine J4 ?_;intro b15 wz24 hS hBz24;refine J1 ?_;intro wz25 hS;refine V1 ?_;replace hS:St w _ ([(b15,32,ae (aj (gp/R))),(b13,32,ae (aj gp)),(b12,32,ae (aj R)),(b6,32,ae (aj o)),(b4,32,ae bM)]++LG++LR):=hS;refine J2 ?_;refine jh (ah Tryz.call129 rfl (FN (aj o) (aj (gp/R)) _ (by rw[Lr_ofQ,Lr_ofQ];exact hox2)) ?_);rintro r wb ⟨rfl,hBb⟩;rw[toQ_ofQ,toQ_ofQ,<-hsucc];replace hS:=hS.aG hBb;refine J1 ?_;intro wz26 hS;refine ja ?_;replace hS:St w _ ([(b15,32,ae (aj (gp/R))),(b13,32,ae (aj gp)),(b12,32,ae (aj R)),(b6,32,ae (aj (pj y m (i+1)))),(b4,32,ae bM)]++LG++LR):=hS;refine V2 ?_;exact⟨i+1,_,rfl,⟨hil,jY,jY,jY,jY,jY,jY,vi rfl oO,hS.drop (((List.sublist_cons_self _ _).trans (List.sublist_cons_self _ _)).trans (List.sublist_cons_self _ _))⟩,oO⟩
    ·refine ct rfl (decide_eq_false (λg=>hr0 (fh.1 g))) ?_;refine V2 ?_;exact⟨i+1,_,rfl,⟨hil,jY,jY,jY,jY,jY,jY,vi rfl oO,hdone _ hS (λg=>hr0 g.2)⟩,oO⟩
   ·have hopf:op=false:=by rw[hop];exact decide_eq_false hc
    refine J2 ?_;refine bI (ak 53 kR rfl hopf) (bI (ak 53 kR rfl hopf) (bI (ak 53 kR rfl hopf) (jp (aZ (vb rfl hopf) rfl ?_))));refine ja ?_;refine ct rfl (rfl) ?_;refine V2 ?_;exact⟨i+1,_,rfl,⟨hil,jY,jY,jY,jY,jY,jY,vi rfl oO,hdone _ hS (λg=>hc g.1)⟩,oO⟩
  ·refine J1 ?_;refine jt ?_;obtain rfl:i=y.pl.length:=oO;exact⟨_,rfl,h4,h6,hS.drop ((List.sublist_append_left _ _).trans (List.sublist_append_left _ _))⟩
 clear hS hS4 hS5;rintro ρ w6 ⟨h4,h6,hS⟩;refine J2 ?_;intro wz27 hS;refine J1 ?_;refine jt ?_;refine eV (k:=1) rfl h4 rfl aB hS rfl rfl ?_;exact⟨rfl,hS.ab⟩
theorem GB (va vb:Value) (A B:List RR) (w:World) (ha:Sl ae 3 w va A) (hb:Sl ae 3 w vb B):
  dj Tryz.prog 148 #[va,vb] w λr w'=>r= .bool (decide (A=B))/\Below w.heap.size w w':=by
 have hma:=ha.maxLen;have hmb:=hb.maxLen;have hS:=St.init w;refine enter Tryz.func148 rfl Tryz.ntmps148 rfl ?_;refine J2 ?_;refine jp (aF rfl (ha.ab hS.ab) ⟨_,Tryz.underlying34⟩ ?_);refine J1 ?_;refine jp (aF rfl (hb.ab hS.ab) ⟨_,Tryz.underlying34⟩ ?_);refine V1 ?_;by_cases hl:A.length=B.length
 case neg=>
  rw[decide_eq_false (λe=>hl (by rw[e]))];refine J2 ?_;refine jt ?_;refine bj rfl rfl ?_;exact⟨rfl,hS.ab⟩
 refine J2 ?_;refine jp (aF rfl (ha.ab hS.ab) ⟨_,Tryz.underlying34⟩ ?_);refine V1 ?_;refine aQ (σ:=Nat) (λi ρ w'=>i<=A.length/\A.take i=B.take i/\ρ 0=va/\ρ 1=vb/\ρ 12=iB A.length/\ρ 13=iB i/\St w w' []) (λi=>A.length-i) 0
  ⟨Nat.zero_le _,by rw[List.take_zero,List.take_zero],rfl,rfl,rfl,rfl,hS⟩ ?_
 clear hS;rintro i ρ w2 ⟨hi,heq,h0,h1,h12,h13,hS⟩;refine V1 ?_;by_cases hlt:i<A.length
 ·refine V3 ?_;refine bk [jo 0,jo 1,jo 2,ju 3,jo 4,jo 5,jo 6,ju 7,jo 8] kR kR hS ?_;intro wz1 hS hBz1;refine J2 ?_;refine jl rfl (aH (i:=i) rfl rfl (ha.ab hS.ab) oO dO bJ (jm rfl (aO (i:=i) bM rfl aB (ha.ab hS.ab) dO rfl rfl (.inl rfl) ?_)));refine J2 ?_;refine jl rfl (aH (i:=i) rfl rfl (hb.ab hS.ab) oO dO bJ (jm rfl (aO (i:=i) bM rfl aB (hb.ab hS.ab) dO rfl rfl (.inl rfl) (jl rfl (FH rfl rfl ?_)))));refine ja ?_;by_cases hne:A.getD i bM=B.getD i bM
  ·refine ct rfl (decide_eq_false (λg=>g hne)) ?_;refine V2 ?_;refine⟨i+1,_,rfl,⟨hlt,?_,h0,h1,h12,vi rfl oO,hS⟩,oO⟩;rw[cH A i bM hlt,cH B i bM oO,heq,hne]
  ·rw[decide_eq_false (λe=>hne (by rw[e]))];refine bZ rfl (decide_eq_true hne) ?_;refine J1 ?_;refine jt ?_;refine bj rfl rfl ?_;exact⟨rfl,hS.ab⟩
 ·refine J1 ?_;refine jt ?_;rw[List.take_of_length_le oO,List.take_of_length_le oO]at heq;rw[decide_eq_true heq];refine J1 ?_;refine jt ?_;refine bj rfl rfl ?_;exact⟨rfl,hS.ab⟩
theorem yA (vR vP:Value) (y:Ly) (w:World):dj Tryz.prog 51 #[Hp y.n vR vP y.tot] w λr w'=>r=cw (aj y.tot)/\Below w.heap.size w w':=by
 have hS:=St.init w;refine enter Tryz.func51 rfl Tryz.ntmps51 rfl ?_;refine jr ?_;refine jh (bY (new:=iA y.n vR vP y.tot) rfl rfl hS ?_);intro b1 wz1 hS hBz1;refine J1 ?_;intro b2 wz2 hS hBz2;refine J3 ?_;intro wz3 hS;refine jt ?_;refine dx (k:=0) rfl rfl aB hS rfl rfl ?_;exact⟨rfl,hS.ab⟩
def AW (y:Ly) (m:Rat):RR:=aj (kB y m y.pl.length).r
def FL (y:Ly) (m:Rat):List RR:=aS y.n λk=>aj ((kB y m y.pl.length).c k)
def sw (y:Ly) (m:Rat):Rat:=m+pj y m y.pl.length
def A9 (y:Ly) (m0:Rat):Nat->Rat->Option Rat
 |0,_=>none
 |f+1,m=>if dq y.rk m<y.rk.length then(if AW y (sw y m)=AW y m0/\FL y (sw y m)=FL y m0 then A9 y m0 f (sw y m)else some (sw y m))else none
def PR (y:Ly) (m0:Rat):Nat->Rat->Prop
 |0,_=>False
 |f+1,m=>Om y m/\(dq y.rk m<y.rk.length->L m+L (pj y m y.pl.length)<=MX/\Ch y (sw y m)/\(AW y (sw y m)=AW y m0/\FL y (sw y m)=FL y m0->PR y m0 f (sw y m)))
def RP (o:Option Rat):Value:= .tuple #[cw (match o with|some q=>aj q|none=>bM),.bool o.isSome]
theorem JN (vR vP:Value) (y:Ly) (vs:List Value) (pv:List (Value×Value)) (lv:List (List Value)) (m:Rat) (F:Nat) (w:World) (hY:HF w vR vP y vs pv lv) (hs:Ch y m) (hh:PR y m F m):
  dj Tryz.prog 109 #[Hp y.n vR vP y.tot,cw (aj m)] w λr w'=>r=RP (A9 y m F m)/\Below w.heap.size w w':=by
 have hS:=St.init w;have hslp:=λx w h1 h2=>tQ vR vP y vs pv lv x w h1 h2;have hstp:=λx w h1 h2=>Ij vR vP y vs pv lv x w h1 h2;obtain⟨ty,hty⟩:=jz y.tot;obtain⟨n,hn'⟩:∃n,n=y.n:=⟨_,rfl⟩;rw[<-hn',<-hty]at hslp hstp⊢;obtain⟨res,hres⟩:=jz (A9 y m F m);rw[<-hres];have hsT:∀x,(aS n λk=>aj ((kB y x y.pl.length).c k))=FL y x:=λx=>by rw[hn'];rfl
 have hsR:∀x,aj (kB y x y.pl.length).r=AW y x:=λx=>rfl;refine enter Tryz.func109 rfl Tryz.ntmps109 rfl ?_;refine jr ?_;refine jh (bY (new:=iA n vR vP ty) rfl rfl hS ?_);intro b2 wz1 hS hBz1;refine jh (bY (new:=ae (aj m)) rfl rfl hS ?_);intro b3 wz2 hS hBz2;refine J1 ?_;intro b4 wz3 hS hBz3;refine V1 ?_;replace hS:St w _ [(b4,32,ae bM),(b3,32,ae (aj m)),(b2,112,iA n vR vP ty)]:=hS;refine J2 ?_;refine jh (ah Tryz.call92 rfl (hslp m _ (hY.ab hS.ab) hs) ?_);rintro r w3 ⟨v6,L6,rfl,hG6,hS3⟩;rw[hsT]at hG6;rw[hsR];replace hS:=(hS.join hS3).perm List.perm_append_comm;refine J4 ?_;intro b7 wz4 hS hBz4;refine J2 ?_;intro wz5 hS;refine jb ?_;replace hS:St w _ ([(b7,32,ae (AW y m)),(b4,32,ae bM),(b3,32,ae (aj m)),(b2,112,iA n vR vP ty)]++L6):=hS;clear hS3;refine ja ?_;refine aQ (σ:=Nat×Rat) (λs ρ w'=>ρ 2=pB b2/\ρ 3=pB b3/\ρ 4=pB b4/\ρ 6=v6/\ρ 7=pB b7/\PR y m s.1 s.2/\A9 y m s.1 s.2=res/\
   St w w' ([(b7,32,ae (AW y m)),(b4,32,ae bM),(b3,32,ae (aj s.2)),(b2,112,iA n vR vP ty)]++L6)) (λs=>s.1) (F,m)
  ⟨rfl,rfl,rfl,rfl,rfl,hh,hres.symm,hS⟩ ?_
 clear hS hh hres;rintro⟨f,x⟩ ρ w4 ⟨h2,h3,h4,h6,h7,hx,hnx,hS⟩;dsimp only at hx hnx hS;obtain _|f:=f
 ·exact hx.elim
 obtain⟨hst,hop⟩:=hx;have e1:A9 y m (f+1) x=if dq y.rk x<y.rk.length then(if AW y (sw y x)=AW y m/\FL y (sw y x)=FL y m then A9 y m f (sw y x)else some (sw y x))else none:=rfl
 rw[e1]at hnx;clear e1;refine J2 ?_;refine jh (ah Tryz.call147 rfl (hstp x _ (hY.ab hS.ab) hst) ?_);rintro r w5 ⟨rfl,hB5⟩;replace hS:=hS.aG hB5;by_cases hlt:dq y.rk x<y.rk.length
 case neg=>
  rw[if_neg hlt];rw[if_neg hlt]at hnx;subst hnx;refine J4 ?_;intro b8 wz6 hS hBz6;refine J1 ?_;intro wz7 hS;refine V3 ?_;refine bZ rfl (rfl) ?_;refine jr ?_;refine jp (bR rfl ix ?_);refine J1 ?_;intro wz8 hS;refine J1 ?_;refine jt ?_;refine eV (k:=2) rfl h4 rfl aB hS rfl rfl ?_;exact⟨rfl,hS.ab⟩
 rw[if_pos hlt];rw[if_pos hlt]at hnx;obtain⟨hL1,hs1,hrec⟩:=hop hlt;obtain⟨sq,hsq⟩:=jz (pj y x y.pl.length);rw[<-hsq]at hL1⊢;have hnm:x+sq=sw y x:=by rw[hsq];rfl
 obtain⟨x',hx'⟩:∃x',x'=sw y x:=⟨_,rfl⟩;rw[<-hx']at hnx hs1 hrec hnm;refine J4 ?_;intro b8 wz9 hS hBz9;refine J1 ?_;intro wz10 hS;refine V3 ?_;refine ct rfl (rfl) ?_;refine J2 ?_;refine jh (ah Tryz.call18 rfl (fW (aj x) (aj sq) _ (by rw[Lr_ofQ,Lr_ofQ];exact hL1)) ?_);rintro r w6 ⟨rfl,hB6⟩;rw[toQ_ofQ,toQ_ofQ,hnm];replace hS:=hS.aG hB6;refine J1 ?_;intro wz11 hS;refine ja ?_;replace hS:St w _ ([(b8,32,ae (aj sq)),(b7,32,ae (AW y m)),(b4,32,ae bM),(b3,32,ae (aj x')),(b2,112,iA n vR vP ty)]++L6):=hS;refine ja ?_;refine fi (λρ'=>ρ' 2= .pointer (some ⟨b2,0,none⟩)/\ρ' 3= .pointer (some ⟨b3,0,none⟩)/\ρ' 4= .pointer (some ⟨b4,0,none⟩)/\ρ' 6=v6/\ρ' 7= .pointer (some ⟨b7,0,none⟩)/\True) ⟨h2,h3,h4,h6,h7,trivial⟩ ?_;rintro ρk12 ⟨hk12_2,hk12_3,hk12_4,hk12_6,hk12_7,-⟩;refine J2 ?_;refine jh (ah Tryz.call92 rfl (hslp x' _ (hY.ab hS.ab) hs1) ?_);rintro r w7 ⟨v10,L10,rfl,hG10,hS7⟩;rw[hsT]at hG10;rw[hsR];replace hS:St w _ (([(b8,32,ae (aj sq)),(b7,32,ae (AW y m)),(b4,32,ae bM),(b3,32,ae (aj x')),(b2,112,iA n vR vP ty)]++L6)++L10):=(hS.join hS7).perm List.perm_append_comm;clear hS7;refine J4 ?_;intro b11 wz13 hS hBz13;refine J2 ?_;intro wz14 hS;refine ja ?_;replace hS:St w _ (([(b11,32,ae (AW y x')),(b8,32,ae (aj sq)),(b7,32,ae (AW y m)),(b4,32,ae bM),(b3,32,ae (aj x')),(b2,112,iA n vR vP ty)]++L6)++L10):=hS;refine ja ?_;refine fi (λρ'=>ρ' 2= .pointer (some ⟨b2,0,none⟩)/\ρ' 3= .pointer (some ⟨b3,0,none⟩)/\ρ' 4= .pointer (some ⟨b4,0,none⟩)/\ρ' 6=v6/\ρ' 7= .pointer (some ⟨b7,0,none⟩)/\ρ' 10=v10/\ρ' 11= .pointer (some ⟨b11,0,none⟩)/\True) ⟨hk12_2,hk12_3,hk12_4,hk12_6,hk12_7,rfl,rfl,trivial⟩ ?_;rintro ρk15 ⟨hk15_2,hk15_3,hk15_4,hk15_6,hk15_7,hk15_10,hk15_11,-⟩;have hsl6:=hG6.sl (hS.perm (HO _ _ _)) aK;have hsl10:=hG10.sl hS aK;have hback:=λwx (h:St w wx (([(b11,32,ae (AW y x')),(b8,32,ae (aj sq)),(b7,32,ae (AW y m)),(b4,32,ae bM),(b3,32,ae (aj x')),(b2,112,iA n vR vP ty)]++L6)++L10))=>(h.drop (List.sublist_append_left _ _)).drop ((List.sublist_cons_self _ _).trans (List.sublist_cons_self _ _));by_cases hr:AW y x'=AW y m
 ·refine J2 ?_;refine jp (FH rfl rfl ?_);refine J1 ?_;refine ax (ai 39 kR rfl (decide_eq_false (λg=>g hr))) (aI hk15_10 ?_);refine ax (ai 39 kR rfl (decide_eq_false (λg=>g hr))) (aI hk15_6 ?_);refine fB (ai 39 kR rfl (decide_eq_false (λg=>g hr))) (ah Tryz.call148 rfl (GB v10 v6 _ _ _ hsl10 hsl6) ?_);rintro r w8 ⟨rfl,hB8⟩;replace hS:=hS.aG hB8;by_cases ht:FL y x'=FL y m
  ·rw[decide_eq_true ht];rw[if_pos ⟨hr,ht⟩]at hnx;refine ax (ai 39 kR rfl (decide_eq_false (λg=>g hr))) (mJ rfl ?_);refine jp (aZ (vb rfl (decide_eq_false (λg=>g hr))) rfl ?_);refine ja ?_;refine ct rfl (rfl) ?_;refine ja ?_;exact⟨(f,x'),_,rfl,⟨jY,jY,jY,jY,jY,hrec ⟨hr,ht⟩,hnx,hback _ hS⟩,Nat.lt_succ_self _⟩
  ·rw[decide_eq_false ht];rw[if_neg (λg=>ht g.2)]at hnx;subst hnx;refine ax (ai 39 kR rfl (decide_eq_false (λg=>g hr))) (mJ rfl ?_);refine jp (aZ (vb rfl (decide_eq_false (λg=>g hr))) rfl ?_);refine ja ?_;refine bZ rfl (rfl) ?_;refine J2 ?_;intro wz16 hS;refine J1 ?_;refine jt ?_;refine eV (k:=3) rfl hk15_4 rfl aB hS rfl rfl ?_;exact⟨rfl,hS.ab⟩
 ·rw[if_neg (λg=>hr g.1)]at hnx;subst hnx;refine J2 ?_;refine jp (FH rfl rfl ?_);refine J1 ?_;refine bI (ak 39 kR rfl (decide_eq_true hr)) (bI (ak 39 kR rfl (decide_eq_true hr)) (bI (ak 39 kR rfl (decide_eq_true hr)) (bI (ak 39 kR rfl (decide_eq_true hr)) (jp (aZ (vb rfl (decide_eq_true hr)) rfl ?_)))));refine ja ?_;refine bZ rfl (rfl) ?_;refine J2 ?_;intro wz17 hS;refine J1 ?_;refine jt ?_;refine eV (k:=3) rfl hk15_4 rfl aB hS rfl rfl ?_;exact⟨rfl,hS.ab⟩
theorem Km {w0 w:World} {H:List bQ} {k b o:Nat} {T:TypeId} {cs pre mid post:List Value} (hS:St w0 w H) (hk:H[k]?=some (b,T,cs)) (e:cs=pre++(mid++post)) (ho:o=pre.length):At w ⟨b,o,none⟩ mid:=by
 have:=hS.at hk o mid.length;rw[e,ho,List.drop_left,List.take_left]at this;rw[ho];exact this
theorem D7 (pre X Y post:List Value) (v:Value) (h:X.length=Y.length):splice (pre++v::(X++post)) (pre.length+1) Y=pre++v::(Y++post):=by
 unfold splice;have e:pre++v::(X++post)=((pre++[v])++X)++post:=by simp
 have l1:(pre++[v]).length=pre.length+1:=by simp
 have l2:((pre++[v])++X).length=pre.length+1+Y.length:=by rw[List.length_append,l1,h]
 rw[e,<-l2,List.drop_left,<-l1,List.append_assoc (pre++[v]),List.take_left];simp
theorem Kk (c:Int) (r:RR):Tryz.prog.built 207 [(0,.int .i64 c),(1,cw r)]=some #[.int .i64 c,.bool r.neg,.string r.num,.string r.den]:=by kernel_rfl
theorem Fv (b:Nat) (T:TypeId) (pre post:List Value) (v:Value) (t:Tr) (p:Pa) (H LP:List bQ) (w0 w:World) (hG:Gl g9 207 4 v t.ps LP) (hS:St w0 w (((b,T,pre++v::(ae (aj t.sm)++post))::H)++LP)) (hn:t.ps.length<=1000) (hL:L t.sm+L p.q<=MX):
  dj Tryz.prog 84 #[.pointer (some ⟨b,pre.length,none⟩),.int .i64 p.c,cw (aj p.q)] w λr w'=>r= .tuple #[]/\∃v' LP',Gl g9 207 4 v' (t.ps++[p]) LP'/\St w0 w' (((b,T,pre++v'::(ae (aj (t.sm+p.q))++post))::H)++LP'):=by
 refine enter Tryz.func84 rfl Tryz.ntmps84 rfl ?_;refine jr ?_;refine jh (bY (new:=ae (aj p.q)) rfl rfl hS ?_);intro b5 wz1 hS hBz1;refine ja ?_;replace hS:St w0 _ (((b5,32,ae (aj p.q))::(b,T,pre++v::(ae (aj t.sm)++post))::H)++LP):=hS;refine ja ?_;refine bk [jo 0,jo 1,jo 2,jo 3,ju 4,jo 5,ju 6,jo 7,jv 8,jw 9,jo 10,jo 11,jw 12] kR kR hS ?_;intro wz2 hS hBz2;refine J2 ?_;refine jl rfl (dX rfl ?_);refine J1 ?_;refine jm rfl (iQ (cs:=[v]) rfl nq (Km (k:=1) hS rfl (pre:=pre) (mid:=[v]) rfl rfl) rfl rfl (.inr rfl) ?_);refine J2 ?_;refine jl rfl (bR rfl (Kk _ _) (jn rfl (dI (vs:=[M5 p]) rfl AS rfl dD dD dD (by simp[Value.cells,M5]) rfl hS ?_)));intro b3 wz4 hS hBz4;refine⟨hBz4,?_⟩;refine jx rfl (dK [p] rfl rfl AS dD hG hS rfl rfl zi (GP [p]) dL dL ?_);intro va5 La5 wa5 hG hS hga5;refine jl rfl (dX rfl ?_);refine J1 ?_;refine jx rfl (gl (k:=1) rfl rfl nq hS rfl (by simp) (by obtain⟨a,c,h⟩:=hG.len;rw[h];rfl) ?_);intro wz6 hS;refine ja ?_;replace hS:St w0 _ (((b5,32,ae (aj p.q))::(b,T,(pre++v::(ae (aj t.sm)++post)).set pre.length va5)::H)++_):=hS;rw[vh _ _ _ _ rfl]at hS;refine ja ?_;refine bk [jo 0,jo 1,jo 2,jo 3,ju 4,ju 5,jv 6,jo 7,jo 8,jw 9] kR kR hS ?_;intro wz7 hS hBz7;refine J2 ?_;refine jl rfl (dX rfl ?_);refine J1 ?_;refine jm rfl (iQ (v:=cw (aj t.sm)) (cs:=ae (aj t.sm)) rfl aB (Km (k:=1) hS rfl (pre:=pre++[va5]) (mid:=ae (aj t.sm)) (post:=post) (by simp) (by simp)) rfl rfl (.inl rfl) ?_);refine J1 ?_;refine jn rfl (ah Tryz.call18 rfl (fW (aj t.sm) (aj p.q) _ (by rw[Lr_ofQ,Lr_ofQ];exact hL)) ?_);rintro r w3 ⟨rfl,hB3⟩;refine⟨hB3,?_⟩;rw[toQ_ofQ,toQ_ofQ];replace hS:=hS.aG hB3;refine jl rfl (dX rfl ?_);refine J1 ?_;refine jx rfl (cO (k:=1) (new:=ae (aj (t.sm+p.q))) rfl rfl aB hS rfl rfl rfl (by simp[ae];omega) rfl ?_);intro wz8 hS;refine ja ?_;replace hS:St w0 _ (((b5,32,ae (aj p.q))::(b,T,splice (pre++va5::(ae (aj t.sm)++post)) (pre.length+1) (ae (aj (t.sm+p.q))))::H)++_):=hS;rw[D7 pre (ae (aj t.sm)) (ae (aj (t.sm+p.q))) post va5 rfl]at hS;exact iS rfl ⟨rfl,_,_,hG,hS.drop (List.sublist_cons_self _ _)⟩
def fy (b:Bool):List Value:=[.bool b]
theorem dE (b:Bool):(fy b).length=1:=rfl
theorem AO (p q:Rat):decide (lz p q<0)=decide (p<q):=by
 rcases mA p q with⟨h1,h2⟩|⟨h1,h2⟩|⟨h1,h2⟩
 ·rw[h2,decide_eq_true h1];rfl
 ·rw[h2,decide_eq_false (by rw[h1];exact Rat.lt_irrefl:¬p<q)];rfl
 ·rw[h2,decide_eq_false (by grind:¬p<q)];rfl
theorem F6 (p q:Rat):decide (0<lz p q)=decide (q<p):=by
 rcases mA p q with⟨h1,h2⟩|⟨h1,h2⟩|⟨h1,h2⟩
 ·rw[h2,decide_eq_false (by grind:¬q<p)];rfl
 ·rw[h2,decide_eq_false (by rw[h1];exact Rat.lt_irrefl:¬q<p)];rfl
 ·rw[h2,decide_eq_true h1];rfl
theorem zC (p q:Rat):decide (0<=lz p q)=decide (q<=p):=by
 rcases mA p q with⟨h1,h2⟩|⟨h1,h2⟩|⟨h1,h2⟩
 ·rw[h2,decide_eq_false (by grind:¬q<=p)];rfl
 ·rw[h2,decide_eq_true (by rw[h1];exact Rat.le_refl:q<=p)];rfl
 ·rw[h2,decide_eq_true (by grind:q<=p)];rfl
def By (n i:Nat) (R:List (Rw RR)):List Value:=R.map Rw.v++List.replicate (n-i) aw
theorem y9 (n:Nat) (w:World) (hn:n<=1000):
  dj Tryz.prog 93 #[.int .i64 n] w λv w'=>∃bo R,v= .slice (some ⟨bo,0,none⟩) n n/\dA R n n (qM λ_ _=>0)/\St w w' (mB ae 32 34 bo R []):=by
 have hS:=St.init w;refine enter Tryz.func93 rfl Tryz.ntmps93 rfl ?_;refine J2 ?_;refine jh (tD (n:=n) rfl rfl cZ oO oO oO oO hS ?_);intro bo wz1 hS hBz1;refine V1 ?_;replace hS:St w _ [(bo,34,rep n [aw])]:=hS;rw[Ah]at hS;refine J3 ?_;refine jb ?_;refine aW (λρ w'=>ρ 3= .slice (some ⟨bo,0,none⟩) n n/\∃R,dA R n n (qM λ_ _=>0)/\St w w' (mB ae 32 34 bo R [])) ?_ ?_
 ·refine ja ?_;refine aQ (σ:=Nat) (λi ρ w'=>i<=n/\ρ 0=iB n/\ρ 3= .slice (some ⟨bo,0,none⟩) n n/\ρ 8=iB n/\ρ 9=iB i/\∃R,dA R i n (qM λ_ _=>0)/\St w w' ((bo,34,By n i R)::R.map (Rw.qj ae 32))) (λi=>n-i) 0
   ⟨Nat.zero_le _,rfl,rfl,rfl,rfl,[],⟨rfl,λi hi=>absurd hi (Nat.not_lt_zero _),λi hi=>absurd hi (Nat.not_lt_zero _)⟩,hS⟩ ?_
  clear hS;rintro i ρ w2 ⟨hi,h0,h3,h8,h9,R,hR,hS⟩;refine V1 ?_;by_cases hlt:i<n
  ·refine V1 ?_;have hlR:(R.map Rw.v).length=i:=by rw[List.length_map,hR.len]
   have hfit:i<(By n i R).length:=by unfold By;rw[List.length_append,hlR,List.length_replicate];omega
   refine J5 ?_;refine jh (de (enc:=ae) (n:=n) bM rfl rfl bJ rfl oO oO oO oO hS ?_);intro b15 wz2 hS hBz2;refine jp (bn (i:=i) rfl rfl oO dO cZ (jh (kF [_] (i:=i) rfl rfl dh hS oO hfit rfl ?_)));intro wz3 hS;refine V2 ?_;have hX:(⟨b15,n,List.replicate n bM,[]⟩:Rw RR).X=aS n (qM (λ_ _=>0) i):=cG n;refine⟨i+1,_,rfl,⟨hlt,jY,jY,jY,vi rfl oO,R++[⟨b15,n,List.replicate n bM,[]⟩],tV hR hX ⟨Nat.le_refl _,by show n<=_;omega⟩,?_⟩,oO⟩;obtain⟨d,hd⟩:∃d,n-i=d+1:=⟨n-i-1,oO⟩;have e:(By n i R).set i (.slice (some ⟨b15,0,none⟩) n n)=By n (i+1) (R++[⟨b15,n,List.replicate n bM,[]⟩]):=by
    unfold By;rw[hd,List.replicate_succ,vh _ _ _ _ hlR,List.map_append,List.append_assoc,show n-(i+1)=d by omega];show _=R.map Rw.v++([.slice (some ⟨b15,0,none⟩) (List.replicate n bM).length n]++_);rw[List.length_replicate];rfl
   replace hS:St w _ ([(b15,32,(List.replicate n bM).flatMap ae)]++(bo,34,(By n i R).set i (.slice (some ⟨b15,0,none⟩) n n))::R.map (Rw.qj ae 32)):=hS;rw[e]at hS;refine hS.perm ?_;rw[List.map_append];show List.Perm ((b15,32,(List.replicate n bM).flatMap ae)::(bo,34,_)::_) ((bo,34,_)::(_++[(b15,32,(List.replicate n bM).flatMap ae++[])]));rw[List.append_nil];exact(List.Perm.swap _ _ _).trans (List.Perm.cons _ (List.perm_append_singleton _ _).symm)
  ·refine J1 ?_;refine jt ?_;obtain rfl:i=n:=oO;refine⟨_,rfl,h3,R,hR,?_⟩;unfold By at hS;rw[Nat.sub_self,List.replicate_zero,List.append_nil]at hS;unfold mB;rw[List.append_nil];exact hS
 clear hS;rintro ρ w2 ⟨h3,R,hR,hS⟩;refine J2 ?_;refine jt ?_;refine bj rfl rfl ?_;exact⟨bo,R,rfl,hR,hS⟩
def j7 (M:Mx) (i j:Nat) (q:Rat):Mx:=λa b=>if a=i/\b=j then M i j+q else M a b
theorem zZ {R:List (Rw RR)} {n m:Nat} {M:Mx} {w0:World} {bo:Nat} {pre H:List bQ} (c i j:Nat) (q:Rat) (w:World) (hR:dA R n m (qM M)) (hi:i<n) (hj:j<m) (hL:L (M i j)+L q<=MX) (hS:St w0 w (pre++mB ae 32 34 bo R H)):
  dj Tryz.prog 94 #[.slice (some ⟨bo,0,none⟩) n c,.int .i64 i,.int .i64 j,cw (aj q)] w λv w'=>v= .tuple #[]/\∃R',dA R' n m (qM (j7 M i j q))/\St w0 w' (pre++mB ae 32 34 bo R' H):=by
 have hli:i<R.length:=by rw[hR.len];exact hi
 have hxi:j<(R.getD i gn).X.length:=by rw[hR.ql hi];exact hj
 have hg:(R.getD i gn).X.getD j bM=aj (M i j):=hR.get hi hj _;have hadd:=λw=>fW (aj (M i j)) (aj q) w (by rw[Lr_ofQ,Lr_ofQ];exact hL);rw[toQ_ofQ,toQ_ofQ]at hadd;refine enter Tryz.func94 rfl Tryz.ntmps94 rfl ?_;refine jr ?_;refine jh (bY (new:=ae (aj q)) rfl rfl hS ?_);intro b7 wz1 hS hBz1;refine ja ?_;replace hS:St w0 _ (((b7,32,ae (aj q))::pre)++mB ae 32 34 bo R H):=hS;refine ja ?_;refine bk [jo 0,jo 1,jo 2,ju 3,jo 4,jo 5,jo 6,jo 7,ju 8,jo 9,jo 10,ju 11,ju 12,jv 13,jo 14,jw 15] kR kR hS ?_;intro wz2 hS hBz2;refine J2 ?_;refine jl rfl (bn (i:=i) rfl rfl oO dO cZ (jm rfl (eJ (_::pre) (i:=i) rfl dh hS oO hli ?_)));refine J3 ?_;refine jl rfl (bn (i:=i) rfl rfl oO dO cZ (jm rfl (eJ (_::pre) (i:=i) rfl dh hS oO hli ?_)));refine J1 ?_;refine jl rfl (bn (i:=j) rfl rfl oO dO bJ (jm rfl (ke (_::pre) (i:=i) (j:=j) bM aK rfl aB hS rfl hli oO hxi rfl (.inl rfl) ?_)));refine J1 ?_;rw[hg];refine jn rfl (ah Tryz.call18 rfl (hadd _) ?_);rintro _ wc3 ⟨rfl,hBc3⟩;replace hS:=hS.aG hBc3;refine⟨hBc3,?_⟩;refine jl rfl (bn (i:=j) rfl rfl oO dO bJ (jx rfl (qJ (_::pre) (i:=i) (j:=j) (aj (M i j+q)) aK rfl rfl aB hS rfl hli oO hxi rfl rfl ?_)));intro wz4 hS;refine ja ?_;refine iS rfl ⟨rfl,_,(hR.put hi j (aj (M i j+q))).congr λa _ b _=> ?_,hS.drop (List.sublist_cons_self _ _)⟩;show(if a=i/\b=j then aj (M i j+q)else aj (M a b))=aj (j7 M i j q a b);unfold j7;split<;>rfl
def jW (M:Mx) (c k:Nat):Rat:=ay (λi=>M i c) k
def Bd (M:Mx) (n c:Nat):Bool:=decide (jW M c n<1)
theorem IS (v:Value) (vs:List Value) (n m:Nat) (M:Mx) (c:Nat) (w:World) (hA:kj ae 3 w v (oR n m (qM M)) vs) (hc:c<m) (hL:∀i,i<n->L (jW M c i)+L (M i c)<=MX) (hL2:L (jW M c n)+1<=MX):
  dj Tryz.prog 101 #[v,.int .i64 c] w λu w'=>u= .bool (Bd M n c)/\Below w.heap.size w w':=by
 have hmx:=hA.sl.maxLen;have hlen:=hA.len;rw[eg]at hlen;have hL1:L 1<=1:=zH (n:=1) dD;have hS:=St.init w;refine enter Tryz.func101 rfl Tryz.ntmps101 rfl ?_;refine Y1 ?_;refine jp (bR rfl ix ?_);refine J1 ?_;intro b5 wz1 hS hBz1;refine J1 ?_;intro wz2 hS;refine ja ?_;replace hS:St w _ [(b5,32,ae bM)]:=hS;rw[gY]at hS;refine J1 ?_;refine jp (aF rfl (hA.sl.ab hS.ab) ⟨_,Tryz.underlying35⟩ ?_);refine J1 ?_;refine jb ?_;rw[hlen];refine aW (λρ w'=>ρ 5=pB b5/\St w w' [(b5,32,ae (aj (jW M c n)))]) ?_ ?_
 ·refine ja ?_;refine aQ (σ:=Nat) (λi ρ w'=>i<=n/\ρ 1=iB c/\ρ 5=pB b5/\ρ 9=v/\ρ 10=iB n/\ρ 11=iB i/\St w w' [(b5,32,ae (aj (jW M c i)))]) (λi=>n-i) 0
   ⟨Nat.zero_le _,rfl,rfl,rfl,rfl,rfl,hS⟩ ?_
  clear hS;rintro i ρ w2 ⟨hi,h1,h5,h9,h10,h11,hS⟩;refine V1 ?_;by_cases hlt:i<n
  ·refine V1 ?_;have hrow:=hA.row i (by rw[eg];exact hlt);rw[iw _ hlt]at hrow;have htl:=ao m (qM M i);have hg:(aS m (qM M i)).getD c bM=aj (M i c):=aV _ _ hc;have hadd:=λw=>fW (aj (jW M c i)) (aj (M i c)) w (by rw[Lr_ofQ,Lr_ofQ];exact hL i hlt);rw[toQ_ofQ,toQ_ofQ]at hadd;refine jr ?_;refine jp (aH (i:=i) h9 h11 (hA.sl.ab hS.ab) oO dO cZ (jq (aO (i:=i) undef rfl dh (hA.sl.ab hS.ab) dO rfl rfl (.inr rfl) ?_)));refine V1 ?_;refine bk [ju 0,jo 1,jo 2,jo 3,ju 4,jv 5,jw 6] kR kR hS ?_;intro wz3 hS hBz3;refine J3 ?_;refine jl rfl (aH (i:=c) rfl rfl (hrow.ab hS.ab) oO dO bJ (jm rfl (aO (i:=c) bM rfl aB (hrow.ab hS.ab) dO rfl rfl (.inl rfl) ?_)));rw[hg];refine jn rfl (ah Tryz.call18 rfl (hadd _) ?_);rintro _ wc4 ⟨rfl,hBc4⟩;replace hS:=hS.aG hBc4;refine⟨hBc4,?_⟩;refine J1 ?_;intro wz5 hS;refine V2 ?_;exact⟨i+1,_,rfl,⟨hlt,jY,jY,jY,jY,vi rfl oO,hS⟩,oO⟩
  ·refine J1 ?_;refine jt ?_;obtain rfl:i=n:=oO;exact⟨_,rfl,h5,hS⟩
 clear hS;rintro ρ w2 ⟨h5,hS⟩;refine ja ?_;refine bk [ju 0,jv 1,jv 2,jo 3,jo 4] kR kR hS ?_;intro wz6 hS hBz6;refine J1 ?_;refine jn rfl (ah Tryz.call33 rfl (dN 1 _ dD dD) ?_);rintro _ wc7 ⟨rfl,hBc7⟩;replace hS:=hS.aG hBc7;refine⟨hBc7,?_⟩;rw[show((1:Int):Rat)=1 from rfl];refine jn rfl (ah Tryz.call50 rfl (g8 _ _ _ (by rw[Lr_ofQ,Lr_ofQ];omega)) ?_);rintro _ wc8 ⟨rfl,hBc8⟩;replace hS:=hS.aG hBc8;refine⟨hBc8,?_⟩;refine V2 ?_;rw[toQ_ofQ,toQ_ofQ];refine jt ?_;refine bj rfl rfl ?_;refine⟨?_,hS.ab⟩;show Value.bool (decide (lz (jW M c n) 1<0))=Value.bool (Bd M n c);rw[AO];rfl
def mv (B:List Bool) (k:Nat):List Nat:=(List.range k).filter λi=>B.getD i false
theorem DF (B:List Bool) (k:Nat):mv B (k+1)=if B.getD k false=true then mv B k++[k]else mv B k:=by
 unfold mv;rw[List.range_succ,List.filter_append];by_cases h:B.getD k false=true
 ·rw[if_pos h];rw[List.getD_eq_getElem?_getD]at h;simp[h]
 ·rw[if_neg h];rw[List.getD_eq_getElem?_getD]at h;simp[h]
theorem tU (B:List Bool) (k:Nat):(mv B k).length<=k:=by
 have:=List.length_filter_le (λi=>B.getD i false) (List.range k);rw[List.length_range]at this;exact this
theorem F9 (v:Value) (B:List Bool) (w:World) (hv:Sl fy 1 w v B) (hn:B.length<=1000):
  dj Tryz.prog 62 #[v] w λr w'=>∃LO,Gl lD 3 1 r (nI (mv B B.length)) LO/\St w w' LO:=by
 have hS:=St.init w;refine enter Tryz.func62 rfl Tryz.ntmps62 rfl ?_;refine J3 ?_;refine jp (aF rfl (hv.ab hS.ab) ⟨_,Tryz.underlying36⟩ ?_);refine J1 ?_;refine jb ?_;refine aW (λρ w'=>∃vo LO,ρ 3=vo/\Gl lD 3 1 vo (nI (mv B B.length)) LO/\St w w' LO) ?_ ?_
 ·refine ja ?_;refine aQ (σ:=Nat) (λi ρ w'=>i<=B.length/\ρ 6=v/\ρ 7=iB B.length/\ρ 8=iB i/\∃vo LO,ρ 3=vo/\Gl lD 3 1 vo (nI (mv B i)) LO/\St w w' ([]++LO)) (λi=>B.length-i) 0
   ⟨Nat.zero_le _,rfl,rfl,rfl,_,[],rfl,Gl.nil _ _ _,hS⟩ ?_
  clear hS;rintro i ρ w2 ⟨hi,h6,h7,h8,vo,LO,h3,hG,hS⟩;have hll:=tU B i;have hnl:=kJ (mv B i);refine V1 ?_;by_cases hlt:i<B.length
  ·refine V1 ?_;have hts:=DF B i;refine J1 ?_;refine jp (aH (i:=i) h6 h8 (hv.ab hS.ab) oO dO iq (jq (aO (i:=i) false rfl iN (hv.ab hS.ab) dO rfl rfl (.inr rfl) ?_)));refine J3 ?_;refine jb ?_;refine aW (λρ w'=>ρ 6=v/\ρ 7=iB B.length/\ρ 8=iB i/\∃vo LO,ρ 3=vo/\Gl lD 3 1 vo (nI (mv B (i+1))) LO/\St w w' ([]++LO)) ?_ ?_
   ·refine ja ?_;by_cases hb:B.getD i false=true
    ·refine bZ rfl (hb) ?_;refine ja ?_;rw[if_pos hb]at hts;refine J2 ?_;refine jh (dI (vs:=[.int .i64 i]) rfl ga rfl dD dD dD (by simp[Value.cells]) rfl hS ?_);intro b16 wz1 hS hBz1;refine jh (dK [(i:Int)] rfl rfl ga dD hG hS rfl rfl (λ_=>rfl) (λu hu=>by rw[List.mem_singleton.1 (show u∈[Value.int .i64 (i:Int)]from hu)];rfl) dL dL ?_);intro va2 La2 wa2 hG hS hga2;refine V1 ?_;rw[hts,ED];exact⟨_,rfl,jY,jY,jY,_,_,rfl,hG,hS⟩
    ·refine ct rfl (by simpa using hb) ?_;refine ja ?_;rw[if_neg hb]at hts;rw[hts];exact⟨_,rfl,jY,jY,jY,vo,_,jY,hG,hS⟩
   clear hS hG;rintro ρ w3 ⟨h6,h7,h8,vo,LO,h3,hG,hS⟩;refine V2 ?_;exact⟨i+1,_,rfl,⟨hlt,jY,jY,vi rfl oO,_,_,jY,hG,hS⟩,oO⟩
  ·refine J1 ?_;refine jt ?_;obtain rfl:i=B.length:=oO;exact⟨_,rfl,vo,LO,h3,hG,hS⟩
 clear hS;rintro ρ w2 ⟨vo,LO,h3,hG,hS⟩;refine J2 ?_;refine jt ?_;refine bj rfl rfl ?_;exact⟨LO,hG,hS⟩
def KM (x d:Nat->Rat) (h:Rat) (i k:Nat):Rat:=if k<i then x k+h*d k else 0
theorem uW (n:Nat) (f g:Nat->Rat) (i:Nat) (q:Rat) (h:∀k,k<n->(if k=i then q else f k)=g k):(aS n λk=>aj (f k)).set i (aj q)=aS n λk=>aj (g k):=by
 rw[sh];exact bA λk hk=>by rw[h k hk]
theorem sb (vx vd:Value) (n:Nat) (x d:Nat->Rat) (h:Rat) (w:World) (hx:Sl ae 3 w vx (aS n λi=>aj (x i))) (hd:Sl ae 3 w vd (aS n λi=>aj (d i))) (hn:n<=1000) (hL:∀i,i<n->L (x i)+L h+L (d i)+2<=MX):
  dj Tryz.prog 64 #[vx,vd,cw (aj h)] w λr w'=>∃LO,Gl ae 32 3 r (aS n λi=>aj (x i+h*d i)) LO/\St w w' LO:=by
 have hS:=St.init w;have hlx:=ao n λi=>aj (x i);have hld:=ao n λi=>aj (d i);refine enter Tryz.func64 rfl Tryz.ntmps64 rfl ?_;refine jr ?_;refine jh (bY (new:=ae (aj h)) rfl rfl hS ?_);intro b5 wz1 hS hBz1;refine J2 ?_;refine jp (aF rfl (hx.ab hS.ab) ⟨_,Tryz.underlying34⟩ (jh (de (enc:=ae) (n:=n) bM rfl rfl bJ rfl oO oO oO oO hS ?_)));intro b11 wz2 hS hBz2;refine V1 ?_;replace hS:St w _ ([(b5,32,ae (aj h))]++[(b11,32,(List.replicate n bM).flatMap ae)]):=hS.perm (List.Perm.swap _ _ _);rw[cG]at hS;have hG:Gl ae 32 3 (.slice (some ⟨b11,0,none⟩) n n) (aS n λk=>aj (KM x d h 0 k)) [(b11,32,(aS n λk=>aj (KM x d h 0 k)).flatMap ae)]:=iE (ao _ _) oO;refine J1 ?_;refine jp (aF rfl (hx.ab hS.ab) ⟨_,Tryz.underlying34⟩ ?_);refine J1 ?_;refine jb ?_;rw[hlx];refine aW (λρ w'=>∃LO,ρ 7= .slice (some ⟨b11,0,none⟩) n n/\Gl ae 32 3 (.slice (some ⟨b11,0,none⟩) n n) (aS n λi=>aj (x i+h*d i)) LO/\St w w' LO) ?_ ?_
 ·refine ja ?_;refine aQ (σ:=Nat) (λi ρ w'=>i<=n/\ρ 0=vx/\ρ 1=vd/\ρ 5=pB b5/\ρ 7= .slice (some ⟨b11,0,none⟩) n n/\ρ 13=iB n/\ρ 14=iB i/\∃LO,Gl ae 32 3 (.slice (some ⟨b11,0,none⟩) n n) (aS n λk=>aj (KM x d h i k)) LO/\St w w' ([(b5,32,ae (aj h))]++LO)) (λi=>n-i) 0
   ⟨Nat.zero_le _,rfl,rfl,rfl,rfl,rfl,rfl,_,hG,hS⟩ ?_
  clear hS hG;rintro i ρ w2 ⟨hi,h0,h1,h5,h7,h13,h14,LO,hG,hS⟩;have htl:=ao n λk=>aj (KM x d h i k);refine V1 ?_;by_cases hlt:i<n
  ·refine V1 ?_;have hgx:(aS n λi=>aj (x i)).getD i bM=aj (x i):=aV _ _ hlt;have hgd:(aS n λi=>aj (d i)).getD i bM=aj (d i):=aV _ _ hlt;have hLi:=hL i hlt;have hm:=su h (d i);have hmul:=λw=>ka (aj h) (aj (d i)) w (by rw[Lr_ofQ,Lr_ofQ];omega);rw[toQ_ofQ,toQ_ofQ]at hmul;have hadd:=λw=>fW (aj (x i)) (aj (h*d i)) w (by rw[Lr_ofQ,Lr_ofQ];omega);rw[toQ_ofQ,toQ_ofQ]at hadd;refine V2 ?_;refine bk [jo 0,jo 1,jo 2,jo 3,jo 4,ju 5,ju 6,jo 7,jo 8,jo 9,ju 10,jv 11,jv 12,jo 13,jw 14] kR kR hS ?_;intro wz3 hS hBz3;refine J4 ?_;refine jl rfl (aH (i:=i) rfl rfl (hx.ab hS.ab) oO dO bJ (jm rfl (aO (i:=i) bM rfl aB (hx.ab hS.ab) dO rfl rfl (.inl rfl) ?_)));refine J3 ?_;refine jl rfl (aH (i:=i) rfl rfl (hd.ab hS.ab) oO dO bJ (jm rfl (aO (i:=i) bM rfl aB (hd.ab hS.ab) dO rfl rfl (.inl rfl) ?_)));rw[hgx,hgd];refine jn rfl (ah Tryz.call11 rfl (hmul _) ?_);rintro _ wc4 ⟨rfl,hBc4⟩;replace hS:=hS.aG hBc4;refine⟨hBc4,?_⟩;refine jn rfl (ah Tryz.call18 rfl (hadd _) ?_);rintro _ wc5 ⟨rfl,hBc5⟩;replace hS:=hS.aG hBc5;refine⟨hBc5,?_⟩;refine jl rfl (aH (i:=i) rfl rfl (hG.sl hS aK) oO dO bJ (jx rfl (mD (i:=i) (aj (x i+h*d i)) aK rfl rfl aB hG hS oO rfl rfl ?_)));intro wz6 hS;refine ja ?_;obtain⟨LC2,hG,hS⟩:=hS;rw[uW n (KM x d h i) (KM x d h (i+1)) i (x i+h*d i) (λk _=>by
    unfold KM;by_cases e:k=i
    ·rw[if_pos e,if_pos oO,e]
    ·rw[if_neg e];by_cases e2:k<i
     ·rw[if_pos e2,if_pos oO]
     ·rw[if_neg e2,if_neg oO])]at hG
   refine V2 ?_;exact⟨i+1,_,rfl,⟨hlt,jY,jY,jY,jY,jY,vi rfl oO,_,hG,hS⟩,oO⟩
  ·refine J1 ?_;refine jt ?_;obtain rfl:i=n:=oO;have e:(aS i λk=>aj (KM x d h i k))=aS i λk=>aj (x k+h*d k):=bA λk hk=>by unfold KM;rw[if_pos hk]
   rw[e]at hG;exact⟨_,rfl,LO,h7,hG,hS.drop (List.sublist_append_right _ _)⟩
 clear hS hG;rintro ρ w2 ⟨LO,h7,hG,hS⟩;refine J2 ?_;refine jt ?_;refine bj rfl rfl ?_;exact⟨LO,hG,hS⟩
def nQ (C:List Nat) (l:Nat->Rat) (k i:Nat):Rat:=if i∈C.take k then l (C.idxOf i)else 0
theorem oq (C:List Nat) (hC:C.Nodup) {k:Nat} (hk:k<C.length):C.idxOf (C.getD k 0)=k:=by
 rw[List.getD_eq_getElem?_getD,List.getElem?_eq_getElem hk,Option.getD_some];exact List.Nodup.idxOf_getElem hC k hk
theorem zl (vc vl:Value) (n:Nat) (C:List Nat) (l:Nat->Rat) (w:World) (hc:Sl lD 1 w vc (nI C)) (hl:Sl ae 3 w vl (aS C.length λi=>aj (l i))) (hC:C.Nodup) (hCn:∀i∈C,i<n) (hn:n<=1000):
  dj Tryz.prog 104 #[.int .i64 n,vc,vl] w λr w'=>∃LO,Gl ae 32 3 r (aS n λi=>aj (nQ C l C.length i)) LO/\St w w' LO:=by
 have hS:=St.init w;have hll:=ao C.length λi=>aj (l i);have hnl:=kJ C;have hmx:=hc.maxLen;refine enter Tryz.func104 rfl Tryz.ntmps104 rfl ?_;refine J2 ?_;refine jh (de (enc:=ae) (n:=n) bM rfl rfl bJ rfl oO oO oO oO hS ?_);intro b11 wz1 hS hBz1;refine V1 ?_;replace hS:St w _ ([]++[(b11,32,(List.replicate n bM).flatMap ae)]):=hS;rw[cG]at hS;have hG:Gl ae 32 3 (.slice (some ⟨b11,0,none⟩) n n) (aS n λk=>aj (nQ C l 0 k)) [(b11,32,(aS n λk=>aj (nQ C l 0 k)).flatMap ae)]:=iE (ao _ _) oO;refine J1 ?_;refine jp (aF rfl (hc.ab hS.ab) ⟨_,Tryz.underlying46⟩ ?_);refine J1 ?_;refine jb ?_;rw[hnl];refine aW (λρ w'=>∃LO,ρ 7= .slice (some ⟨b11,0,none⟩) n n/\Gl ae 32 3 (.slice (some ⟨b11,0,none⟩) n n) (aS n λi=>aj (nQ C l C.length i)) LO/\St w w' LO) ?_ ?_
 ·refine ja ?_;refine aQ (σ:=Nat) (λi ρ w'=>i<=C.length/\ρ 2=vl/\ρ 7= .slice (some ⟨b11,0,none⟩) n n/\ρ 12=vc/\ρ 13=iB C.length/\ρ 14=iB i/\∃LO,Gl ae 32 3 (.slice (some ⟨b11,0,none⟩) n n) (aS n λk=>aj (nQ C l i k)) LO/\St w w' ([]++LO)) (λi=>C.length-i) 0
   ⟨Nat.zero_le _,rfl,rfl,rfl,rfl,rfl,_,hG,hS⟩ ?_
  clear hS hG;rintro i ρ w2 ⟨hi,h2,h7,h12,h13,h14,LO,hG,hS⟩;have htl:=ao n λk=>aj (nQ C l i k);refine V1 ?_;by_cases hlt:i<C.length
  ·refine V1 ?_;obtain⟨k,hk⟩:=jz (C.getD i 0);have hkn:k<n:=hCn k (by rw[hk];exact bC _ _ _ hlt);have hni:(nI C).getD i 0=(k:Int):=by unfold nI;rw[getD_map _ _ 0 _ hlt,hk]
   have hgl:(aS C.length λi=>aj (l i)).getD i bM=aj (l i):=aV _ _ hlt;have ht:=cH C i 0 hlt;rw[<-hk]at ht;have hix:=oq C hC hlt;rw[<-hk]at hix;refine J1 ?_;refine jp (aH (i:=i) h12 h14 (hc.ab hS.ab) oO dO ga (jq (aO (i:=i) 0 rfl eI (hc.ab hS.ab) dO rfl rfl (.inr rfl) ?_)));refine V2 ?_;rw[hni];refine J4 ?_;refine jp (aH (i:=i) rfl rfl (hl.ab hS.ab) oO dO bJ (jq (aO (i:=i) bM rfl aB (hl.ab hS.ab) dO rfl rfl (.inl rfl) (jp (aH (i:=k) rfl rfl (hG.sl hS aK) oO dO bJ (jh (mD (i:=k) (aj (l i)) aK rfl rfl aB hG hS oO (by rw[hgl];rfl) rfl ?_)))))));intro wz2 hS;refine ja ?_;obtain⟨LC2,hG,hS⟩:=hS;rw[uW n (nQ C l i) (nQ C l (i+1)) k (l i) (λa _=>by
    unfold nQ;rw[ht];by_cases e:a=k
    ·rw[if_pos e,if_pos (by rw[e];simp),e,hix]
    ·rw[if_neg e];have:a∈C.take i++[k]↔a∈C.take i:=by simp[e]
     simp only[this])]at hG
   refine V2 ?_;exact⟨i+1,_,rfl,⟨hlt,jY,jY,jY,jY,vi rfl oO,_,hG,hS⟩,oO⟩
  ·refine J1 ?_;refine jt ?_;obtain rfl:i=C.length:=oO;exact⟨_,rfl,LO,h7,hG,hS⟩
 clear hS hG;rintro ρ w2 ⟨LO,h7,hG,hS⟩;refine J2 ?_;refine jt ?_;refine bj rfl rfl ?_;exact⟨LO,hG,hS⟩
def lu (M:Mx) (C:List Nat):Mx:=λa b=>M (C.getD a 0) (C.getD b 0)-(if a=b then 1 else 0)
def qO (M:Mx) (C:List Nat) (i j:Nat):Mx:=λa b=>if a<i then lu M C a b else if a=i/\b<j then M (C.getD a 0) (C.getD b 0)else 0
theorem Ka (v vc:Value) (vs:List Value) (n:Nat) (M:Mx) (C:List Nat) (w:World) (hA:kj ae 3 w v (oR n n (qM M)) vs) (hc:Sl lD 1 w vc (nI C)) (hCn:∀i∈C,i<n) (hn:C.length<=1000) (hL:∀i,i<C.length->L (M (C.getD i 0) (C.getD i 0))+1<=MX):
  dj Tryz.prog 103 #[v,vc] w λr w'=>∃bo R,r= .slice (some ⟨bo,0,none⟩) C.length C.length/\dA R C.length C.length (qM (lu M C))/\St w w' (mB ae 32 34 bo R []):=by
 have hS:=St.init w;have hmx:=hA.sl.maxLen;have hlen:=hA.len;rw[eg]at hlen;have hnl:=kJ C;have hL1:L 1<=1:=zH (n:=1) dD;obtain⟨m,hm⟩:=jz C.length;rw[<-hm]at hn hL hnl⊢;refine enter Tryz.func103 rfl Tryz.ntmps103 rfl ?_;refine J2 ?_;refine jp (aF rfl (hc.ab hS.ab) ⟨_,Tryz.underlying46⟩ ?_);rw[hnl];refine jh (ah Tryz.call93 rfl (y9 m _ hn) ?_);rintro r w3 ⟨bo,R0,rfl,hR0,hS3⟩;replace hS:=hS.join hS3;refine V1 ?_;rw[List.append_nil]at hS;refine J1 ?_;refine jp (aF rfl (hc.ab hS.ab) ⟨_,Tryz.underlying46⟩ ?_);refine J1 ?_;refine jb ?_;rw[hnl];refine aW (λρ w'=>ρ 5= .slice (some ⟨bo,0,none⟩) m m/\∃R,dA R m m (qM (lu M C))/\St w w' (mB ae 32 34 bo R [])) ?_ ?_
 ·refine ja ?_;refine aQ (σ:=Nat) (λi ρ w'=>i<=m/\ρ 0=v/\ρ 1=vc/\ρ 5= .slice (some ⟨bo,0,none⟩) m m/\ρ 13=vc/\ρ 14=iB m/\ρ 15=iB i/\∃R,dA R m m (qM (qO M C i 0))/\St w w' (mB ae 32 34 bo R [])) (λi=>m-i) 0
   ⟨Nat.zero_le _,rfl,rfl,rfl,rfl,rfl,rfl,R0,hR0.congr λa _ b _=>by show aj 0=aj (qO M C 0 0 a b);unfold qO;rw[if_neg oO,if_neg oO],hS⟩ ?_
  clear hS hR0;rintro i ρ w2 ⟨hi,h0,h1,h5,h13,h14,h15,R,hR,hS⟩;refine V1 ?_;by_cases hlt:i<m
  ·refine V1 ?_;obtain⟨k,hk⟩:=jz (C.getD i 0);have hkn:k<n:=hCn k (by rw[hk];exact bC _ _ _ oO);have hni:(nI C).getD i 0=(k:Int):=by unfold nI;rw[getD_map _ _ 0 _ oO,hk]
   have hrow:=hA.row k (by rw[eg];exact hkn);rw[iw _ hkn]at hrow;have htl:=ao n (qM M k);refine J1 ?_;refine jp (aH (i:=i) h13 h15 (hc.ab hS.ab) oO dO ga (jq (aO (i:=i) 0 rfl eI (hc.ab hS.ab) dO rfl rfl (.inr rfl) ?_)));refine V2 ?_;rw[hni];refine J1 ?_;refine jp (aF rfl (hc.ab hS.ab) ⟨_,Tryz.underlying46⟩ ?_);refine J1 ?_;refine jb ?_;rw[hnl];refine aW (λρ w'=>ρ 0=v/\ρ 1=vc/\ρ 5= .slice (some ⟨bo,0,none⟩) m m/\ρ 6=iB i/\ρ 13=vc/\ρ 14=iB m/\ρ 15=iB i/\∃R,dA R m m (qM (qO M C i m))/\St w w' (mB ae 32 34 bo R [])) ?_ ?_
   ·refine ja ?_;refine aQ (σ:=Nat) (λj ρ w'=>j<=m/\ρ 0=v/\ρ 1=vc/\ρ 5= .slice (some ⟨bo,0,none⟩) m m/\ρ 6=iB i/\ρ 7=iB k/\ρ 13=vc/\ρ 14=iB m/\ρ 15=iB i/\ρ 20=vc/\ρ 21=iB m/\ρ 22=iB j/\∃R,dA R m m (qM (qO M C i j))/\St w w' (mB ae 32 34 bo R [])) (λj=>m-j) 0
     ⟨Nat.zero_le _,jY,jY,jY,rfl,rfl,jY,jY,jY,rfl,rfl,rfl,R,hR,hS⟩ ?_
    clear hS hR;rintro j ρ w4 ⟨hj,h0,h1,h5,h6,h7,h13,h14,h15,h20,h21,h22,R,hR,hS⟩;refine V1 ?_;by_cases hjl:j<m
    ·refine V1 ?_;obtain⟨q,hq⟩:=jz (C.getD j 0);have hqn:q<n:=hCn q (by rw[hq];exact bC _ _ _ oO);have hnj:(nI C).getD j 0=(q:Int):=by unfold nI;rw[getD_map _ _ 0 _ oO,hq]
     have hli:i<R.length:=by rw[hR.len];exact hlt
     have hxi:j<(R.getD i gn).X.length:=by rw[hR.ql hlt];exact hjl
     have hg:(aS n (qM M k)).getD q bM=aj (M k q):=aV _ _ hqn;refine J1 ?_;refine jp (aH (i:=j) h20 h22 (hc.ab hS.ab) oO dO ga (jq (aO (i:=j) 0 rfl eI (hc.ab hS.ab) dO rfl rfl (.inr rfl) ?_)));refine V2 ?_;rw[hnj];refine ja ?_;refine bk [jo 0,jo 1,jo 2,ju 3,jo 4,jo 5,jo 6,jo 7,ju 8,jo 9,jo 10,ju 11,jo 12,jw 13] kR kR hS ?_;intro wz1 hS hBz1;refine J2 ?_;refine jl rfl (bn (i:=i) rfl rfl oO dO cZ (jm rfl (eJ [] (i:=i) rfl dh hS oO hli ?_)));refine J3 ?_;refine jl rfl (aH (i:=k) rfl rfl (hA.sl.ab hS.ab) oO dO cZ (jm rfl (aO (i:=k) undef rfl dh (hA.sl.ab hS.ab) dO rfl rfl (.inr rfl) ?_)));refine J1 ?_;refine jl rfl (aH (i:=q) rfl rfl (hrow.ab hS.ab) oO dO bJ (jm rfl (aO (i:=q) bM rfl aB (hrow.ab hS.ab) dO rfl rfl (.inl rfl) (jl rfl (bn (i:=j) rfl rfl oO dO bJ (jx rfl (qJ [] (i:=i) (j:=j) (aj (M k q)) aK rfl rfl aB hS rfl hli oO hxi (by rw[hg];rfl) rfl ?_)))))));intro wz2 hS;refine V2 ?_;refine⟨j+1,_,rfl,⟨hjl,jY,jY,jY,jY,jY,jY,jY,jY,jY,jY,vi rfl oO,_,(hR.put hlt j (aj (M k q))).congr λa _ b _=> ?_,hS⟩,oO⟩;show(if a=i/\b=j then aj (M k q)else aj (qO M C i j a b))=aj (qO M C i (j+1) a b);unfold qO;by_cases g:a=i/\b=j
     ·rw[if_pos g,if_neg oO,if_pos oO,g.1,g.2,hk,hq]
     ·rw[if_neg g];by_cases g1:a<i
      ·rw[if_pos g1,if_pos g1]
      ·rw[if_neg g1,if_neg g1];by_cases g2:a=i/\b<j
       ·rw[if_pos g2,if_pos oO]
       ·rw[if_neg g2,if_neg oO]
    ·refine J1 ?_;refine jt ?_;obtain rfl:j=m:=oO;exact⟨_,rfl,h0,h1,h5,h6,h13,h14,h15,R,hR,hS⟩
   clear hS hR;rintro ρ w4 ⟨h0,h1,h5,h6,h13,h14,h15,R,hR,hS⟩;have hli:i<R.length:=by rw[hR.len];exact hlt
   have hxi:i<(R.getD i gn).X.length:=by rw[hR.ql hlt];exact hlt
   have hg:(R.getD i gn).X.getD i bM=aj (M k k):=by
    rw[hR.get hlt hlt];show aj (qO M C i m i i)=_;unfold qO;rw[if_neg oO,if_pos ⟨rfl,hlt⟩,hk]
   have hLi:=hL i hlt;rw[<-hk]at hLi;have hsub:=λw=>dH (aj (M k k)) (aj 1) w (by rw[Lr_ofQ,Lr_ofQ];omega);rw[toQ_ofQ,toQ_ofQ]at hsub;refine ja ?_;refine bk [jo 0,jo 1,jo 2,ju 3,jo 4,jo 5,jo 6,jo 7,ju 8,jo 9,jo 10,ju 11,jv 12,jv 13,jo 14,jw 15] kR kR hS ?_;intro wz3 hS hBz3;refine J2 ?_;refine jl rfl (bn (i:=i) rfl rfl oO dO cZ (jm rfl (eJ [] (i:=i) rfl dh hS oO hli ?_)));refine J3 ?_;refine jl rfl (bn (i:=i) rfl rfl oO dO cZ (jm rfl (eJ [] (i:=i) rfl dh hS oO hli ?_)));refine J1 ?_;refine jl rfl (bn (i:=i) rfl rfl oO dO bJ (jm rfl (ke [] (i:=i) (j:=i) bM aK rfl aB hS rfl hli oO hxi rfl (.inl rfl) ?_)));rw[hg];refine jn rfl (ah Tryz.call33 rfl (dN 1 _ dD dD) ?_);rintro r w5 ⟨rfl,hB5⟩;refine⟨hB5,?_⟩;rw[show((1:Int):Rat)=1 from rfl];replace hS:=hS.aG hB5;refine jn rfl (ah Tryz.call16 rfl (hsub _) ?_);rintro _ wc4 ⟨rfl,hBc4⟩;replace hS:=hS.aG hBc4;refine⟨hBc4,?_⟩;refine jl rfl (bn (i:=i) rfl rfl oO dO bJ (jx rfl (qJ [] (i:=i) (j:=i) (aj (M k k-1)) aK rfl rfl aB hS rfl hli oO hxi rfl rfl ?_)));intro wz5 hS;refine V2 ?_;refine⟨i+1,_,rfl,⟨hlt,jY,jY,jY,jY,jY,vi rfl oO,_,(hR.put hlt i (aj (M k k-1))).congr λa ha b hb=> ?_,hS⟩,oO⟩;show(if a=i/\b=i then aj (M k k-1)else aj (qO M C i m a b))=aj (qO M C (i+1) 0 a b);unfold qO;by_cases g:a=i/\b=i
   ·rw[if_pos g,if_pos oO];unfold lu;rw[g.1,g.2,if_pos rfl,hk]
   ·rw[if_neg g];by_cases g1:a<i
    ·rw[if_pos g1,if_pos oO]
    ·rw[if_neg g1];by_cases g2:a=i
     ·rw[if_pos ⟨g2,hb⟩,if_pos oO];unfold lu;rw[if_neg oO,Rat.sub_eq_add_neg,Rat.neg_zero,Rat.add_zero]
     ·rw[if_neg oO,if_neg oO,if_neg oO]
  ·refine J1 ?_;refine jt ?_;obtain rfl:i=m:=oO;refine⟨_,rfl,h5,R,hR.congr λa ha b _=> ?_,hS⟩;show aj (qO M C i 0 a b)=aj (lu M C a b);unfold qO;rw[if_pos ha]
 clear hS hR0;rintro ρ w2 ⟨h5,R,hR,hS⟩;refine J2 ?_;refine jt ?_;refine bj rfl rfl ?_;exact⟨bo,R,rfl,hR,hS⟩
end Go.Proofs.YtoeiejliehgopaaGreatDoor
