/-
  Part 6 of the proof of TopSplit: framework, walks, plain laws.
-/
import Derived.Test.YtoeiejliehgopaaGreatDoorVd5
set_option maxRecDepth 20000
set_option maxHeartbeats 8000000
namespace Go.Proofs.YtoeiejliehgopaaGreatDoor
open Go Go.RowKit Go.Sx
structure Rs where
 c:Nat->Rat
 r:Rat
def Dn (s:Rs) (p:Pa):Rs:=if p.c= -1 then⟨s.c,s.r+p.q⟩else⟨λk=>if(k:Int)=p.c then s.c k+p.q else s.c k,s.r⟩
def rj (s:Rs) (l:List Pa):Rs:=l.foldl Dn s
def Bq (l:List Pa):Nat:=(l.map λp=>L p.q+1).sum
theorem wY (p:Pa) (l:List Pa):Bq (p::l)=L p.q+1+Bq l:=by unfold Bq;rw[cJ,iF]
theorem Cu (l m:List Pa):Bq (l++m)=Bq l+Bq m:=by unfold Bq;rw[bS,iU]
def Bk (n B:Nat) (s:Rs) (l:List Pa):Prop:=(∀k,k<n->L (s.c k)+Bq l<=B)/\L s.r+Bq l<=B
theorem Bk.step {n B:Nat} {s:Rs} {p:Pa} {l:List Pa} (h:Bk n B s (p::l)):Bk n B (Dn s p) l:=by
 obtain⟨h1,h2⟩:=h;rw[wY]at h2;unfold Dn;split
 ·refine⟨λk hk=> ?_,?_⟩
  ·have:=h1 k hk;rw[wY]at this;show L (s.c k)+Bq l<=B;omega
  ·have:=Bi s.r p.q;show L (s.r+p.q)+Bq l<=B;omega
 ·refine⟨λk hk=> ?_,by show L s.r+Bq l<=B;omega⟩;have g:=h1 k hk;rw[wY]at g;show L (if(k:Int)=p.c then s.c k+p.q else s.c k)+Bq l<=B;have:=Bi (s.c k) p.q;split<;>omega
theorem Bk.part {n B:Nat} {s:Rs} {l m:List Pa} (h:Bk n B s (l++m)):Bk n B s l:=by
 unfold Bk at h⊢;rw[Cu]at h;exact⟨λk hk=>by have:=h.1 k hk;omega,by have:=h.2;omega⟩
def zo (n:Nat) (p:Pa):Prop:=p.c= -1\/(0<=p.c/\p.c<n)
def ny (br:Nat) (vc:Value) (r:Rat):lj:=(br,167,vc::ke (ki r))
theorem Lm (br n:Nat) (vc:Value) (s:Rs) (p:Pa) (H LC:List lj) (w0 w:World) (hG:Gl ke 32 3 vc (kD n λk=>ki (s.c k)) LC) (hS:St w0 w ((ny br vc s.r::H)++LC)) (hp:zo n p) (hL:Bk n MX s [p]):
  mb Tryz.prog 131 #[.pointer (some ⟨br,0,none⟩),.int .i64 p.c,lC (ki p.q)] w λv w'=>v= .tuple #[]/\∃LC',Gl ke 32 3 vc (kD n λk=>ki ((Dn s p).c k)) LC'/\St w0 w' ((ny br vc (Dn s p).r::H)++LC'):=by
 have htl:=kj n λk=>ki (s.c k);obtain⟨hL1,hL2⟩:=hL;rw[show Bq [p]=L p.q+1 from rfl]at hL1 hL2;refine enter Tryz.func131 rfl Tryz.ntmps131 rfl ?_;refine jr ?_;refine jh (lx (new:=ke (ki p.q)) rfl rfl hS ?_);intro b5 wz1 hS hBz1;refine ja ?_;replace hS:St w0 _ (([(b5,32,ke (ki p.q)),(br,167,vc::ke (ki s.r))]++H)++LC):=hS;refine V2 ?_;by_cases hc:p.c= -1
 ·have e:Dn s p=⟨s.c,s.r+p.q⟩:=aj hc;rw[e];refine lu rfl (ai hc) ?_;refine ja ?_;refine kK [jo 0,jo 1,jo 2,jo 3,ju 4,ju 5,jv 6,jo 7,jo 8,jw 9] kR kR hS ?_;intro wz2 hS hBz2;refine J2 ?_;refine jl rfl (nc rfl ?_);refine J3 ?_;refine jn rfl (kf Tryz.call18 rfl (ou (ki s.r) (ki p.q) _ (by rw[Lr_ofQ,Lr_ofQ];omega)) ?_);rintro r w3 ⟨rfl,hB3⟩;refine⟨hB3,?_⟩;rw[toQ_ofQ,toQ_ofQ];replace hS:=hS.kx hB3;refine jl rfl (nc rfl ?_);refine J2 ?_;intro wz3 hS;refine ja ?_;replace hS:St w0 _ ((b5,32,ke (ki p.q))::((ny br vc (s.r+p.q)::H)++LC)):=hS;refine jt ?_;exact Fe rfl ⟨rfl,LC,hG,hS.drop (ab _ _)⟩
 ·refine lH rfl (ae hc) ?_;refine ja ?_;have hp2:0<=p.c/\p.c<n:=hp.resolve_left hc;obtain⟨k,hk⟩:=Int.eq_ofNat_of_zero_le hp2.1;have hkn:k<n:=oO;have hgk:(kD n λk=>ki (s.c k)).getD k kZ=ki (s.c k):=kB _ _ hkn;have hLk:=hL1 k hkn;have e:Dn s p=⟨λk=>if(k:Int)=p.c then s.c k+p.q else s.c k,s.r⟩:=ah hc;rw[e];refine ja ?_;refine kK [jo 0,jo 1,jo 2,ju 3,jo 4,jo 5,jo 6,jo 7,ju 8,jo 9,jo 10,ju 11,ju 12,jv 13,jo 14,jw 15] kR kR hS ?_;intro wz4 hS hBz4;refine J1 ?_;refine jl rfl (nc rfl ?_);refine J4 ?_;refine jl rfl (nc rfl ?_);refine J3 ?_;refine jl rfl (ks (i:=k) rfl rfl (hG.sl hS kA) oO dO kW (jm rfl (kC (i:=k) kZ rfl kt (hG.sl hS kA) dO rfl rfl (.inl rfl) ?_)));refine J1 ?_;refine jn rfl (kf Tryz.call18 rfl (ou ((kD n λk=>ki (s.c k)).getD k kZ) (ki p.q) _ (by rw[hgk,Lr_ofQ,Lr_ofQ];omega)) ?_);rintro r w3 ⟨rfl,hB3⟩;refine⟨hB3,?_⟩;rw[hgk,toQ_ofQ,toQ_ofQ];replace hS:=hS.kx hB3;refine jl rfl (ks (i:=k) rfl rfl (hG.sl hS kA) oO dO kW (jx rfl (ug (i:=k) (ki (s.c k+p.q)) kA rfl rfl kt hG hS oO rfl rfl ?_)));intro wz5 hS;refine ja ?_;obtain⟨LC2,hG,hS⟩:=hS;rw[mZ,kN (g:=λj=>ki (if(j:Int)=p.c then s.c j+p.q else s.c j)) λj _=>by
   by_cases g:j=k
   ·rw[aj g,aj oO,g]
   ·rw[ah g,ah oO]]at hG
  replace hS:St w0 _ ((b5,32,ke (ki p.q))::((ny br vc s.r::H)++LC2)):=hS;exact qv rfl ⟨rfl,LC2,hG,hS.drop (ab _ _)⟩
def Gr (t:Tr) (a:Rat):List Pa:=t.ps.map λp=>⟨p.c,p.q*(a/t.sm)⟩
theorem getD_map {α β:Type} (f:α->β) (l:List α) (d:α) (d':β) {i:Nat} (h:i<l.length):(l.map f).getD i d'=f (l.getD i d):=by
 rw[nQ _ d' (by rw[bj];exact h),ew,nQ l d h]
theorem drop_cons {α:Type} (l:List α) (d:α) {i:Nat} (h:i<l.length):l.drop i=l.getD i d::l.drop (i+1):=by
 rw[dX h,nQ l d h]
theorem Bk.head {n B:Nat} {s:Rs} {p:Pa} {l:List Pa} (h:Bk n B s (p::l)):Bk n B s [p]:=Bk.part (l:=[p]) (m:=l) h
theorem Vh {α:Type} (x y z:α) (H:List α):([x,y,z]++H).Perm (z::x::y::H):=(List.Perm.cons x (List.Perm.swap z y H)).trans (List.Perm.swap z x (y::H))
theorem EI (br n:Nat) (vc vp:Value) (s:Rs) (t:Tr) (a:Rat) (H LC:List lj) (w0 w:World) (hG:Gl ke 32 3 vc (kD n λk=>ki (s.c k)) LC) (hS:St w0 w ((ny br vc s.r::H)++LC)) (hP:∀wx A B,St w0 wx ((A++H)++B)->Sl pP 4 wx vp t.ps) (hp:∀p∈t.ps,zo n p)
  (ht:t.sm≠0) (hL:Bk n MX s (Gr t a)) (hLa:L a+L t.sm<=MX) (hLp:∀p∈t.ps,L p.q+L (a/t.sm)<=MX):
  mb Tryz.prog 132 #[.pointer (some ⟨br,0,none⟩),za t vp,lC (ki a)] w λv w'=>v= .tuple #[]/\∃LC',Gl ke 32 3 vc (kD n λk=>ki ((rj s (Gr t a)).c k)) LC'/\St w0 w' ((ny br vc (rj s (Gr t a)).r::H)++LC'):=by
 obtain⟨q,hq⟩:=jz (a/t.sm);have hsh:Gr t a=t.ps.map λp=>⟨p.c,p.q*q⟩:=by rw[hq];rfl
 rw[<-hq]at hLp;have hPs:=hP w [ny br vc s.r] LC hS;have hmx:=hPs.maxLen;obtain⟨pa,pc,rfl,_⟩:=hPs.form;have hal:(Gr t a).length=t.ps.length:=bj _;refine enter Tryz.func132 rfl Tryz.ntmps132 rfl ?_;refine jr ?_;refine jh (lx (new:=nB (t,.slice pa t.ps.length pc)) rfl rfl hS ?_);intro b4 wz1 hS hBz1;refine jh (lx (new:=ke (ki a)) rfl rfl hS ?_);intro b5 wz2 hS hBz2;refine J3 ?_;refine jh (kf Tryz.call108 rfl (we (ki a) (ki t.sm) _ (by rw[Lr_ofQ,Lr_ofQ];exact hLa) (by rw[toQ_ofQ];exact ht)) ?_);rintro r w3 ⟨rfl,hB3⟩;rw[toQ_ofQ,toQ_ofQ,<-hq];replace hS:=hS.kx hB3;refine J4 ?_;intro b6 wz3 hS hBz3;refine J1 ?_;intro wz4 hS;refine V1 ?_;replace hS:St w0 _ (([(b6,32,ke (ki q)),(b5,32,ke (ki a)),(b4,157,nB (t,.slice pa t.ps.length pc)),ny br vc s.r]++H)++LC):=hS;refine J2 ?_;refine jp (ky rfl (hP _ [(b6,32,ke (ki q)),(b5,32,ke (ki a)),(b4,157,nB (t,.slice pa t.ps.length pc)),ny br vc s.r] LC hS) ⟨_,Tryz.underlying155⟩ ?_);refine V1 ?_;refine kF (σ:=Nat) (λi ρ w'=>i<=t.ps.length/\ρ 0=pB br/\ρ 6=pB b6/\ρ 18= .slice pa t.ps.length pc/\ρ 19=iB t.ps.length/\ρ 20=iB i/\∃s' LC,Bk n MX s' ((Gr t a).drop i)/\rj s' ((Gr t a).drop i)=rj s (Gr t a)/\Gl ke 32 3 vc (kD n λk=>ki (s'.c k)) LC/\
   St w0 w' (([(b6,32,ke (ki q)),ny br vc s'.r]++H)++LC)) (λi=>t.ps.length-i) 0
  ⟨aw _,rfl,rfl,rfl,rfl,rfl,s,LC,hL,rfl,hG,hS.drop (bk (bk (List.Sublist.cons_cons _ ((List.Sublist.cons _ (List.Sublist.cons _ (bI _))))) (bI _)) (bI _))⟩ ?_
 clear hS hG hPs hL;rintro i ρ w4 ⟨hi,h0,h6,h18,h19,h20,s',LC,hL,hadd,hG,hS⟩;refine V1 ?_;by_cases hlt:i<t.ps.length
 ·refine V1 ?_;obtain⟨p,hpe⟩:=jz (t.ps.getD i Tx);have hpm:p∈t.ps:=by rw[hpe];exact kO _ _ _ hlt
  have hd:(Gr t a).drop i=(⟨p.c,p.q*q⟩:Pa)::(Gr t a).drop (i+1):=by
   rw[drop_cons _ Tx (by rw[hal];exact hlt)];congr 1;rw[hsh,getD_map _ _ Tx _ hlt,<-hpe]
  rw[hd]at hL hadd;refine jr ?_;refine jp (ks (i:=i) h18 h20 (hP _ [(b6,32,ke (ki q)),ny br vc s'.r] LC hS) oO dO GE (jq (kC (i:=i) Tx rfl uI (hP _ [(b6,32,ke (ki q)),ny br vc s'.r] LC hS) dO rfl rfl (.inl rfl) ?_)));refine J1 ?_;intro b9 wz5 hS hBz5;refine J1 ?_;intro wz6 hS;refine ja ?_;rw[<-hpe]at hS;replace hS:St w0 _ (([(b9,207,pP p),(b6,32,ke (ki q)),ny br vc s'.r]++H)++LC):=hS;refine ja ?_;refine kK [jo 0,jo 1,ju 2,jo 3,ju 4,ju 5,jv 6,jw 7] kR kR hS ?_;intro wz7 hS hBz7;refine J6 ?_;refine jn rfl (kf Tryz.call11 rfl (qF (ki p.q) (ki q) _ (by rw[Lr_ofQ,Lr_ofQ];exact hLp p hpm)) ?_);rintro r w5 ⟨rfl,hB5⟩;refine⟨hB5,?_⟩;rw[toQ_ofQ,toQ_ofQ];replace hS:=hS.kx hB5;refine jx rfl (kf Tryz.call131 rfl (Lm br n vc s' ⟨p.c,p.q*q⟩ ((b9,207,pP p)::(b6,32,ke (ki q))::H) LC w0 _ hG (hS.perm (bQ _ (Vh _ _ _ _))) (hp p hpm) hL.head) ?_);rintro r w6 ⟨rfl,LC',hG,hS⟩;refine V2 ?_;exact⟨i+1,_,rfl,⟨hlt,jY,jY,jY,jY,vi rfl oO,_,LC',hL.step,hadd,hG,(hS.perm (bQ _ (Vh _ _ _ _).symm)).drop (ab _ _)⟩,oO⟩
 ·refine J1 ?_;refine jt ?_;obtain rfl:i=t.ps.length:=oO;rw[ff oO]at hadd;replace hadd:s'=rj s (Gr t a):=hadd;subst hadd;exact qv rfl ⟨rfl,LC,hG,hS.drop (ab _ _)⟩
def rJ (T:List Tr) (m:Rat):List Pa:=(T.take (mD T m)).flatMap Tr.ps++if mD T m<T.length then Gr (T.getD (mD T m) sw) (r9 T m)else []
def qV (T:List Tr) (m rate:Rat):List Pa:=if mD T m<T.length then Gr (T.getD (mD T m) sw) rate else []
theorem GC:∀ {T:List Tr} {m:Rat},mD T m<T.length->r9 T m<(T.getD (mD T m) sw).sm
 | [],_,h=>absurd h (aS _)
 |t::T,m,h=>by
  unfold r9;by_cases hc:m<t.sm
  ·have e:mD (t::T) m=0:=aj hc;rw[e];show m-0<t.sm;grind
  ·have e:mD (t::T) m=mD T (m-t.sm)+1:=ah hc;rw[e]at h⊢;have ih:=GC (T:=T) (m:=m-t.sm) (by rw[aZ]at h;omega);unfold r9 at ih;rw[tQ];show _<(T.getD _ sw).sm;grind
theorem Gy:∀ {T:List Tr} {m:Rat},(∀t∈T,0<=t.sm)->0<=m->0<=r9 T m
 | [],m,_,h=>by show 0<=m-0;grind
 |t::T,m,ht,h=>by
  unfold r9;by_cases hc:m<t.sm
  ·have e:mD (t::T) m=0:=aj hc;rw[e];show 0<=m-0;grind
  ·have e:mD (t::T) m=mD T (m-t.sm)+1:=ah hc;have ih:=Gy (T:=T) (m:=m-t.sm) (λt h=>ht t (aJ _ h)) (by grind);unfold r9 at ih;rw[e,tQ];grind
structure Jc (n:Nat) (T:List Tr):Prop where
 p:∀t∈T,∀p∈t.ps,zo n p
 s:∀t∈T,0<=t.sm
def D6 (T:List Tr) (f i:Nat) (tl:List Pa):List Pa:=((T.take f).drop i).flatMap Tr.ps++tl
theorem Ng {T:List Tr} {f i:Nat} (tl:List Pa) (hf:f<=T.length) (hi:i<f):D6 T f i tl=(T.getD i sw).ps++D6 T f (i+1) tl:=by
 unfold D6;have hl:i<(T.take f).length:=by rw[dm];omega
 rw[drop_cons _ sw hl,cj,aG];congr 1;rw[nQ _ _ hl,iz,nQ T sw oO]
theorem Oc (T:List Tr) (f:Nat) (tl:List Pa):D6 T f f tl=tl:=by
 unfold D6;rw[ff (by rw[dm];omega)];rfl
theorem La (br n:Nat) (vc v:Value) (T:List Tr) (vs:List Value) (m:Rat) (s:Rs) (H LC:List lj) (w0 w:World) (hT:∀wx A B,St w0 wx ((A++H)++B)->II wx v T vs) (hG:Gl ke 32 3 vc (kD n λk=>ki (s.c k)) LC) (hS:St w0 w ((ny br vc s.r::H)++LC)) (hok:Jc n T)
  (hm0:0<=m) (hK:2*(L m+yb T+2)<=MX) (hL:Bk n MX s (rJ T m)) (hLp:∀t∈T,∀p∈t.ps,L p.q+L m+2*yb T+2<=MX):
  mb Tryz.prog 87 #[v,lC (ki m),.pointer (some ⟨br,0,none⟩)] w λu w'=>u= .tuple #[]/\∃LC',Gl ke 32 3 vc (kD n λk=>ki ((rj s (rJ T m)).c k)) LC'/\St w0 w' ((ny br vc (rj s (rJ T m)).r::H)++LC'):=by
 have hT0:=hT w [ny br vc s.r] LC hS;have hzl:=hT0.PF;have hmx:=hT0.sl.maxLen;rw[hzl]at hmx;obtain⟨f,hf⟩:=jz (mD T m);have hfl:f<=T.length:=by rw[hf];exact tJ T m
 obtain⟨lq,hlq⟩:=jz (r9 T m);have hLq:L lq<=L m+yb T+2:=by rw[hlq];exact F8 T m (tJ T m)
 obtain⟨tl,htl⟩:∃tl:List Pa,tl=if f<T.length then Gr (T.getD f sw) lq else []:=⟨_,rfl⟩
 have hpay:rJ T m=D6 T f 0 tl:=by rw[htl,hlq,hf];rfl
 rw[hpay]at hL⊢;obtain⟨fin,hfin⟩:=jz (rj s (D6 T f 0 tl));rw[<-hfin];refine enter Tryz.func87 rfl Tryz.ntmps87 rfl ?_;refine jr ?_;refine jh (lx (new:=ke (ki m)) rfl rfl hS ?_);intro b4 wz1 hS hBz1;refine ja ?_;replace hS:St w0 _ (([(b4,32,ke (ki m)),ny br vc s.r]++H)++LC):=hS;refine J2 ?_;refine jh (kf Tryz.call130 rfl (An v T vs m _ (hT _ [(b4,32,ke (ki m)),ny br vc s.r] LC hS) hK) ?_);rintro r w3 ⟨rfl,hB3⟩;rw[<-hf,<-hlq];replace hS:=hS.kx hB3;refine J4 ?_;intro b7 wz2 hS hBz2;refine J2 ?_;intro wz3 hS;refine ja ?_;replace hS:St w0 _ (([(b7,32,ke (ki lq)),(b4,32,ke (ki m)),ny br vc s.r]++H)++LC):=hS;refine ja ?_;refine nk (λρ'=>ρ' 0=v/\ρ' 2= .pointer (some ⟨br,0,none⟩)/\ρ' 6= .int .i64 f/\ρ' 7= .pointer (some ⟨b7,0,none⟩)/\True) ⟨rfl,rfl,rfl,rfl,trivial⟩ ?_;rintro ρk4 ⟨hk4_0,hk4_2,hk4_6,hk4_7,-⟩;refine J2 ?_;refine jp (xY rfl rfl (hT _ [(b7,32,ke (ki lq)),(b4,32,ke (ki m)),ny br vc s.r] LC hS).sl rfl (by rw[hzl];exact hfl) sG (jp (ky rfl (Sl.sub (hT _ [(b7,32,ke (ki lq)),(b4,32,ke (ki m)),ny br vc s.r] LC hS).sl su dD (aw f) (by rw[hzl];exact hfl)) ⟨_,Tryz.underlying109⟩ ?_)));refine J1 ?_;refine jb ?_;have hsl:(((T.zip vs).drop 0).take (f-0)).length=f:=by rw[dm,fk,hzl];omega
 have hsub:=λwx A B h=>Sl.sub (hT wx A B h).sl su dD (aw f) (by rw[hzl];exact hfl);have hzg:∀i,i<f->(((T.zip vs).drop 0).take (f-0)).getD i (sw,undef)=(T.getD i sw,vs.getD i undef):=λi hi=>by
  rw[nQ _ _ (by rw[hsl];exact hi),iz,List.getElem_drop,<-nQ (T.zip vs) (sw,undef) (by rw[hzl];omega),bX,hT0.Pr oO]
 obtain⟨v20,hv20⟩:=jz (z7 v 4 0 f);rw[<-hv20]at hsub;rw[hsl];refine kG (λρ w'=>ρ 0=v/\ρ 2=pB br/\ρ 6=iB f/\ρ 7=pB b7/\∃s' LC,Bk n MX s' tl/\rj s' tl=fin/\Gl ke 32 3 vc (kD n λk=>ki (s'.c k)) LC/\St w0 w' (([(b7,32,ke (ki lq)),ny br vc s'.r]++H)++LC)) ?_ ?_
 ·refine ja ?_;refine kF (σ:=Nat) (λi ρ w'=>i<=f/\ρ 0=v/\ρ 2=pB br/\ρ 6=iB f/\ρ 7=pB b7/\ρ 20=v20/\ρ 21=iB f/\ρ 22=iB i/\
    ∃s' LC,Bk n MX s' (D6 T f i tl)/\rj s' (D6 T f i tl)=fin/\Gl ke 32 3 vc (kD n λk=>ki (s'.c k)) LC/\St w0 w' (([(b7,32,ke (ki lq)),ny br vc s'.r]++H)++LC)) (λi=>f-i) 0
   ⟨aw _,jY,jY,jY,jY,hv20.symm,rfl,rfl,s,LC,hL,hfin.symm,hG,(hS.perm (bQ _ (List.Perm.swap _ _ _))).drop (ab _ _)⟩ ?_
  clear hS hG hL;rintro i ρ w4 ⟨hi,h0,h2,h6,h7,h20,h21,h22,s1,LC,hL,hadd,hG,hS⟩;refine V1 ?_;by_cases hlt:i<f
  ·refine V1 ?_;have hli:i<T.length:=oO;obtain⟨t,ht⟩:=jz (T.getD i sw);have htm:t∈T:=by rw[ht];exact kO _ _ _ hli
   obtain⟨pv,hpv⟩:=jz (vs.getD i undef);have hpr:∀wx A B,St w0 wx ((A++H)++B)->Sl pP 4 wx pv t.ps:=λwx A B h=>by rw[hpv,ht];exact(hT wx A B h).ps i hli
   have hzi:=hzg i hlt;rw[<-ht,<-hpv]at hzi;have hp0:=hpr _ [(b7,32,ke (ki lq)),ny br vc s1.r] LC hS;have hpm:=hp0.maxLen;obtain⟨pa,pc,hpe,_⟩:=hp0.form;clear hp0;subst hpe;rw[Ng tl hfl hlt,<-ht]at hL hadd;obtain⟨rm,hrm⟩:=jz (D6 T f (i+1) tl);rw[<-hrm]at hL hadd;refine jr ?_;refine jp (ks (i:=i) h20 h22 (hsub _ [(b7,32,ke (ki lq)),ny br vc s1.r] LC hS) oO dO sG (jq (kC (v:=za t (.slice pa t.ps.length pc)) (i:=i) (sw,undef) rfl tq (hsub _ [(b7,32,ke (ki lq)),ny br vc s1.r] LC hS) oO rfl (by rw[hzi];rfl) (.inl rfl) ?_)));refine J1 ?_;intro b9 wz5 hS hBz5;refine J1 ?_;intro wz6 hS;refine ja ?_;replace hS:St w0 _ (([(b9,157,nB (t,.slice pa t.ps.length pc)),(b7,32,ke (ki lq)),ny br vc s1.r]++H)++LC):=hS;refine ja ?_;refine nk (λρ'=>ρ' 0=v/\ρ' 2= .pointer (some ⟨br,0,none⟩)/\ρ' 6= .int .i64 f/\ρ' 7= .pointer (some ⟨b7,0,none⟩)/\ρ' 20=v20/\ρ' 21= .int .i64 f/\ρ' 22= .int .i64 i/\ρ' 9= .pointer (some ⟨b9,0,none⟩)/\True) ⟨h0,h2,h6,h7,h20,h21,h22,rfl,trivial⟩ ?_;rintro ρk7 ⟨hk7_0,hk7_2,hk7_6,hk7_7,hk7_20,hk7_21,hk7_22,hk7_9,-⟩;refine J2 ?_;refine jp (ky rfl (hpr _ [(b9,157,nB (t,.slice pa t.ps.length pc)),(b7,32,ke (ki lq)),ny br vc s1.r] LC hS) ⟨_,Tryz.underlying155⟩ ?_);refine J1 ?_;refine jb ?_;refine kG (λρ w'=>ρ 0=v/\ρ 2=pB br/\ρ 6=iB f/\ρ 7=pB b7/\ρ 20=v20/\ρ 21=iB f/\ρ 22=iB i/\
    ∃s' LC,Bk n MX s' rm/\rj s' rm=fin/\Gl ke 32 3 vc (kD n λk=>ki (s'.c k)) LC/\St w0 w' (([(b7,32,ke (ki lq)),ny br vc s'.r]++H)++LC)) ?_ ?_
   ·refine ja ?_;refine kF (σ:=Nat) (λj ρ w'=>j<=t.ps.length/\ρ 0=v/\ρ 2=pB br/\ρ 6=iB f/\ρ 7=pB b7/\ρ 20=v20/\ρ 21=iB f/\ρ 22=iB i/\ρ 27= .slice pa t.ps.length pc/\ρ 28=iB t.ps.length/\ρ 29=iB j/\
     ∃s' LC,Bk n MX s' (t.ps.drop j++rm)/\rj s' (t.ps.drop j++rm)=fin/\Gl ke 32 3 vc (kD n λk=>ki (s'.c k)) LC/\St w0 w' (([(b7,32,ke (ki lq)),ny br vc s'.r]++H)++LC)) (λj=>t.ps.length-j) 0
     ⟨aw _,jY,jY,jY,jY,jY,jY,jY,rfl,rfl,rfl,s1,LC,hL,hadd,hG,hS.drop (ab _ _)⟩ ?_
    clear hS hG hL hadd h0 h2 h6 h7 h20 h21 h22;rintro j ρ w5 ⟨hj,h0,h2,h6,h7,h20,h21,h22,h27,h28,h29,s2,LC,hL,hadd,hG,hS⟩;refine V1 ?_;by_cases hjl:j<t.ps.length
    ·refine V1 ?_;obtain⟨p,hpe⟩:=jz (t.ps.getD j Tx);have hpm:p∈t.ps:=by rw[hpe];exact kO _ _ _ hjl
     rw[drop_cons _ Tx hjl,<-hpe,bY]at hL hadd;refine jr ?_;refine jp (ks (i:=j) h27 h29 (hpr _ [(b7,32,ke (ki lq)),ny br vc s2.r] LC hS) oO dO GE (jq (kC (i:=j) Tx rfl uI (hpr _ [(b7,32,ke (ki lq)),ny br vc s2.r] LC hS) dO rfl rfl (.inl rfl) ?_)));refine J1 ?_;intro b11 wz8 hS hBz8;refine J1 ?_;intro wz9 hS;refine ja ?_;rw[<-hpe]at hS;replace hS:St w0 _ (([(b11,207,pP p),(b7,32,ke (ki lq)),ny br vc s2.r]++H)++LC):=hS;refine J5 ?_;refine jh (kf Tryz.call131 rfl (Lm br n vc s2 p ((b11,207,pP p)::(b7,32,ke (ki lq))::H) LC w0 _ hG (hS.perm (bQ _ (Vh _ _ _ _))) (hok.p t htm p hpm) hL.head) ?_);rintro r w6 ⟨rfl,LC',hG,hS⟩;refine V2 ?_;exact⟨j+1,_,rfl,⟨hjl,jY,jY,jY,jY,jY,jY,jY,jY,jY,vi rfl oO,_,LC',hL.step,hadd,hG,(hS.perm (bQ _ (Vh _ _ _ _).symm)).drop (ab _ _)⟩,oO⟩
    ·refine J1 ?_;refine jt ?_;rw[ff oO]at hL hadd;exact⟨_,rfl,h0,h2,h6,h7,h20,h21,h22,s2,LC,hL,hadd,hG,hS⟩
   clear hS hG hL hadd h0 h2 h6 h7 h20 h21 h22;rintro ρ w5 ⟨h0,h2,h6,h7,h20,h21,h22,s2,LC,hL,hadd,hG,hS⟩;rw[hrm]at hL hadd;refine V2 ?_;exact⟨i+1,_,rfl,⟨hlt,jY,jY,jY,jY,jY,jY,vi rfl oO,s2,LC,hL,hadd,hG,hS⟩,oO⟩
  ·refine J1 ?_;refine jt ?_;obtain rfl:i=f:=oO;rw[Oc]at hL hadd;exact⟨_,rfl,h0,h2,h6,h7,s1,LC,hL,hadd,hG,hS⟩
 clear hS hG hL;rintro ρ w4 ⟨h0,h2,h6,h7,s1,LC,hL,hadd,hG,hS⟩;refine J2 ?_;refine jp (ky rfl (hT _ [(b7,32,ke (ki lq)),ny br vc s1.r] LC hS).sl ⟨_,Tryz.underlying109⟩ ?_);refine V1 ?_;by_cases hlt:f<T.length
 ·refine lu rfl (ai (by rw[hzl];omega)) ?_;refine ja ?_;obtain⟨t,ht⟩:=jz (T.getD f sw);rw[aj hlt,<-ht]at htl;have htm:t∈T:=by rw[ht];exact kO _ _ _ hlt
  have hz:=hT0.Pr hlt;rw[<-ht]at hz;obtain⟨pv,hpv⟩:=jz (vs.getD f undef);rw[<-hpv]at hz;have hlt2:lq<t.sm:=by rw[hlq,ht,hf];exact GC (by rw[<-hf];exact hlt)
  have hl0:0<=lq:=by rw[hlq];exact Gy hok.s hm0
  have hsm:L t.sm+1<=yb T:=by rw[ht];exact zP T hlt
  rw[htl]at hL hadd;refine ja ?_;refine kK [jo 0,jo 1,jo 2,jo 3,ju 4,ju 5,jw 6] kR kR hS ?_;intro wz10 hS hBz10;refine J3 ?_;refine jl rfl (ks (i:=f) rfl rfl (hT _ [(b7,32,ke (ki lq)),ny br vc s1.r] LC hS).sl oO oO sG (jm rfl (kC (v:=za t pv) (i:=f) (sw,undef) rfl tq (hT _ [(b7,32,ke (ki lq)),ny br vc s1.r] LC hS).sl oO rfl (by rw[hz];rfl) (.inl rfl) ?_)));refine J1 ?_;refine jx rfl (kf Tryz.call132 rfl (EI br n vc pv s1 t lq ((b7,32,ke (ki lq))::H) LC w0 _ hG (hS.perm (bQ _ (List.Perm.swap _ _ _))) (λwx A B h=>by rw[hpv,ht];exact(hT wx (A++[(b7,32,ke (ki lq))]) B (by rw[aG A];exact h)).ps f hlt) (hok.p t htm) (by intro g;rw[g]at hlt2;grind) hL oO (λp hp=>by have:=hLp t htm p hp;have:=zk lq t.sm;omega)) ?_);rintro r w6 ⟨rfl,LC',hG,hS⟩;refine ja ?_;rw[hadd]at hG hS;exact qv rfl ⟨rfl,LC',hG,hS.drop (bk (List.Sublist.cons_cons _ (ab _ _)) (bI _))⟩
 ·refine lH rfl (ae (by rw[hzl];omega)) ?_;refine ja ?_;rw[ah hlt]at htl;rw[htl]at hadd;replace hadd:s1=fin:=hadd;subst hadd;exact qv rfl ⟨rfl,LC,hG,hS.drop (ab _ _)⟩
theorem Eu (br n:Nat) (vc v:Value) (T:List Tr) (vs:List Value) (m rate:Rat) (s:Rs) (H LC:List lj) (w0 w:World) (hT:∀wx A B,St w0 wx ((A++H)++B)->II wx v T vs) (hG:Gl ke 32 3 vc (kD n λk=>ki (s.c k)) LC) (hS:St w0 w ((ny br vc s.r::H)++LC)) (hok:Jc n T)
  (hm0:0<=m) (hK:2*(L m+yb T+2)<=MX) (hL:Bk n MX s (qV T m rate)) (hLr:L rate+yb T<=MX) (hLp:∀t∈T,∀p∈t.ps,L p.q+L rate+2*yb T+2<=MX):
  mb Tryz.prog 136 #[v,lC (ki m),lC (ki rate),.pointer (some ⟨br,0,none⟩)] w λu w'=>u= .tuple #[]/\∃LC',Gl ke 32 3 vc (kD n λk=>ki ((rj s (qV T m rate)).c k)) LC'/\St w0 w' ((ny br vc (rj s (qV T m rate)).r::H)++LC'):=by
 have hT0:=hT w [ny br vc s.r] LC hS;have hzl:=hT0.PF;have hmx:=hT0.sl.maxLen;rw[hzl]at hmx;obtain⟨f,hf⟩:=jz (mD T m);have hfl:f<=T.length:=by rw[hf];exact tJ T m
 refine enter Tryz.func136 rfl Tryz.ntmps136 rfl ?_;refine jr ?_;refine jh (lx (new:=ke (ki m)) rfl rfl hS ?_);intro b5 wz1 hS hBz1;refine jh (lx (new:=ke (ki rate)) rfl rfl hS ?_);intro b6 wz2 hS hBz2;refine ja ?_;replace hS:St w0 _ (([(b6,32,ke (ki rate)),(b5,32,ke (ki m)),ny br vc s.r]++H)++LC):=hS;refine J2 ?_;refine jh (kf Tryz.call130 rfl (An v T vs m _ (hT _ [(b6,32,ke (ki rate)),(b5,32,ke (ki m)),ny br vc s.r] LC hS) hK) ?_);rintro r w3 ⟨rfl,hB3⟩;rw[<-hf];replace hS:=hS.kx hB3;refine J4 ?_;intro b9 wz3 hS hBz3;refine J2 ?_;intro wz4 hS;refine ja ?_;replace hS:St w0 _ (([(b9,32,ke (ki (r9 T m))),(b6,32,ke (ki rate)),(b5,32,ke (ki m)),ny br vc s.r]++H)++LC):=hS;have hpm:∀x y z u:lj,([x,y,z,u]++H).Perm ([y,u]++(x::z::H)):=λx y z u=>(List.Perm.swap y x _).trans (List.Perm.cons y ((List.Perm.cons x (List.Perm.swap u z H)).trans (List.Perm.swap u x _)));replace hS:St w0 _ (([(b6,32,ke (ki rate)),ny br vc s.r]++H)++LC):=(hS.perm (bQ _ (hpm _ _ _ _))).drop (bk (bk (bI _) ((ab _ _).trans (ab _ _))) (bI _));refine ja ?_;refine nk (λρ'=>ρ' 0=v/\ρ' 3= .pointer (some ⟨br,0,none⟩)/\ρ' 6= .pointer (some ⟨b6,0,none⟩)/\ρ' 8= .int .i64 f/\True) ⟨rfl,rfl,rfl,rfl,trivial⟩ ?_;rintro ρk5 ⟨hk5_0,hk5_3,hk5_6,hk5_8,-⟩;refine J2 ?_;refine jp (ky rfl (hT _ [(b6,32,ke (ki rate)),ny br vc s.r] LC hS).sl ⟨_,Tryz.underlying109⟩ ?_);refine V1 ?_;by_cases hlt:f<T.length
 ·refine lu rfl (ai (by rw[hzl];omega)) ?_;refine ja ?_;obtain⟨t,ht⟩:=jz (T.getD f sw);have htm:t∈T:=by rw[ht];exact kO _ _ _ hlt
  have hz:=hT0.Pr hlt;rw[<-ht]at hz;obtain⟨pv,hpv⟩:=jz (vs.getD f undef);rw[<-hpv]at hz;have hlt2:r9 T m<t.sm:=by rw[ht,hf];exact GC (by rw[<-hf];exact hlt)
  have hl0:0<=r9 T m:=Gy hok.s hm0;have hsm:L t.sm+1<=yb T:=by rw[ht];exact zP T hlt
  have htl:qV T m rate=Gr t rate:=by unfold qV;rw[<-hf,aj hlt,ht]
  rw[htl]at hL⊢;refine ja ?_;refine kK [jo 0,jo 1,jo 2,jo 3,ju 4,ju 5,jw 6] kR kR hS ?_;intro wz6 hS hBz6;refine J3 ?_;refine jl rfl (ks (i:=f) rfl rfl (hT _ [(b6,32,ke (ki rate)),ny br vc s.r] LC hS).sl oO oO sG (jm rfl (kC (v:=za t pv) (i:=f) (sw,undef) rfl tq (hT _ [(b6,32,ke (ki rate)),ny br vc s.r] LC hS).sl oO rfl (by rw[hz];rfl) (.inl rfl) ?_)));refine J1 ?_;refine jx rfl (kf Tryz.call132 rfl (EI br n vc pv s t rate ((b6,32,ke (ki rate))::H) LC w0 _ hG (hS.perm (bQ _ (List.Perm.swap _ _ _))) (λwx A B h=>by rw[hpv,ht];exact(hT wx (A++[(b6,32,ke (ki rate))]) B (by rw[aG A];exact h)).ps f hlt) (hok.p t htm) (by intro g;rw[g]at hlt2;grind) hL oO (λp hp=>by have:=hLp t htm p hp;have:=zk rate t.sm;omega)) ?_);rintro r w6 ⟨rfl,LC',hG,hS⟩;refine ja ?_;exact qv rfl ⟨rfl,LC',hG,hS.drop (bk (List.Sublist.cons_cons _ (ab _ _)) (bI _))⟩
 ·refine lH rfl (ae (by rw[hzl];omega)) ?_;refine ja ?_;have htl:qV T m rate=[]:=by unfold qV;rw[<-hf,ah hlt]
  rw[htl];exact qv rfl ⟨rfl,LC,hG,hS.drop (ab _ _)⟩
theorem L4 (v:Value) (T:List Tr) (vs:List Value) (m:Rat) (w:World) (hT:II w v T vs) (hK:2*(L m+yb T+2)<=MX):
  mb Tryz.prog 177 #[v,lC (ki m)] w λr w'=>r=(if mD T m<T.length then .tuple #[lC (ki ((T.getD (mD T m) sw).sm-r9 T m)),.bool true]else .tuple #[lC kZ,.bool false])/\Below w.heap.size w w':=by
 have hzl:=hT.PF;obtain⟨f,hf⟩:=jz (mD T m);have hfl:f<=T.length:=by rw[hf];exact tJ T m
 have hLq:=F8 T m (tJ T m);have hS:=St.init w;refine enter Tryz.func177 rfl Tryz.ntmps177 rfl ?_;refine jr ?_;refine jh (lx (new:=ke (ki m)) rfl rfl hS ?_);intro b3 wz1 hS hBz1;refine J1 ?_;intro b4 wz2 hS hBz2;refine J3 ?_;refine jh (kf Tryz.call130 rfl (An v T vs m _ (hT.kb hS.kb) hK) ?_);rintro r w3 ⟨rfl,hB3⟩;rw[<-hf];replace hS:=hS.kx hB3;refine J4 ?_;intro b7 wz3 hS hBz3;refine J2 ?_;intro wz4 hS;refine ja ?_;replace hS:St w _ [(b7,32,ke (ki (r9 T m))),(b4,32,ke kZ),(b3,32,ke (ki m))]:=hS;refine ja ?_;refine nk (λρ'=>ρ' 0=v/\ρ' 4= .pointer (some ⟨b4,0,none⟩)/\ρ' 5= .bool false/\ρ' 6= .int .i64 f/\ρ' 7= .pointer (some ⟨b7,0,none⟩)/\True) ⟨rfl,rfl,rfl,rfl,rfl,trivial⟩ ?_;rintro ρk5 ⟨hk5_0,hk5_4,hk5_5,hk5_6,hk5_7,-⟩;refine J2 ?_;refine jp (ky rfl (hT.sl.kb hS.kb) ⟨_,Tryz.underlying109⟩ ?_);refine V1 ?_;by_cases hlt:f<T.length
 ·rw[aj hlt];refine lH rfl (ae (by rw[hzl];omega)) ?_;refine ja ?_;have hz:=hT.Pr hlt;have hsm:=zP T hlt;obtain⟨lq,hlq⟩:=jz (r9 T m);change L (r9 T m)<=_ at hLq;rw[<-hlq]at hLq hS⊢;obtain⟨pv,hpv⟩:=jz (vs.getD f undef);rw[<-hpv]at hz;obtain⟨t,ht⟩:=jz (T.getD f sw);rw[<-ht]at hz hsm⊢;refine ja ?_;refine kK [jo 0,jo 1,jo 2,jo 3,ju 4,ju 5,jv 6,jw 7,jo 8] kR kR hS ?_;intro wz6 hS hBz6;refine J2 ?_;refine jl rfl (ks (i:=f) rfl rfl (hT.sl.kb hS.kb) oO oO sG ?_);refine jl rfl (lU rfl (lG (hT.sl.kb hS.kb) (λ_=>rfl) dD oO) Cb ?_);refine jm rfl (lV (i:=f) (off:=1) (v:=lC (ki t.sm)) (sw,undef) rfl kt (hT.sl.kb hS.kb) (λ_=>rfl) dD oO rfl (by rw[hz];rfl) (.inl rfl) ?_);refine J1 ?_;refine jn rfl (kf Tryz.call16 rfl (mI (ki t.sm) (ki lq) _ (by rw[Lr_ofQ,Lr_ofQ];omega)) ?_);rintro r w4 ⟨rfl,hB4⟩;refine⟨hB4,?_⟩;rw[toQ_ofQ,toQ_ofQ];replace hS:=hS.kx hB4;refine J1 ?_;intro wz7 hS;refine J1 ?_;refine jt ?_;refine nG (k:=1) rfl hk5_4 rfl kt hS rfl rfl ?_;exact⟨rfl,hS.kb⟩
 ·rw[ah hlt];refine lu rfl (ai (by rw[hzl];omega)) ?_;refine jr ?_;refine jp (lr rfl pM ?_);refine J1 ?_;intro wz8 hS;refine J1 ?_;refine jt ?_;refine nG (k:=1) rfl hk5_4 rfl kt hS rfl rfl ?_;exact⟨rfl,hS.kb⟩
structure Pl where
 mem:List Nat
 ld:List Tr
structure Ly where
 n:Nat
 rk:List Tr
 pl:List Pl
 tot:Rat
def wP:Pl:=⟨[],[]⟩
def rM:Value×Value:=(undef,undef)
def Cp (p:Value×Value):List Value:=[p.1,p.2]
structure Wa (w:World) (v:Value) (P:List Pl) (pv:List (Value×Value)) (lv:List (List Value)):Prop where
 len:pv.length=P.length
 sl:Sl Cp 2 w v pv
 mem:∀i,i<P.length->Sl tv 1 w (pv.getD i rM).1 (nI (P.getD i wP).mem)
 ld:∀i,i<P.length->II w (pv.getD i rM).2 (P.getD i wP).ld (lv.getD i [])
theorem Wa.kb {w w':World} {v:Value} {P:List Pl} {pv:List (Value×Value)} {lv:List (List Value)} (h:Wa w v P pv lv) (hb:Below w.heap.size w w'):Wa w' v P pv lv:=⟨h.len,h.sl.kb hb,λi hi=>(h.mem i hi).kb hb,λi hi=>(h.ld i hi).kb hb⟩
def NE (n:Nat) (vR vP:Value) (tot:Rat):Value:= .agg #[.int .i64 n,vR,vP,.bool (ki tot).neg,.string (ki tot).num,.string (ki tot).den]
def qb (n:Nat) (vR vP:Value) (tot:Rat):List Value:= .int .i64 n::vR::vP::ke (ki tot)
structure QF (w:World) (vR vP:Value) (y:Ly) (vs:List Value) (pv:List (Value×Value)) (lv:List (List Value)):Prop where
 rk:II w vR y.rk vs
 pl:Wa w vP y.pl pv lv
theorem QF.kb {w w':World} {vR vP:Value} {y:Ly} {vs:List Value} {pv:List (Value×Value)} {lv:List (List Value)} (h:QF w vR vP y vs pv lv) (hb:Below w.heap.size w w'):QF w' vR vP y vs pv lv:=⟨h.rk.kb hb,h.pl.kb hb⟩
def oJ (mem:List Nat) (f:Nat->Rat):Rat:=(mem.map f).foldl (· + ·) 0
theorem EE (mem:List Nat) (i:Nat) (f:Nat->Rat):oJ (mem++[i]) f=oJ mem f+f i:=by unfold oJ;rw[bS,eI];rfl
def GR (mem:List Nat) (f:Nat->Rat):Nat:=(mem.map λi=>L (f i)+1).sum
theorem Pj (mem:List Nat) (f:Nat->Rat):∀k,k<=mem.length->L (oJ (mem.take k) f)<=GR (mem.take k) f+1
 |0,_=>by rw[ft];show L 0<=_;rw[oz];omega
 |k+1,h=>by
  have ih:=Pj mem f k oO;rw[lT mem k 0 h,EE];have:=Bi (oJ (mem.take k) f) (f (mem.getD k 0));have e:GR (mem.take k++[mem.getD k 0]) f=GR (mem.take k) f+(L (f (mem.getD k 0))+1):=by unfold GR;rw[bS,iU];rfl
  rw[e];omega
theorem OW (mem:List Nat) (f:Nat->Rat) (k:Nat):GR (mem.take k) f<=GR mem f:=by
 have e:GR mem f=GR (mem.take k) f+GR (mem.drop k) f:=by
  unfold GR;rw[<-iU,<-bS,dc]
 omega
theorem uT (vm vl va:Value) (mem:List Nat) (n:Nat) (f:Nat->Rat) (w:World) (hM:Sl tv 1 w vm (nI mem)) (hA:Sl ke 3 w va (kD n λk=>ki (f k))) (hm:∀i∈mem,i<n) (hK:GR mem f+1<=MX):
  mb Tryz.prog 88 #[.agg #[vm,vl],va] w λr w'=>r=lC (ki (oJ mem f))/\Below w.heap.size w w':=by
 have hmx:=hM.maxLen;have hnl:=sn mem;have htl:=kj n λk=>ki (f k);have hS:=St.init w;have hz:ke kZ=ke (ki (oJ (mem.take 0) f)):=by rw[lL];rfl
 refine enter Tryz.func88 rfl Tryz.ntmps88 rfl ?_;refine jr ?_;refine jh (lx (new:=[vm,vl]) rfl rfl hS ?_);intro b2 wz1 hS hBz1;refine J1 ?_;intro b4 wz2 hS hBz2;refine jr ?_;refine jp (lr rfl pM ?_);refine J1 ?_;intro b5 wz3 hS hBz3;refine J1 ?_;intro wz4 hS;refine ja ?_;replace hS:St w _ [(b5,32,ke kZ),(b4,32,ke kZ),(b2,160,[vm,vl])]:=hS;rw[hz]at hS;refine J2 ?_;refine jp (ky rfl (hM.kb hS.kb) ⟨_,Tryz.underlying46⟩ ?_);refine J1 ?_;refine jb ?_;rw[hnl];refine kG (λρ w'=>ρ 4=pB b4/\ρ 5=pB b5/\∃x,St w w' [(b5,32,ke (ki (oJ mem f))),(b4,32,x)]/\x.length=3) ?_ ?_
 ·refine ja ?_;refine kF (σ:=Nat) (λk ρ w'=>k<=mem.length/\ρ 1=va/\ρ 4=pB b4/\ρ 5=pB b5/\ρ 10=vm/\ρ 11=iB mem.length/\ρ 12=iB k/\∃x,St w w' [(b5,32,ke (ki (oJ (mem.take k) f))),(b4,32,x)]/\x.length=3) (λk=>mem.length-k) 0
   ⟨aw _,rfl,rfl,rfl,rfl,rfl,rfl,_,hS.drop (ap [_,_] [_]),rfl⟩ ?_
  clear hS hz;rintro k ρ w2 ⟨hk,h1,h4,h5,h10,h11,h12,x,hS,hx⟩;refine V1 ?_;by_cases hlt:k<mem.length
  ·refine V1 ?_;obtain⟨i,hi⟩:=jz (mem.getD k 0);have hin:i<n:=hm i (by rw[hi];exact kO _ _ _ hlt);have hni:(nI mem).getD k 0=(i:Int):=by unfold nI;rw[getD_map _ _ 0 _ hlt,hi]
   have hgi:(kD n λk=>ki (f k)).getD i kZ=ki (f i):=kB _ _ hin;have ht:=lT mem k 0 hlt;rw[<-hi]at ht;have h1':=Pj mem f k hk;have h2':=OW mem f (k+1);have h3':GR (mem.take (k+1)) f=GR (mem.take k) f+(L (f i)+1):=by rw[ht];unfold GR;rw[bS,iU];rfl
   refine jr ?_;refine jp (ks (i:=k) h10 h12 (hM.kb hS.kb) oO dO p7 (jq (kC (i:=k) 0 rfl mR (hM.kb hS.kb) dO rfl rfl (.inr rfl) ?_)));refine V1 ?_;rw[hni];refine ja ?_;refine kK [ju 0,jo 1,jo 2,jo 3,ju 4,jv 5,jw 6] kR kR hS ?_;intro wz5 hS hBz5;refine J3 ?_;refine jl rfl (ks (i:=i) rfl rfl (hA.kb hS.kb) oO dO kW (jm rfl (kC (i:=i) kZ rfl kt (hA.kb hS.kb) dO rfl rfl (.inl rfl) ?_)));refine jn rfl (kf Tryz.call18 rfl (ou (ki (oJ (mem.take k) f)) ((kD n λk=>ki (f k)).getD i kZ) _ (by rw[hgi,Lr_ofQ,Lr_ofQ];omega)) ?_);rintro r w3 ⟨rfl,hB3⟩;refine⟨hB3,?_⟩;rw[hgi,toQ_ofQ,toQ_ofQ,<-EE,<-ht];replace hS:=hS.kx hB3;refine J1 ?_;intro wz6 hS;refine V2 ?_;exact⟨k+1,_,rfl,⟨hlt,h1,h4,h5,h10,h11,vi rfl oO,x,hS,hx⟩,oO⟩
  ·refine J1 ?_;refine jt ?_;obtain rfl:k=mem.length:=oO;rw[bO]at hS;exact⟨_,rfl,h4,h5,x,hS,hx⟩
 clear hS;rintro ρ w2 ⟨h4,h5,x,hS,hx⟩;obtain⟨x0,x1,x2,rfl⟩:∃a b c,x=[a,b,c]:=by
  match x,hx with
  | [a,b,c],_=>exact⟨a,b,c,rfl⟩
 refine J2 ?_;intro wz7 hS;refine jt ?_;refine mA (k:=1) rfl h4 kt hS rfl rfl ?_;exact⟨rfl,hS.kb⟩
theorem HP (vo:Value) (l:List RR) (w:World) (ho:Sl ke 3 w vo l) (hl:l.length<=1000000):
  mb Tryz.prog 47 #[vo] w λr w'=>∃LO,Gl ke 32 3 r l LO/\St w w' ([]++LO):=by
 obtain⟨a,c,rfl,h1,h2,h3⟩:=ho.form;have hS:=St.init w;have hW:=hS.kb;refine enter Tryz.func47 rfl Tryz.ntmps47 rfl ?_;refine J2 ?_;refine jp (BY rfl rfl (ht:=⟨_,Tryz.underlying34⟩) ?_);refine ja ?_;cases a with
 |none=>
  refine lu rfl (rfl) ?_;refine J1 ?_;refine jt ?_;refine kJ rfl rfl ?_;have:=h3 rfl;obtain rfl:l=[]:=cB oO;exact⟨[],Gl.nil _ _ _,hS⟩
 |some a=>
  refine lH rfl (rfl) ?_;refine jr ?_;refine jh (Ow kW hS ?_);intro b5 wz1 hS hBz1;refine J1 ?_;refine jh (FL rfl rfl kW dD (H:=[]) (Gl.OB (z:=ke kZ) (n:=0) rfl dD) hS (ho.kb hS.kb) kA (uZ l) (by simp;omega) (by simp;omega) ?_);intro va2 La2 wa2 hG hS hga2 hgu2;refine J1 ?_;refine jt ?_;refine kJ rfl rfl ?_;exact⟨_,hG,hS⟩
def zf:Rs:=⟨λ_=>0,0⟩
def lP (y:Ly) (m:Rat):Nat->Rat:=(rj zf (rJ y.rk m)).c
def mH (y:Ly) (m:Rat):Nat->Rat:=(rj zf (qV y.rk m 1)).c
theorem Cw (a:Option Addr) (n c:Nat):Tryz.prog.built 167 [(0,.slice a n c)]=some #[.slice a n c,.bool false,.string ⟨#[]⟩,.string ⟨#[]⟩]:=by kernel_rfl
theorem lQ (n:Nat):List.replicate n kZ=kD n λk=>ki (zf.c k):=by rw[ur];exact kN λ_ _=>by show kZ=ki 0;rw[oD];rfl
theorem qe {b n:Nat} {t:TypeId} {X:List RR} (hn:X.length=n) (hm:n<=9223372036854775807):Gl ke t 3 (.slice (some ⟨b,0,none⟩) n n) X [(b,t,X.flatMap ke)]:=
 ⟨lO kA _,.inr ⟨b,n,[],by rw[hn],by rw[aK],oO,by unfold Go.maxLen;omega,by rw[aK,lO kA,hn]⟩⟩
theorem zU (vR vP:Value) (y:Ly) (vs:List Value) (m:Rat) (w:World) (hR:II w vR y.rk vs) (hn:y.n<=1000000) (hok:Jc y.n y.rk) (hm0:0<=m) (hK:2*(L m+yb y.rk+2)<=MX) (hL:Bk y.n MX zf (rJ y.rk m)) (hLp:∀t∈y.rk,∀p∈t.ps,L p.q+L m+2*yb y.rk+2<=MX):
  mb Tryz.prog 49 #[NE y.n vR vP y.tot,lC (ki m)] w λr w'=>∃LO,Gl ke 32 3 r (kD y.n λk=>ki (lP y m k)) LO/\St w w' LO:=by
 have hS:=St.init w;obtain⟨n,hn'⟩:∃n,n=y.n:=⟨_,rfl⟩;rw[<-hn']at hn hok hL⊢;refine enter Tryz.func49 rfl Tryz.ntmps49 rfl ?_;refine jr ?_;refine jh (lx (new:=qb n vR vP y.tot) rfl rfl hS ?_);intro b2 wz1 hS hBz1;refine jh (lx (new:=ke (ki m)) rfl rfl hS ?_);intro b3 wz2 hS hBz2;refine J3 ?_;refine jh (mq (enc:=ke) (n:=n) kZ rfl rfl kW rfl oO oO oO oO hS ?_);intro b8 wz3 hS hBz3;refine jp (lr rfl (Cw _ _ _) (jh (lx (new:= .slice (some ⟨b8,0,none⟩) n n::ke kZ) rfl rfl hS ?_)));intro b10 wz4 hS hBz4;refine V1 ?_;replace hS:St w _ ((b10,167,.slice (some ⟨b8,0,none⟩) n n::ke kZ)::(b8,32,(List.replicate n kZ).flatMap ke)::[(b3,32,ke (ki m)),(b2,112,qb n vR vP y.tot)]):=hS;rw[lQ,lL]at hS;have hG:Gl ke 32 3 (.slice (some ⟨b8,0,none⟩) n n) (kD n λk=>ki (zf.c k)) [(b8,32,(kD n λk=>ki (zf.c k)).flatMap ke)]:=qe (kj _ _) oO;replace hS:St w _ ((ny b10 (.slice (some ⟨b8,0,none⟩) n n) zf.r::[(b3,32,ke (ki m)),(b2,112,qb n vR vP y.tot)])++[(b8,32,(kD n λk=>ki (zf.c k)).flatMap ke)]):=hS.perm (List.Perm.cons _ (ay (l₁:=[_])));refine J4 ?_;refine jh (kf Tryz.call87 rfl (La b10 n _ vR y.rk vs m zf [(b3,32,ke (ki m)),(b2,112,qb n vR vP y.tot)] _ w _ (λwx A B h=>hR.kb h.kb) hG hS hok hm0 hK hL hLp) ?_);rintro r w3 ⟨rfl,LC,hG,hS⟩;refine J1 ?_;refine jp (nc rfl ?_);refine J3 ?_;refine jt ?_;refine kJ rfl rfl ?_;exact⟨LC,hG,hS.drop (ao _ _)⟩
theorem Ho (vR vP:Value) (y:Ly) (vs:List Value) (m:Rat) (w:World) (hR:II w vR y.rk vs) (hn:y.n<=1000000) (hok:Jc y.n y.rk) (hm0:0<=m) (hK:2*(L m+yb y.rk+2)<=MX) (hL:Bk y.n MX zf (qV y.rk m 1)) (hLp:∀t∈y.rk,∀p∈t.ps,L p.q+2*yb y.rk+3<=MX):
  mb Tryz.prog 135 #[NE y.n vR vP y.tot,lC (ki m)] w λr w'=>∃LO,Gl ke 32 3 r (kD y.n λk=>ki (mH y m k)) LO/\St w w' LO:=by
 have hS:=St.init w;have hL1:L 1<=1:=FG (n:=1) dD;obtain⟨n,hn'⟩:∃n,n=y.n:=⟨_,rfl⟩;rw[<-hn']at hn hok hL⊢;refine enter Tryz.func135 rfl Tryz.ntmps135 rfl ?_;refine jr ?_;refine jh (lx (new:=qb n vR vP y.tot) rfl rfl hS ?_);intro b2 wz1 hS hBz1;refine jh (lx (new:=ke (ki m)) rfl rfl hS ?_);intro b3 wz2 hS hBz2;refine J3 ?_;refine jh (mq (enc:=ke) (n:=n) kZ rfl rfl kW rfl oO oO oO oO hS ?_);intro b8 wz3 hS hBz3;refine jp (lr rfl (Cw _ _ _) (jh (lx (new:= .slice (some ⟨b8,0,none⟩) n n::ke kZ) rfl rfl hS ?_)));intro b10 wz4 hS hBz4;refine V1 ?_;replace hS:St w _ ((b10,167,.slice (some ⟨b8,0,none⟩) n n::ke kZ)::(b8,32,(List.replicate n kZ).flatMap ke)::[(b3,32,ke (ki m)),(b2,112,qb n vR vP y.tot)]):=hS;rw[lQ,lL]at hS;have hG:Gl ke 32 3 (.slice (some ⟨b8,0,none⟩) n n) (kD n λk=>ki (zf.c k)) [(b8,32,(kD n λk=>ki (zf.c k)).flatMap ke)]:=qe (kj _ _) oO;replace hS:St w _ ((ny b10 (.slice (some ⟨b8,0,none⟩) n n) zf.r::[(b3,32,ke (ki m)),(b2,112,qb n vR vP y.tot)])++[(b8,32,(kD n λk=>ki (zf.c k)).flatMap ke)]):=hS.perm (List.Perm.cons _ (ay (l₁:=[_])));refine ja ?_;refine kK [jo 0,ju 1,ju 2,jo 4,jv 3,jw 5] kR kR hS ?_;intro wz5 hS hBz5;refine J4 ?_;refine jn rfl (kf Tryz.call33 rfl (mY 1 _ dD dD) ?_);rintro r w2 ⟨rfl,hB2⟩;refine⟨hB2,?_⟩;rw[show((1:Int):Rat)=1 from rfl];replace hS:=hS.kx hB2;refine jx rfl (kf Tryz.call136 rfl (Eu b10 n _ vR y.rk vs m 1 zf [(b3,32,ke (ki m)),(b2,112,qb n vR vP y.tot)] _ w _ (λwx A B h=>hR.kb h.kb) hG hS hok hm0 hK hL oO (λt ht p hp=>by have:=hLp t ht p hp;omega)) ?_);rintro r w3 ⟨rfl,LC,hG,hS⟩;refine J1 ?_;refine jp (nc rfl ?_);refine J3 ?_;refine jt ?_;refine kJ rfl rfl ?_;exact⟨LC,hG,hS.drop (ao _ _)⟩
def D4 (Z:List Nat) (f:Nat->Rat) (k:Nat):Rat:=if k∈Z then 0 else f k
def rG (y:Ly) (f:Nat->Rat):Nat->Rat:=D4 (y.pl.flatMap Pl.mem) f
theorem pK:kZ=ki 0:=by rw[oD];rfl
theorem O5 (n:Nat) (Z:List Nat) (f:Nat->Rat) (i:Nat):(kD n λk=>ki (D4 Z f k)).set i kZ=kD n λk=>ki (D4 (Z++[i]) f k):=by
 rw[mZ];refine kN λk _=> ?_;unfold D4;by_cases h:k=i
 ·rw[aj h,aj (by rw[h];simp),pK]
 ·rw[ah h];have:k∈Z++[i]↔k∈Z:=by simp[h]
  simp only[this]
theorem Mr {α β:Type} (l:List α) (d:α) (f:α->List β) {i:Nat} (h:i<l.length):(l.take (i+1)).flatMap f=(l.take i).flatMap f++f (l.getD i d):=by
 rw[lT l i d h,du,cj,gP,aK]
theorem GT (vR vP va:Value) (y:Ly) (pv:List (Value×Value)) (lv:List (List Value)) (f:Nat->Rat) (w:World) (hP:Wa w vP y.pl pv lv) (hA:Sl ke 3 w va (kD y.n λk=>ki (f k))) (hm:∀p∈y.pl,∀i∈p.mem,i<y.n) (hn:y.n<=1000):
  mb Tryz.prog 86 #[NE y.n vR vP y.tot,va] w λr w'=>∃br vc LC,r= .pointer (some ⟨br,0,none⟩)/\Gl ke 32 3 vc (kD y.n λk=>ki (rG y f k)) LC/\St w w' ([ny br vc 0]++LC):=by
 have hS:=St.init w;obtain⟨n,hn'⟩:∃n,n=y.n:=⟨_,rfl⟩;rw[<-hn']at hn hA hm⊢;have htl:=kj n λk=>ki (f k);have hpm:=hP.sl.maxLen;have hpl:=hP.len;rw[hpl]at hpm;refine enter Tryz.func86 rfl Tryz.ntmps86 rfl ?_;refine jr ?_;refine jh (lx (new:=qb n vR vP y.tot) rfl rfl hS ?_);intro b2 wz1 hS hBz1;refine J2 ?_;refine jh (kf Tryz.call47 rfl (HP va _ _ (hA.kb hS.kb) oO) ?_);rintro r w3 ⟨LC,hG,hS3⟩;replace hS:=hS.join hS3;obtain⟨a,c,rfl⟩:=hG.len;rw[htl]at hG⊢;refine jp (lr rfl (Cw _ _ _) (jh (lx (new:= .slice a n c::ke kZ) rfl rfl hS ?_)));intro b5 wz2 hS hBz2;refine V1 ?_;replace hS:St w _ ((b5,167,.slice a n c::ke kZ)::(LC++[(b2,112,qb n vR vP y.tot)])):=hS;replace hS:St w _ ([(b5,167,.slice a n c::ke kZ),(b2,112,qb n vR vP y.tot)]++LC):=hS.perm (List.Perm.cons _ ay);rw[lL]at hS;refine ja ?_;refine nk (λρ'=>ρ' 2= .pointer (some ⟨b2,0,none⟩)/\ρ' 5= .pointer (some ⟨b5,0,none⟩)/\True) ⟨rfl,rfl,trivial⟩ ?_;rintro ρk3 ⟨hk3_2,hk3_5,-⟩;refine J2 ?_;refine jp (ky rfl (hP.kb hS.kb).sl ⟨_,Tryz.underlying110⟩ ?_);refine J1 ?_;refine jb ?_;rw[hpl];have hG0:Gl ke 32 3 (.slice a n c) (kD n λk=>ki (D4 ((y.pl.take 0).flatMap Pl.mem) f k)) LC:=hG;refine kG (λρ w'=>ρ 5=pB b5/\∃LC,Gl ke 32 3 (.slice a n c) (kD n λk=>ki (rG y f k)) LC/\St w w' ([ny b5 (.slice a n c) 0]++LC)) ?_ ?_
 ·refine ja ?_;refine kF (σ:=Nat) (λi ρ w'=>i<=y.pl.length/\ρ 5=pB b5/\ρ 15=vP/\ρ 16=iB y.pl.length/\ρ 17=iB i/\∃LC,Gl ke 32 3 (.slice a n c) (kD n λk=>ki (D4 ((y.pl.take i).flatMap Pl.mem) f k)) LC/\St w w' ([ny b5 (.slice a n c) 0]++LC)) (λi=>y.pl.length-i) 0
   ⟨aw _,jY,rfl,rfl,rfl,LC,hG0,hS.drop (bk (List.Sublist.cons_cons _ (gO _)) (bI _))⟩ ?_
  clear hS hG hG0;rintro i ρ w4 ⟨hi,h5,h15,h16,h17,LC,hG,hS⟩;refine V1 ?_;by_cases hlt:i<y.pl.length
  ·refine V1 ?_;obtain⟨p,hp⟩:=jz (y.pl.getD i wP);have hpm':p∈y.pl:=by rw[hp];exact kO _ _ _ hlt
   have hmi:=hP.mem i hlt;have hli:=(hP.ld i hlt).sl;obtain⟨v2,hv2⟩:=jz (pv.getD i rM);rw[<-hp,<-hv2]at hmi hli;obtain⟨ma,mc,hme,_⟩:=hmi.form;obtain⟨la,lc,hle,_⟩:=hli.form;obtain⟨u1,u2⟩:=v2;dsimp only at hmi hme hle;subst hme hle;have hnl:=sn p.mem;have hmm:=hmi.maxLen;rw[hnl]at hmm hmi hv2;have htf:=Mr y.pl wP Pl.mem hlt;rw[<-hp]at htf;refine jr ?_;refine jp (ks (i:=i) h15 h17 (hP.kb hS.kb).sl oO dO Ay (jq (kC (v:= .agg #[.slice ma p.mem.length mc,.slice la (p.ld.zip (lv.getD i [])).length lc]) (i:=i) rM rfl ri (hP.kb hS.kb).sl oO rfl (by rw[<-hv2];rfl) (.inl rfl) ?_)));refine J1 ?_;intro b7 wz4 hS hBz4;refine J1 ?_;intro wz5 hS;refine ja ?_;replace hS:St w _ ([(b7,160,[.slice ma p.mem.length mc,.slice la (p.ld.zip (lv.getD i [])).length lc]),ny b5 (.slice a n c) 0]++LC):=hS;refine J2 ?_;refine jp (ky rfl (hmi.kb hS.kb) ⟨_,Tryz.underlying46⟩ ?_);refine J1 ?_;refine jb ?_;rw[hnl];refine kG (λρ w'=>ρ 5=pB b5/\ρ 15=vP/\ρ 16=iB y.pl.length/\ρ 17=iB i/\∃LC,Gl ke 32 3 (.slice a n c) (kD n λk=>ki (D4 ((y.pl.take (i+1)).flatMap Pl.mem) f k)) LC/\St w w' ([ny b5 (.slice a n c) 0]++LC)) ?_ ?_
   ·rw[htf];obtain⟨Z,hZ⟩:=jz ((y.pl.take i).flatMap Pl.mem);rw[<-hZ]at hG⊢;have hG0:Gl ke 32 3 (.slice a n c) (kD n λk=>ki (D4 (Z++p.mem.take 0) f k)) LC:=by rw[ft,aK];exact hG
    refine ja ?_;refine kF (σ:=Nat) (λj ρ w'=>j<=p.mem.length/\ρ 5=pB b5/\ρ 15=vP/\ρ 16=iB y.pl.length/\ρ 17=iB i/\ρ 22= .slice ma p.mem.length mc/\ρ 23=iB p.mem.length/\ρ 24=iB j/\∃LC,Gl ke 32 3 (.slice a n c) (kD n λk=>ki (D4 (Z++p.mem.take j) f k)) LC/\St w w' ([ny b5 (.slice a n c) 0]++LC)) (λj=>p.mem.length-j) 0
     ⟨aw _,jY,jY,jY,jY,rfl,rfl,rfl,LC,hG0,hS.drop (ab _ _)⟩ ?_
    clear hS hG hG0 h5 h15 h16 h17;rintro j ρ w5 ⟨hj,h5,h15,h16,h17,h22,h23,h24,LC,hG,hS⟩;have htg:=kj n λk=>ki (D4 (Z++p.mem.take j) f k);refine V1 ?_;by_cases hjl:j<p.mem.length
    ·refine V1 ?_;obtain⟨k,hk⟩:=jz (p.mem.getD j 0);have hkn:k<n:=hm p hpm' k (by rw[hk];exact kO _ _ _ hjl);have hni:(nI p.mem).getD j 0=(k:Int):=by unfold nI;rw[getD_map _ _ 0 _ hjl,hk]
     have ht:=lT p.mem j 0 hjl;rw[<-hk]at ht;refine jr ?_;refine jp (ks (i:=j) h22 h24 (hmi.kb hS.kb) oO dO p7 (jq (kC (i:=j) 0 rfl mR (hmi.kb hS.kb) dO rfl rfl (.inr rfl) ?_)));refine V1 ?_;rw[hni];refine J1 ?_;refine jp (nc rfl ?_);refine J3 ?_;refine jp (lr rfl pM (jp (ks (i:=k) rfl rfl (hG.sl hS kA) oO dO kW (jh (ug (i:=k) kZ kA rfl rfl kt hG hS oO rfl rfl ?_)))));intro wz6 hS;refine ja ?_;obtain⟨LC2,hG,hS⟩:=hS;rw[O5,aG,<-ht]at hG;refine V2 ?_;exact⟨j+1,_,rfl,⟨hjl,jY,jY,jY,jY,jY,jY,vi rfl oO,LC2,hG,hS⟩,oO⟩
    ·refine J1 ?_;refine jt ?_;rw[aU oO]at hG;exact⟨_,rfl,h5,h15,h16,h17,LC,hG,hS⟩
   clear hS hG h5 h15 h16 h17;rintro ρ w5 ⟨h5,h15,h16,h17,LC,hG,hS⟩;refine V2 ?_;exact⟨i+1,_,rfl,⟨hlt,jY,jY,jY,vi rfl oO,LC,hG,hS⟩,oO⟩
  ·refine J1 ?_;refine jt ?_;obtain rfl:i=y.pl.length:=oO;rw[bO]at hG;exact⟨_,rfl,h5,LC,hG,hS⟩
 clear hS hG hG0;rintro ρ w4 ⟨h5,LC,hG,hS⟩;refine J2 ?_;refine jt ?_;refine kJ rfl rfl ?_;exact⟨b5,_,LC,rfl,hG,hS⟩
def VZ (y:Ly) (m:Rat) (s:Rs) (p:Pl):Rs:=rj s (rJ p.ld (oJ p.mem (lP y m)))
def te (y:Ly) (m:Rat) (i:Nat):Rs:=(y.pl.take i).foldl (VZ y m) ⟨rG y (lP y m),0⟩
def Vj (y:Ly) (m:Rat) (s:Rs) (p:Pl):Rs:=rj s (qV p.ld (oJ p.mem (lP y m)) (oJ p.mem (mH y m)))
def ss (y:Ly) (m:Rat) (i:Nat):Rs:=(y.pl.take i).foldl (Vj y m) ⟨rG y (mH y m),0⟩
theorem MP (y:Ly) (m:Rat) {i:Nat} (h:i<y.pl.length):te y m (i+1)=VZ y m (te y m i) (y.pl.getD i wP):=by
 unfold te;rw[lT y.pl i wP h,eI];rfl
theorem MF (y:Ly) (m:Rat) {i:Nat} (h:i<y.pl.length):ss y m (i+1)=Vj y m (ss y m i) (y.pl.getD i wP):=by
 unfold ss;rw[lT y.pl i wP h,eI];rfl
structure PZ (y:Ly) (m:Rat):Prop where
 n:y.n<=1000
 rk:Jc y.n y.rk
 m0:0<=m
 k:2*(L m+yb y.rk+2)<=MX
 l:Bk y.n MX zf (rJ y.rk m)
 lp:∀t∈y.rk,∀p∈t.ps,L p.q+L m+2*yb y.rk+2<=MX
 mem:∀p∈y.pl,∀i∈p.mem,i<y.n
 ld:∀p∈y.pl,Jc y.n p.ld
 s:∀p∈y.pl,GR p.mem (lP y m)+1<=MX
 p0:∀p∈y.pl,0<=oJ p.mem (lP y m)
 pk:∀p∈y.pl,2*(L (oJ p.mem (lP y m))+yb p.ld+2)<=MX
 pl:∀i,i<y.pl.length->Bk y.n MX (te y m i) (rJ (y.pl.getD i wP).ld (oJ (y.pl.getD i wP).mem (lP y m)))
 pp:∀p∈y.pl,∀t∈p.ld,∀q∈t.ps,L q.q+L (oJ p.mem (lP y m))+2*yb p.ld+2<=MX
structure GZ (y:Ly) (m:Rat):Prop where
 d:PZ y m
 l:Bk y.n MX zf (qV y.rk m 1)
 lp:∀t∈y.rk,∀p∈t.ps,L p.q+2*yb y.rk+3<=MX
 s:∀p∈y.pl,GR p.mem (mH y m)+1<=MX
 pl:∀i,i<y.pl.length->Bk y.n MX (ss y m i) (qV (y.pl.getD i wP).ld (oJ (y.pl.getD i wP).mem (lP y m)) (oJ (y.pl.getD i wP).mem (mH y m)))
 pr:∀p∈y.pl,L (oJ p.mem (mH y m))+yb p.ld<=MX
 pp:∀p∈y.pl,∀t∈p.ld,∀q∈t.ps,L q.q+L (oJ p.mem (mH y m))+2*yb p.ld+2<=MX
theorem WE {α:Type} (x:α) (A LC:List α):(([x]++LC)++A).Perm ((x::A)++LC):=List.Perm.cons _ ay
theorem yK (vR vP:Value) (y:Ly) (vs:List Value) (pv:List (Value×Value)) (lv:List (List Value)) (m:Rat) (w:World) (hY:QF w vR vP y vs pv lv) (hh:PZ y m):
  mb Tryz.prog 48 #[NE y.n vR vP y.tot,lC (ki m)] w λr w'=>∃v LO,r= .tuple #[v,lC (ki (te y m y.pl.length).r)]/\Gl ke 32 3 v (kD y.n λk=>ki ((te y m y.pl.length).c k)) LO/\St w w' LO:=by
 have hS:=St.init w;have hR:=hY.rk;have hP:=hY.pl;have hpm:=hP.sl.maxLen;have hpl:=hP.len;rw[hpl]at hpm;have hd:=hh;have hn:=hd.n;obtain⟨n,hn'⟩:∃n,n=y.n:=⟨_,rfl⟩;have hgross:=λw h=>zU vR vP y vs m w h oO hd.rk hd.m0 hd.k hd.l hd.lp;have htake:=λva w h1 h2=>GT vR vP va y pv lv (lP y m) w h1 h2 hd.mem hn;have hrk:=hd.rk;have hmem:=hd.mem;have hldo:=hd.ld;have hpl':=hd.pl;rw[<-hn']at hn hgross htake hmem hldo hpl'⊢;obtain⟨cl,hcl⟩:=jz (qb n vR vP y.tot);refine enter Tryz.func48 rfl Tryz.ntmps48 rfl ?_;refine jr ?_;refine jh (lx (new:=qb n vR vP y.tot) rfl rfl hS ?_);intro b2 wz1 hS hBz1;refine jh (lx (new:=ke (ki m)) rfl rfl hS ?_);intro b3 wz2 hS hBz2;refine J2 ?_;intro b5 wz3 hS hBz3;refine ja ?_;replace hS:St w _ [(b5,32,ke kZ),(b3,32,ke (ki m)),(b2,112,qb n vR vP y.tot)]:=hS;refine J2 ?_;refine jh (kf Tryz.call49 rfl (hgross _ (hR.kb hS.kb)) ?_);rintro vg w3 ⟨LG,hg,hB3⟩;replace hg:=hg.sl (H:=[]) hB3 kA;replace hB3:=hB3.kb;replace hS:=hS.kx hB3;refine V1 ?_;have hB0:=hS.kb;have hS0:=hS;have hP3:=hP.kb hB0;refine J2 ?_;refine jh (kf Tryz.call86 rfl (htake vg _ (hP.kb hS.kb) hg) ?_);rintro r w4 ⟨br,vc,LC,rfl,hG,hS4⟩;replace hS:St w _ ([ny br vc 0,(b5,32,ke kZ),(b3,32,ke (ki m)),(b2,112,qb n vR vP y.tot)]++LC):=(hS.join hS4).perm (WE _ _ _);refine V1 ?_;refine nk (λρ'=>ρ' 2= .pointer (some ⟨b2,0,none⟩)/\ρ' 5= .pointer (some ⟨b5,0,none⟩)/\ρ' 6=vg/\ρ' 7= .pointer (some ⟨br,0,none⟩)/\True) ⟨rfl,rfl,rfl,rfl,trivial⟩ ?_;rintro ρk4 ⟨hk4_2,hk4_5,hk4_6,hk4_7,-⟩;refine J2 ?_;refine jp (ky rfl (hP.kb hS.kb).sl ⟨_,Tryz.underlying110⟩ ?_);refine J1 ?_;refine jb ?_;rw[hpl];replace hS:=hS4;clear hS4;refine kG (λρ w'=>ρ 5=pB b5/\ρ 7=pB br/\∃LC,Gl ke 32 3 vc (kD n λk=>ki ((te y m y.pl.length).c k)) LC/\St w3 w' ([ny br vc (te y m y.pl.length).r]++LC)) ?_ ?_
 ·refine ja ?_;refine kF (σ:=Nat) (λi ρ w'=>i<=y.pl.length/\ρ 5=pB b5/\ρ 6=vg/\ρ 7=pB br/\ρ 17=vP/\ρ 18=iB y.pl.length/\ρ 19=iB i/\∃LC,Gl ke 32 3 vc (kD n λk=>ki ((te y m i).c k)) LC/\St w3 w' ([ny br vc (te y m i).r]++LC)) (λi=>y.pl.length-i) 0
   ⟨aw _,jY,jY,jY,rfl,rfl,rfl,LC,hG,hS⟩ ?_
  clear hS hG;rintro i ρ w6 ⟨hi,h5,h6,h7,h17,h18,h19,LC,hG,hS⟩;refine V1 ?_;by_cases hlt:i<y.pl.length
  ·refine V1 ?_;obtain⟨p,hp⟩:=jz (y.pl.getD i wP);have hpm':p∈y.pl:=by rw[hp];exact kO _ _ _ hlt
   have hmi:=hP3.mem i hlt;have hld:=hP3.ld i hlt;obtain⟨v2,hv2⟩:=jz (pv.getD i rM);obtain⟨lvi,hlvi⟩:=jz (lv.getD i []);rw[<-hp,<-hv2]at hmi hld;rw[<-hlvi]at hld;have hli:=hld.sl;obtain⟨ma,mc,hme,_⟩:=hmi.form;obtain⟨la,lc,hle,_⟩:=hli.form;obtain⟨u1,u2⟩:=v2;dsimp only at hmi hld hli hme hle;obtain⟨ll,hll⟩:=jz ((p.ld.zip lvi).length);rw[<-hll]at hle;obtain⟨ml,hml⟩:=jz ((nI p.mem).length);rw[<-hml]at hme;subst hme hle;have hsucc:=MP y m hlt;have hplx:=hpl' i hlt;rw[<-hp]at hsucc hplx;refine jr ?_;refine jp (ks (i:=i) h17 h19 (hP3.kb hS.kb).sl oO dO Ay (jq (kC (v:= .agg #[.slice ma ml mc,.slice la ll lc]) (i:=i) rM rfl ri (hP3.kb hS.kb).sl oO rfl (by rw[<-hv2];rfl) (.inl rfl) ?_)));refine J1 ?_;intro b9 wz5 hS hBz5;refine J1 ?_;intro wz6 hS;refine ja ?_;replace hS:St w3 _ ([(b9,160,[.slice ma ml mc,.slice la ll lc]),ny br vc (te y m i).r]++LC):=hS;refine ja ?_;refine kK [jo 0,ju 1,ju 2,jo 3,jo 5,jv 4,jw 6] kR kR hS ?_;intro wz7 hS hBz7;refine J5 ?_;refine jn rfl (kf Tryz.call88 rfl (uT _ _ vg p.mem n (lP y m) _ (hmi.kb hS.kb) (hg.kb hS.kb) (hmem p hpm') (hd.s p hpm')) ?_);rintro r w7 ⟨rfl,hB7⟩;refine⟨hB7,?_⟩;replace hS:=hS.kx hB7;refine jx rfl (kf Tryz.call87 rfl (La br n vc _ p.ld lvi (oJ p.mem (lP y m)) (te y m i) [(b9,160,[.slice ma ml mc,.slice la ll lc])] LC w3 _ (λwx A B h=>hld.kb h.kb) hG (hS.perm (bQ _ (List.Perm.swap _ _ _))) (hldo p hpm') (hd.p0 p hpm') (hd.pk p hpm') hplx (hd.pp p hpm')) ?_);rintro r w8 ⟨rfl,LC2,hG,hS⟩;rw[show rj (te y m i) (rJ p.ld (oJ p.mem (lP y m)))=te y m (i+1)from hsucc.symm]at hG hS;refine V2 ?_;exact⟨i+1,_,rfl,⟨hlt,jY,jY,jY,jY,jY,vi rfl oO,LC2,hG,(hS.perm (bQ _ (List.Perm.swap _ _ _))).drop (ab _ _)⟩,oO⟩
  ·refine J1 ?_;refine jt ?_;obtain rfl:i=y.pl.length:=oO;exact⟨_,rfl,h5,h7,LC,hG,hS⟩
 clear hS hG;rintro ρ w6 ⟨h5,h7,LC,hG,hS⟩;replace hS:=(hS0.join hS).perm (WE _ _ _);refine ja ?_;refine kK [jo 0,jo 1,jo 2,ju 3,jo 4,jo 5,jo 6,ju 7,jo 8,jw 9] kR kR hS ?_;intro wz8 hS hBz8;refine J1 ?_;refine jl rfl (nc rfl ?_);refine J3 ?_;refine jl rfl (nc rfl ?_);refine J4 ?_;intro wz9 hS;refine jt ?_;refine tY (k:=1) rfl h5 rfl kt hS rfl rfl ?_;exact⟨_,LC,rfl,hG,hS.drop (ao [_,_,_,_] LC)⟩
theorem AI (vR vP:Value) (y:Ly) (vs:List Value) (pv:List (Value×Value)) (lv:List (List Value)) (m:Rat) (w:World) (hY:QF w vR vP y vs pv lv) (hh:GZ y m):
  mb Tryz.prog 92 #[NE y.n vR vP y.tot,lC (ki m)] w λr w'=>∃v LO,r= .tuple #[v,lC (ki (ss y m y.pl.length).r)]/\Gl ke 32 3 v (kD y.n λk=>ki ((ss y m y.pl.length).c k)) LO/\St w w' LO:=by
 have hS:=St.init w;have hR:=hY.rk;have hP:=hY.pl;have hpm:=hP.sl.maxLen;have hpl:=hP.len;rw[hpl]at hpm;have hd:=hh.d;have hn:=hd.n;obtain⟨n,hn'⟩:∃n,n=y.n:=⟨_,rfl⟩;have hgross:=λw h=>zU vR vP y vs m w h oO hd.rk hd.m0 hd.k hd.l hd.lp;have hrates:=λw h=>Ho vR vP y vs m w h oO hd.rk hd.m0 hd.k hh.l hh.lp;have htake:=λva w h1 h2=>GT vR vP va y pv lv (mH y m) w h1 h2 hd.mem hn;have hrk:=hd.rk;have hmem:=hd.mem;have hldo:=hd.ld;have hpl':=hh.pl;rw[<-hn']at hn hgross htake hmem hldo hpl' hrates⊢;obtain⟨cl,hcl⟩:=jz (qb n vR vP y.tot);refine enter Tryz.func92 rfl Tryz.ntmps92 rfl ?_;refine jr ?_;refine jh (lx (new:=qb n vR vP y.tot) rfl rfl hS ?_);intro b2 wz1 hS hBz1;refine jh (lx (new:=ke (ki m)) rfl rfl hS ?_);intro b3 wz2 hS hBz2;refine J2 ?_;intro b5 wz3 hS hBz3;refine ja ?_;replace hS:St w _ [(b5,32,ke kZ),(b3,32,ke (ki m)),(b2,112,qb n vR vP y.tot)]:=hS;refine ja ?_;refine kK [ju 0,ju 1,ju 3,ju 4,jv 2,jv 5,jo 6,jo 7] kR kR hS ?_;intro wz4 hS hBz4;refine J4 ?_;refine jn rfl (kf Tryz.call49 rfl (hgross _ (hR.kb hS.kb)) ?_);rintro vg w3 ⟨LG,hg,hB3⟩;refine⟨hB3.kb,?_⟩;replace hg:=hg.sl (H:=[]) hB3 kA;replace hB3:=hB3.kb;replace hS:=hS.kx hB3;refine jn rfl (kf Tryz.call135 rfl (hrates _ (hR.kb hS.kb)) ?_);rintro vr w3' ⟨LR,hr,hB3'⟩;refine⟨hB3'.kb,?_⟩;replace hr:=hr.sl (H:=[]) hB3' kA;replace hB3':=hB3'.kb;replace hS:=hS.kx hB3';replace hg:=hg.kb hB3';refine V2 ?_;have hB0:=hS.kb;have hS0:=hS;have hP3:=hP.kb hB0;refine J2 ?_;refine jh (kf Tryz.call86 rfl (htake vr _ (hP.kb hS.kb) hr) ?_);rintro r w4 ⟨br,vc,LC,rfl,hG,hS4⟩;replace hS:St w _ ([ny br vc 0,(b5,32,ke kZ),(b3,32,ke (ki m)),(b2,112,qb n vR vP y.tot)]++LC):=(hS.join hS4).perm (WE _ _ _);refine V1 ?_;refine nk (λρ'=>ρ' 2= .pointer (some ⟨b2,0,none⟩)/\ρ' 5= .pointer (some ⟨b5,0,none⟩)/\ρ' 6=vg/\ρ' 7=vr/\ρ' 8= .pointer (some ⟨br,0,none⟩)/\True) ⟨rfl,rfl,rfl,rfl,rfl,trivial⟩ ?_;rintro ρk5 ⟨hk5_2,hk5_5,hk5_6,hk5_7,hk5_8,-⟩;refine J2 ?_;refine jp (ky rfl (hP.kb hS.kb).sl ⟨_,Tryz.underlying110⟩ ?_);refine J1 ?_;refine jb ?_;rw[hpl];replace hS:=hS4;clear hS4;refine kG (λρ w'=>ρ 5=pB b5/\ρ 8=pB br/\∃LC,Gl ke 32 3 vc (kD n λk=>ki ((ss y m y.pl.length).c k)) LC/\St w3' w' ([ny br vc (ss y m y.pl.length).r]++LC)) ?_ ?_
 ·refine ja ?_;refine kF (σ:=Nat) (λi ρ w'=>i<=y.pl.length/\ρ 5=pB b5/\ρ 6=vg/\ρ 7=vr/\ρ 8=pB br/\ρ 21=vP/\ρ 22=iB y.pl.length/\ρ 23=iB i/\∃LC,Gl ke 32 3 vc (kD n λk=>ki ((ss y m i).c k)) LC/\St w3' w' ([ny br vc (ss y m i).r]++LC)) (λi=>y.pl.length-i) 0
   ⟨aw _,jY,jY,jY,jY,rfl,rfl,rfl,LC,hG,hS⟩ ?_
  clear hS hG;rintro i ρ w6 ⟨hi,h5,h6,h7,h8,h21,h22,h23,LC,hG,hS⟩;refine V1 ?_;by_cases hlt:i<y.pl.length
  ·refine V1 ?_;obtain⟨p,hp⟩:=jz (y.pl.getD i wP);have hpm':p∈y.pl:=by rw[hp];exact kO _ _ _ hlt
   have hmi:=hP3.mem i hlt;have hld:=hP3.ld i hlt;obtain⟨v2,hv2⟩:=jz (pv.getD i rM);obtain⟨lvi,hlvi⟩:=jz (lv.getD i []);rw[<-hp,<-hv2]at hmi hld;rw[<-hlvi]at hld;have hli:=hld.sl;obtain⟨ma,mc,hme,_⟩:=hmi.form;obtain⟨la,lc,hle,_⟩:=hli.form;obtain⟨u1,u2⟩:=v2;dsimp only at hmi hld hli hme hle;obtain⟨ll,hll⟩:=jz ((p.ld.zip lvi).length);rw[<-hll]at hle;obtain⟨ml,hml⟩:=jz ((nI p.mem).length);rw[<-hml]at hme;subst hme hle;have hsucc:=MF y m hlt;have hplx:=hpl' i hlt;rw[<-hp]at hsucc hplx;refine jr ?_;refine jp (ks (i:=i) h21 h23 (hP3.kb hS.kb).sl oO dO Ay (jq (kC (v:= .agg #[.slice ma ml mc,.slice la ll lc]) (i:=i) rM rfl ri (hP3.kb hS.kb).sl oO rfl (by rw[<-hv2];rfl) (.inl rfl) ?_)));refine J1 ?_;intro b9 wz6 hS hBz6;refine J1 ?_;intro wz7 hS;refine ja ?_;replace hS:St w3' _ ([(b9,160,[.slice ma ml mc,.slice la ll lc]),ny br vc (ss y m i).r]++LC):=hS;refine ja ?_;refine kK [jo 0,ju 1,ju 2,jo 3,ju 5,jo 6,jo 8,jv 4,jv 7,jw 9] kR kR hS ?_;intro wz8 hS hBz8;refine J7 ?_;refine jn rfl (kf Tryz.call88 rfl (uT _ _ vg p.mem n (lP y m) _ (hmi.kb hS.kb) (hg.kb hS.kb) (hmem p hpm') (hd.s p hpm')) ?_);rintro r w7 ⟨rfl,hB7⟩;refine⟨hB7,?_⟩;replace hS:=hS.kx hB7;refine jn rfl (kf Tryz.call88 rfl (uT _ _ vr p.mem n (mH y m) _ (hmi.kb hS.kb) (hr.kb hS.kb) (hmem p hpm') (hh.s p hpm')) ?_);rintro r w7' ⟨rfl,hB7'⟩;refine⟨hB7',?_⟩;replace hS:=hS.kx hB7';refine jx rfl (kf Tryz.call136 rfl (Eu br n vc _ p.ld lvi (oJ p.mem (lP y m)) (oJ p.mem (mH y m)) (ss y m i) [(b9,160,[.slice ma ml mc,.slice la ll lc])] LC w3' _ (λwx A B h=>hld.kb h.kb) hG (hS.perm (bQ _ (List.Perm.swap _ _ _))) (hldo p hpm') (hd.p0 p hpm') (hd.pk p hpm') hplx (hh.pr p hpm') (hh.pp p hpm')) ?_);rintro r w8 ⟨rfl,LC2,hG,hS⟩;rw[show rj (ss y m i) (qV p.ld (oJ p.mem (lP y m)) (oJ p.mem (mH y m)))=ss y m (i+1)from hsucc.symm]at hG hS;refine V2 ?_;exact⟨i+1,_,rfl,⟨hlt,jY,jY,jY,jY,jY,jY,vi rfl oO,LC2,hG,(hS.perm (bQ _ (List.Perm.swap _ _ _))).drop (ab _ _)⟩,oO⟩
  ·refine J1 ?_;refine jt ?_;obtain rfl:i=y.pl.length:=oO;exact⟨_,rfl,h5,h8,LC,hG,hS⟩
 clear hS hG;rintro ρ w6 ⟨h5,h8,LC,hG,hS⟩;replace hS:=(hS0.join hS).perm (WE _ _ _);refine ja ?_;refine kK [jo 0,jo 1,jo 2,ju 3,jo 4,jo 5,jo 6,ju 7,jo 8,jw 9] kR kR hS ?_;intro wz9 hS hBz9;refine J1 ?_;refine jl rfl (nc rfl ?_);refine J3 ?_;refine jl rfl (nc rfl ?_);refine J4 ?_;intro wz10 hS;refine jt ?_;refine tY (k:=1) rfl h5 rfl kt hS rfl rfl ?_;exact⟨_,LC,rfl,hG,hS.drop (ao [_,_,_,_] LC)⟩
theorem P5 {α:Type} (A B C:List α):(A++B++C).Perm (A++C++B):=by
 rw[aG,aG];exact bV _ ay
def r4 (T:List Tr) (m:Rat):Rat:=(T.getD (mD T m) sw).sm-r9 T m
def zl (y:Ly) (m:Rat) (p:Pl):Prop:=mD p.ld (oJ p.mem (lP y m))<p.ld.length/\0<oJ p.mem (mH y m)
instance (y:Ly) (m:Rat) (p:Pl):Decidable (zl y m p):=by unfold zl;infer_instance
def yh (y:Ly) (m:Rat) (p:Pl):Rat:=r4 p.ld (oJ p.mem (lP y m))/oJ p.mem (mH y m)
def tH (y:Ly) (m:Rat) (o:Rat) (p:Pl):Rat:=if zl y m p then z6 o (yh y m p)else o
def xk (y:Ly) (m:Rat) (i:Nat):Rat:=(y.pl.take i).foldl (tH y m) (r4 y.rk m)
theorem MH (y:Ly) (m:Rat) {i:Nat} (h:i<y.pl.length):xk y m (i+1)=tH y m (xk y m i) (y.pl.getD i wP):=by
 unfold xk;rw[lT y.pl i wP h,eI];rfl
structure TN (y:Ly) (m:Rat):Prop where
 s:GZ y m
 g:∀p∈y.pl,L (r4 p.ld (oJ p.mem (lP y m)))+L (oJ p.mem (mH y m))<=MX
 o:∀i,i<y.pl.length->L (xk y m i)+L (yh y m (y.pl.getD i wP))<=MX
theorem Ou (vR vP:Value) (y:Ly) (vs:List Value) (pv:List (Value×Value)) (lv:List (List Value)) (m:Rat) (w:World) (hY:QF w vR vP y vs pv lv) (hh:TN y m):
  mb Tryz.prog 147 #[NE y.n vR vP y.tot,lC (ki m)] w λr w'=>r=(if mD y.rk m<y.rk.length then .tuple #[lC (ki (xk y m y.pl.length)),.bool true]else .tuple #[lC kZ,.bool false])/\Below w.heap.size w w':=by
 have hS:=St.init w;have hR:=hY.rk;have hP:=hY.pl;have hpm:=hP.sl.maxLen;have hpl:=hP.len;rw[hpl]at hpm;have hd:=hh.s.d;have hn:=hd.n;obtain⟨n,hn'⟩:∃n,n=y.n:=⟨_,rfl⟩;have hgross:=λw h=>zU vR vP y vs m w h oO hd.rk hd.m0 hd.k hd.l hd.lp;have hrates:=λw h=>Ho vR vP y vs m w h oO hd.rk hd.m0 hd.k hh.s.l hh.s.lp;have hgap:=λw h=>L4 vR y.rk vs m w h hd.k;have hmem:=hd.mem;rw[<-hn']at hn hgross hrates hmem⊢;refine enter Tryz.func147 rfl Tryz.ntmps147 rfl ?_;refine jr ?_;refine jh (lx (new:=qb n vR vP y.tot) rfl rfl hS ?_);intro b2 wz1 hS hBz1;refine jh (lx (new:=ke (ki m)) rfl rfl hS ?_);intro b3 wz2 hS hBz2;refine J1 ?_;intro b4 wz3 hS hBz3;refine V1 ?_;replace hS:St w _ [(b4,32,ke kZ),(b3,32,ke (ki m)),(b2,112,qb n vR vP y.tot)]:=hS;refine J3 ?_;refine jh (kf Tryz.call177 rfl (hgap _ (hR.kb hS.kb)) ?_);rintro r w3 ⟨rfl,hB3⟩;replace hS:=hS.kx hB3;by_cases hlt:mD y.rk m<y.rk.length
 case neg=>
  rw[ah hlt,ah hlt];refine J4 ?_;intro b6 wz4 hS hBz4;refine J1 ?_;intro wz5 hS;refine V3 ?_;refine lu rfl (rfl) ?_;refine jr ?_;refine jp (lr rfl pM ?_);refine J1 ?_;intro wz6 hS;refine J1 ?_;refine jt ?_;refine nG (k:=1) rfl rfl rfl kt hS rfl rfl ?_;exact⟨rfl,hS.kb⟩
 rw[aj hlt,aj hlt];obtain⟨g0,hg0⟩:=jz ((y.rk.getD (mD y.rk m) sw).sm-r9 y.rk m);have hs0:xk y m 0=g0:=hg0.symm;rw[<-hg0];refine J4 ?_;intro b6 wz7 hS hBz7;refine J1 ?_;intro wz8 hS;refine V1 ?_;refine nk (λρ'=>ρ' 2= .pointer (some ⟨b2,0,none⟩)/\ρ' 3= .pointer (some ⟨b3,0,none⟩)/\ρ' 4= .pointer (some ⟨b4,0,none⟩)/\ρ' 6= .pointer (some ⟨b6,0,none⟩)/\ρ' 7= .bool true/\True) ⟨rfl,rfl,rfl,rfl,rfl,trivial⟩ ?_;rintro ρk9 ⟨hk9_2,hk9_3,hk9_4,hk9_6,hk9_7,-⟩;refine V2 ?_;refine lH rfl (rfl) ?_;refine ja ?_;refine kK [ju 0,ju 1,ju 3,ju 4,jv 2,jv 5,jo 6,jo 7] kR kR hS ?_;intro wz10 hS hBz10;refine J4 ?_;refine jn rfl (kf Tryz.call49 rfl (hgross _ (hR.kb hS.kb)) ?_);rintro vg w4 ⟨LG,hg,hS4⟩;refine⟨hS4.kb,?_⟩;replace hS:St w _ ([(b6,32,ke (ki g0)),(b4,32,ke kZ),(b3,32,ke (ki m)),(b2,112,qb n vR vP y.tot)]++LG):=(hS.join hS4).perm ay;refine jn rfl (kf Tryz.call135 rfl (hrates _ (hR.kb hS.kb)) ?_);rintro vr w5 ⟨LR,hr,hS5⟩;refine⟨hS5.kb,?_⟩;replace hS:St w _ ([(b6,32,ke (ki g0)),(b4,32,ke kZ),(b3,32,ke (ki m)),(b2,112,qb n vR vP y.tot)]++LG++LR):=(hS.join hS5).perm ay;refine V2 ?_;refine nk (λρ'=>ρ' 2= .pointer (some ⟨b2,0,none⟩)/\ρ' 4= .pointer (some ⟨b4,0,none⟩)/\ρ' 6= .pointer (some ⟨b6,0,none⟩)/\ρ' 8=vg/\ρ' 9=vr/\True) ⟨hk9_2,hk9_4,hk9_6,rfl,rfl,trivial⟩ ?_;rintro ρk11 ⟨hk11_2,hk11_4,hk11_6,hk11_8,hk11_9,-⟩;refine J2 ?_;refine jp (ky rfl (hP.kb hS.kb).sl ⟨_,Tryz.underlying110⟩ ?_);refine J1 ?_;refine jb ?_;rw[hpl];rw[<-hs0]at hS;refine kG (λρ w'=>ρ 4=pB b4/\ρ 6=pB b6/\St w w' [(b6,32,ke (ki (xk y m y.pl.length))),(b4,32,ke kZ)]) ?_ ?_
 ·refine ja ?_;refine kF (σ:=Nat) (λi ρ w'=>i<=y.pl.length/\ρ 4=pB b4/\ρ 6=pB b6/\ρ 8=vg/\ρ 9=vr/\ρ 34=vP/\ρ 35=iB y.pl.length/\ρ 36=iB i/\St w w' ([(b6,32,ke (ki (xk y m i))),(b4,32,ke kZ)]++LG++LR)) (λi=>y.pl.length-i) 0
   ⟨aw _,jY,jY,jY,jY,rfl,rfl,rfl,hS.drop (bk (bk (ap [_,_] [_,_]) (bI _)) (bI _))⟩ ?_
  clear hS hs0 hS4 hS5;rintro i ρ w6 ⟨hi,h4,h6,h8,h9,h34,h35,h36,hS⟩;refine V1 ?_;by_cases hil:i<y.pl.length
  ·refine V1 ?_;obtain⟨p,hp⟩:=jz (y.pl.getD i wP);have hpm':p∈y.pl:=by rw[hp];exact kO _ _ _ hil
   have hmi:=hP.mem i hil;have hld:=hP.ld i hil;obtain⟨v2,hv2⟩:=jz (pv.getD i rM);obtain⟨lvi,hlvi⟩:=jz (lv.getD i []);rw[<-hp,<-hv2]at hmi hld;rw[<-hlvi]at hld;have hli:=hld.sl;obtain⟨ma,mc,hme,_⟩:=hmi.form;obtain⟨la,lc,hle,_⟩:=hli.form;obtain⟨u1,u2⟩:=v2;dsimp only at hmi hld hli hme hle;obtain⟨ll,hll⟩:=jz ((p.ld.zip lvi).length);rw[<-hll]at hle;obtain⟨ml,hml⟩:=jz ((nI p.mem).length);rw[<-hml]at hme;subst hme hle;have hsucc:=MH y m hil;have hox:=hh.o i hil;rw[<-hp]at hsucc hox;have hgp:=hh.g p hpm';obtain⟨P,hPe⟩:=jz (oJ p.mem (lP y m));obtain⟨R,hRe⟩:=jz (oJ p.mem (mH y m));have hpk:=hd.pk p hpm';rw[<-hPe,<-hRe]at hgp;rw[<-hPe]at hpk;obtain⟨o,ho⟩:=jz (xk y m i);rw[<-ho]at hS hsucc hox;have hstp:tH y m o p=if mD p.ld P<p.ld.length/\0<R then z6 o (r4 p.ld P/R)else o:=by
    unfold tH zl yh;rw[hPe,hRe]
   have hox2:L o+L (r4 p.ld P/R)<=MX:=by rw[hPe,hRe];exact hox
   rw[hstp]at hsucc;clear hstp hox;obtain⟨gp,hgpe⟩:=jz (r4 p.ld P);rw[<-hgpe]at hgp hox2 hsucc;refine jr ?_;refine jp (ks (i:=i) h34 h36 (hP.kb hS.kb).sl oO dO Ay (jq (kC (v:= .agg #[.slice ma ml mc,.slice la ll lc]) (i:=i) rM rfl ri (hP.kb hS.kb).sl oO rfl (by rw[<-hv2];rfl) (.inl rfl) ?_)));refine J1 ?_;intro b11 wz12 hS hBz12;refine J1 ?_;intro wz13 hS;refine ja ?_;replace hS:St w _ ([(b11,160,[.slice ma ml mc,.slice la ll lc]),(b6,32,ke (ki o)),(b4,32,ke kZ)]++LG++LR):=hS;refine J2 ?_;refine jh (kf Tryz.call88 rfl (uT _ _ vr p.mem n (mH y m) _ (hmi.kb hS.kb) (hr.sl hS kA) (hmem p hpm') (hh.s.s p hpm')) ?_);rintro r w7 ⟨rfl,hB7⟩;rw[<-hRe];replace hS:=hS.kx hB7;refine J1 ?_;intro b12 wz14 hS hBz14;refine J1 ?_;intro wz15 hS;refine ja ?_;replace hS:St w _ ([(b12,32,ke (ki R)),(b11,160,[.slice ma ml mc,.slice la ll lc]),(b6,32,ke (ki o)),(b4,32,ke kZ)]++LG++LR):=hS;have htotg:=λw h1 h2=>uT (.slice ma ml mc) (.slice la ll lc) vg p.mem n (lP y m) w h1 h2 (hmem p hpm') (hd.s p hpm');rw[<-hPe]at htotg;have hgapp:=λw h=>L4 (.slice la ll lc) p.ld lvi P w h hpk;obtain⟨op,hop⟩:=jz (decide (mD p.ld P<p.ld.length));obtain⟨gv,hgv⟩:∃gv:Rat,gv=if mD p.ld P<p.ld.length then gp else 0:=⟨_,rfl⟩
   have hgr:(if mD p.ld P<p.ld.length then Value.tuple #[lC (ki ((p.ld.getD (mD p.ld P) sw).sm-r9 p.ld P)),.bool true]else .tuple #[lC kZ,.bool false])= .tuple #[lC (ki gv),.bool op]:=by
    rw[hop,hgv];by_cases g:mD p.ld P<p.ld.length
    ·rw[aj g,aj g,ai g,hgpe];rfl
    ·rw[ah g,ah g,ae g,pK]
   rw[hgr]at hgapp;refine ja ?_;refine nk (λρ'=>ρ' 4= .pointer (some ⟨b4,0,none⟩)/\ρ' 6= .pointer (some ⟨b6,0,none⟩)/\ρ' 8=vg/\ρ' 9=vr/\ρ' 34=vP/\ρ' 35= .int .i64 y.pl.length/\ρ' 36= .int .i64 i/\ρ' 11= .pointer (some ⟨b11,0,none⟩)/\ρ' 12= .pointer (some ⟨b12,0,none⟩)/\True) ⟨h4,h6,h8,h9,h34,h35,h36,rfl,rfl,trivial⟩ ?_;rintro ρk16 ⟨hk16_4,hk16_6,hk16_8,hk16_9,hk16_34,hk16_35,hk16_36,hk16_11,hk16_12,-⟩;refine kG (λρ w'=>ρ 4=pB b4/\ρ 6=pB b6/\ρ 8=vg/\ρ 9=vr/\ρ 34=vP/\ρ 35=iB y.pl.length/\ρ 36=iB i/\ρ 12=pB b12/\ρ 14= .bool op/\∃b13,ρ 13=pB b13/\
    St w w' ([(b13,32,ke (ki gv)),(b12,32,ke (ki R)),(b6,32,ke (ki o)),(b4,32,ke kZ)]++LG++LR)) ?_ ?_
   ·refine ja ?_;refine vV 9 [jo 0,ju 1,ju 2,jo 3,jv 4,jv 5,jo 6,jo 7,jo 8,jw 10,jo 11] kR kR hS ?_;intro wz17 hS hBz17;refine mG kR rfl rfl (lD hk16_11 Dz (qI kR rfl rfl (kP (k:=1) rfl ud hS rfl rfl rfl (.inr rfl) (qI kR rfl rfl (kP (k:=1) hk16_11 ri hS rfl rfl rfl (.inl rfl) (mG kR rfl rfl (kw hk16_8 ?_)))))));refine rW rfl rfl ?_ ?_
    ·refine J1 ?_;intro b13 wz18 hS hBz18;refine⟨hBz18,?_⟩;refine jn rfl (kf Tryz.call88 rfl (htotg _ (hmi.kb hS.kb) (hg.sl (H:=(b13,32,ke kZ)::[(b12,32,ke (ki R)),(b11,160,[.slice ma ml mc,.slice la ll lc]),(b6,32,ke (ki o)),(b4,32,ke kZ)]++LR) (hS.perm (P5 ((b13,32,ke kZ)::[_,_,_,_]) _ _)) kA)) ?_);rintro r wa ⟨rfl,hBa⟩;refine⟨hBa,?_⟩;replace hS:=hS.kx hBa;refine jn rfl (kf Tryz.call177 rfl (hgapp _ (hld.kb hS.kb)) ?_);rintro r wb ⟨rfl,hBb⟩;refine⟨hBb,?_⟩;replace hS:=hS.kx hBb;refine J4 ?_;intro wz19 hS;refine V1 ?_;replace hS:St w _ ([(b13,32,ke (ki gv)),(b12,32,ke (ki R)),(b11,160,[.slice ma ml mc,.slice la ll lc]),(b6,32,ke (ki o)),(b4,32,ke kZ)]++LG++LR):=hS;exact⟨_,rfl,jY,jY,jY,jY,jY,jY,jY,jY,rfl,b13,rfl,hS.drop (List.Sublist.cons_cons _ (List.Sublist.cons_cons _ (ab _ _)))⟩
    ·refine kf Tryz.call88 rfl (htotg _ (hmi.kb hS.kb) (hg.sl (hS.perm (P5 _ _ _)) kA)) ?_;rintro r wa ⟨rfl,hBa⟩;refine⟨hBa,?_⟩;replace hS:=hS.kx hBa;refine rW rfl rfl ?_ ?_
     ·refine J1 ?_;intro b13 wz20 hS hBz20;refine⟨hBz20,?_⟩;refine jn rfl (kf Tryz.call177 rfl (hgapp _ (hld.kb hS.kb)) ?_);rintro r wb ⟨rfl,hBb⟩;refine⟨hBb,?_⟩;replace hS:=hS.kx hBb;refine J4 ?_;intro wz21 hS;refine V1 ?_;replace hS:St w _ ([(b13,32,ke (ki gv)),(b12,32,ke (ki R)),(b11,160,[.slice ma ml mc,.slice la ll lc]),(b6,32,ke (ki o)),(b4,32,ke kZ)]++LG++LR):=hS;exact⟨_,rfl,jY,jY,jY,jY,jY,jY,jY,jY,rfl,b13,rfl,hS.drop (List.Sublist.cons_cons _ (List.Sublist.cons_cons _ (ab _ _)))⟩
     ·refine kf Tryz.call177 rfl (hgapp _ (hld.kb hS.kb)) ?_;rintro r wb ⟨rfl,hBb⟩;refine⟨hBb,?_⟩;replace hS:=hS.kx hBb;refine mG kR rfl rfl (kw rfl (mG kR rfl rfl (wH rfl rfl (mG kR rfl rfl (wH rfl rfl (yy kR ?_))))));refine J1 ?_;intro b13 wz22 hS hBz22;refine⟨hBz22,?_⟩;refine J1 ?_;intro wz23 hS;refine V1 ?_;replace hS:St w _ ([(b13,32,ke (ki gv)),(b12,32,ke (ki R)),(b11,160,[.slice ma ml mc,.slice la ll lc]),(b6,32,ke (ki o)),(b4,32,ke kZ)]++LG++LR):=hS;exact⟨_,rfl,jY,jY,jY,jY,jY,jY,jY,jY,rfl,b13,rfl,hS.drop (List.Sublist.cons_cons _ (List.Sublist.cons_cons _ (ab _ _)))⟩
   clear hS hgapp htotg h4 h6 h8 h9 h34 h35 h36;rintro ρ w8 ⟨h4,h6,h8,h9,h34,h35,h36,h12,h14,b13,h13,hS⟩;refine ja ?_;have hdone:∀wx,St w wx ([(b13,32,ke (ki gv)),(b12,32,ke (ki R)),(b6,32,ke (ki o)),(b4,32,ke kZ)]++LG++LR)->¬(mD p.ld P<p.ld.length/\0<R)->St w wx ([(b6,32,ke (ki (xk y m (i+1)))),(b4,32,ke kZ)]++LG++LR):=λwx h g=>by
    rw[hsucc,ah g];exact h.drop ((ab _ _).trans (ab _ _))
   by_cases hc:mD p.ld P<p.ld.length
   ·have hopt:op=true:=by rw[hop];exact ai hc
    have hgvt:gv=gp:=by rw[hgv,aj hc]
    refine J2 ?_;refine lA (kd 53 kR rfl hopt) (kP (k:=1) h12 kt hS rfl rfl rfl (.inl rfl) (oZ (kd 53 kR rfl hopt) (kf Tryz.call80 rfl (sP (ki R) _ (by rw[Lr_ofQ];omega)) ?_)));rintro r w9 ⟨rfl,hB9⟩;rw[toQ_ofQ];replace hS:=hS.kx hB9;refine ko (kd 53 kR rfl hopt) (sT rfl rfl (jp (kH (vb rfl hopt) rfl ?_)));refine ja ?_;by_cases hr0:0<R
    ·rw[aj ⟨hc,hr0⟩]at hsucc;refine lu rfl (ai (nX.2 hr0)) ?_;refine ja ?_;rw[hgvt]at hS;replace hS:St w _ ([(b13,32,ke (ki gp)),(b12,32,ke (ki R)),(b6,32,ke (ki o)),(b4,32,ke kZ)]++LG++LR):=hS;refine J2 ?_;refine jh (kf Tryz.call108 rfl (we (ki gp) (ki R) _ (by rw[Lr_ofQ,Lr_ofQ];exact hgp) (by rw[toQ_ofQ];intro g;rw[g]at hr0;exact absurd hr0 dy)) ?_);rintro r wa ⟨rfl,hBa⟩;rw[toQ_ofQ,toQ_ofQ];replace hS:=hS.kx hBa;refine J4 ?_;intro b15 wz24 hS hBz24;refine J1 ?_;intro wz25 hS;refine V1 ?_;replace hS:St w _ ([(b15,32,ke (ki (gp/R))),(b13,32,ke (ki gp)),(b12,32,ke (ki R)),(b6,32,ke (ki o)),(b4,32,ke kZ)]++LG++LR):=hS;refine J2 ?_;refine jh (kf Tryz.call129 rfl (L7 (ki o) (ki (gp/R)) _ (by rw[Lr_ofQ,Lr_ofQ];exact hox2)) ?_);rintro r wb ⟨rfl,hBb⟩;rw[toQ_ofQ,toQ_ofQ,<-hsucc];replace hS:=hS.kx hBb;refine J1 ?_;intro wz26 hS;refine ja ?_;replace hS:St w _ ([(b15,32,ke (ki (gp/R))),(b13,32,ke (ki gp)),(b12,32,ke (ki R)),(b6,32,ke (ki (xk y m (i+1)))),(b4,32,ke kZ)]++LG++LR):=hS;refine V2 ?_;exact⟨i+1,_,rfl,⟨hil,jY,jY,jY,jY,jY,jY,vi rfl oO,hS.drop (((ab _ _).trans (ab _ _)).trans (ab _ _))⟩,oO⟩
    ·refine lH rfl (ae (λg=>hr0 (nX.1 g))) ?_;refine V2 ?_;exact⟨i+1,_,rfl,⟨hil,jY,jY,jY,jY,jY,jY,vi rfl oO,hdone _ hS (λg=>hr0 g.2)⟩,oO⟩
   ·have hopf:op=false:=by rw[hop];exact ae hc
    refine J2 ?_;refine kS (kg 53 kR rfl hopf) (kS (kg 53 kR rfl hopf) (kS (kg 53 kR rfl hopf) (jp (kH (vb rfl hopf) rfl ?_))));refine ja ?_;refine lH rfl (rfl) ?_;refine V2 ?_;exact⟨i+1,_,rfl,⟨hil,jY,jY,jY,jY,jY,jY,vi rfl oO,hdone _ hS (λg=>hc g.1)⟩,oO⟩
  ·refine J1 ?_;refine jt ?_;obtain rfl:i=y.pl.length:=oO;exact⟨_,rfl,h4,h6,hS.drop ((ap _ _).trans (ap _ _))⟩
 clear hS hS4 hS5;rintro ρ w6 ⟨h4,h6,hS⟩;refine J2 ?_;intro wz27 hS;refine J1 ?_;refine jt ?_;refine nG (k:=1) rfl h4 rfl kt hS rfl rfl ?_;exact⟨rfl,hS.kb⟩
theorem M3 (va vb:Value) (A B:List RR) (w:World) (ha:Sl ke 3 w va A) (hb:Sl ke 3 w vb B):
  mb Tryz.prog 148 #[va,vb] w λr w'=>r= .bool (decide (A=B))/\Below w.heap.size w w':=by
 have hma:=ha.maxLen;have hmb:=hb.maxLen;have hS:=St.init w;refine enter Tryz.func148 rfl Tryz.ntmps148 rfl ?_;refine J2 ?_;refine jp (ky rfl (ha.kb hS.kb) ⟨_,Tryz.underlying34⟩ ?_);refine J1 ?_;refine jp (ky rfl (hb.kb hS.kb) ⟨_,Tryz.underlying34⟩ ?_);refine V1 ?_;by_cases hl:A.length=B.length
 case neg=>
  rw[ae (λe=>hl (by rw[e]))];refine J2 ?_;refine jt ?_;refine kJ rfl rfl ?_;exact⟨rfl,hS.kb⟩
 refine J2 ?_;refine jp (ky rfl (ha.kb hS.kb) ⟨_,Tryz.underlying34⟩ ?_);refine V1 ?_;refine kF (σ:=Nat) (λi ρ w'=>i<=A.length/\A.take i=B.take i/\ρ 0=va/\ρ 1=vb/\ρ 12=iB A.length/\ρ 13=iB i/\St w w' []) (λi=>A.length-i) 0
  ⟨aw _,by rw[ft,ft],rfl,rfl,rfl,rfl,hS⟩ ?_
 clear hS;rintro i ρ w2 ⟨hi,heq,h0,h1,h12,h13,hS⟩;refine V1 ?_;by_cases hlt:i<A.length
 ·refine V3 ?_;refine kK [jo 0,jo 1,jo 2,ju 3,jo 4,jo 5,jo 6,ju 7,jo 8] kR kR hS ?_;intro wz1 hS hBz1;refine J2 ?_;refine jl rfl (ks (i:=i) rfl rfl (ha.kb hS.kb) oO dO kW (jm rfl (kC (i:=i) kZ rfl kt (ha.kb hS.kb) dO rfl rfl (.inl rfl) ?_)));refine J2 ?_;refine jl rfl (ks (i:=i) rfl rfl (hb.kb hS.kb) oO dO kW (jm rfl (kC (i:=i) kZ rfl kt (hb.kb hS.kb) dO rfl rfl (.inl rfl) (jl rfl (Mg rfl rfl ?_)))));refine ja ?_;by_cases hne:A.getD i kZ=B.getD i kZ
  ·refine lH rfl (ae (λg=>g hne)) ?_;refine V2 ?_;refine⟨i+1,_,rfl,⟨hlt,?_,h0,h1,h12,vi rfl oO,hS⟩,oO⟩;rw[lT A i kZ hlt,lT B i kZ oO,heq,hne]
  ·rw[ae (λe=>hne (by rw[e]))];refine lu rfl (ai hne) ?_;refine J1 ?_;refine jt ?_;refine kJ rfl rfl ?_;exact⟨rfl,hS.kb⟩
 ·refine J1 ?_;refine jt ?_;rw[aU oO,aU oO]at heq;rw[ai heq];refine J1 ?_;refine jt ?_;refine kJ rfl rfl ?_;exact⟨rfl,hS.kb⟩
theorem E7 (vR vP:Value) (y:Ly) (w:World):mb Tryz.prog 51 #[NE y.n vR vP y.tot] w λr w'=>r=lC (ki y.tot)/\Below w.heap.size w w':=by
 have hS:=St.init w;refine enter Tryz.func51 rfl Tryz.ntmps51 rfl ?_;refine jr ?_;refine jh (lx (new:=qb y.n vR vP y.tot) rfl rfl hS ?_);intro b1 wz1 hS hBz1;refine J1 ?_;intro b2 wz2 hS hBz2;refine J3 ?_;intro wz3 hS;refine jt ?_;refine mA (k:=0) rfl rfl kt hS rfl rfl ?_;exact⟨rfl,hS.kb⟩
def Fg (y:Ly) (m:Rat):RR:=ki (ss y m y.pl.length).r
def Lv (y:Ly) (m:Rat):List RR:=kD y.n λk=>ki ((ss y m y.pl.length).c k)
def z8 (y:Ly) (m:Rat):Rat:=m+xk y m y.pl.length
def GM (y:Ly) (m0:Rat):Nat->Rat->Option Rat
 |0,_=>none
 |f+1,m=>if mD y.rk m<y.rk.length then(if Fg y (z8 y m)=Fg y m0/\Lv y (z8 y m)=Lv y m0 then GM y m0 f (z8 y m)else some (z8 y m))else none
def VY (y:Ly) (m0:Rat):Nat->Rat->Prop
 |0,_=>False
 |f+1,m=>TN y m/\(mD y.rk m<y.rk.length->L m+L (xk y m y.pl.length)<=MX/\GZ y (z8 y m)/\(Fg y (z8 y m)=Fg y m0/\Lv y (z8 y m)=Lv y m0->VY y m0 f (z8 y m)))
def XM (o:Option Rat):Value:= .tuple #[lC (match o with|some q=>ki q|none=>kZ),.bool o.isSome]
theorem OJ (vR vP:Value) (y:Ly) (vs:List Value) (pv:List (Value×Value)) (lv:List (List Value)) (m:Rat) (F:Nat) (w:World) (hY:QF w vR vP y vs pv lv) (hs:GZ y m) (hh:VY y m F m):
  mb Tryz.prog 109 #[NE y.n vR vP y.tot,lC (ki m)] w λr w'=>r=XM (GM y m F m)/\Below w.heap.size w w':=by
 have hS:=St.init w;have hslp:=λx w h1 h2=>AI vR vP y vs pv lv x w h1 h2;have hstp:=λx w h1 h2=>Ou vR vP y vs pv lv x w h1 h2;obtain⟨ty,hty⟩:=jz y.tot;obtain⟨n,hn'⟩:∃n,n=y.n:=⟨_,rfl⟩;rw[<-hn',<-hty]at hslp hstp⊢;obtain⟨res,hres⟩:=jz (GM y m F m);rw[<-hres];have hsT:∀x,(kD n λk=>ki ((ss y x y.pl.length).c k))=Lv y x:=λx=>by rw[hn'];rfl
 have hsR:∀x,ki (ss y x y.pl.length).r=Fg y x:=λx=>rfl;refine enter Tryz.func109 rfl Tryz.ntmps109 rfl ?_;refine jr ?_;refine jh (lx (new:=qb n vR vP ty) rfl rfl hS ?_);intro b2 wz1 hS hBz1;refine jh (lx (new:=ke (ki m)) rfl rfl hS ?_);intro b3 wz2 hS hBz2;refine J1 ?_;intro b4 wz3 hS hBz3;refine V1 ?_;replace hS:St w _ [(b4,32,ke kZ),(b3,32,ke (ki m)),(b2,112,qb n vR vP ty)]:=hS;refine J2 ?_;refine jh (kf Tryz.call92 rfl (hslp m _ (hY.kb hS.kb) hs) ?_);rintro r w3 ⟨v6,L6,rfl,hG6,hS3⟩;rw[hsT]at hG6;rw[hsR];replace hS:=(hS.join hS3).perm ay;refine J4 ?_;intro b7 wz4 hS hBz4;refine J2 ?_;intro wz5 hS;refine jb ?_;replace hS:St w _ ([(b7,32,ke (Fg y m)),(b4,32,ke kZ),(b3,32,ke (ki m)),(b2,112,qb n vR vP ty)]++L6):=hS;clear hS3;refine ja ?_;refine kF (σ:=Nat×Rat) (λs ρ w'=>ρ 2=pB b2/\ρ 3=pB b3/\ρ 4=pB b4/\ρ 6=v6/\ρ 7=pB b7/\VY y m s.1 s.2/\GM y m s.1 s.2=res/\
   St w w' ([(b7,32,ke (Fg y m)),(b4,32,ke kZ),(b3,32,ke (ki s.2)),(b2,112,qb n vR vP ty)]++L6)) (λs=>s.1) (F,m)
  ⟨rfl,rfl,rfl,rfl,rfl,hh,hres.symm,hS⟩ ?_
 clear hS hh hres;rintro⟨f,x⟩ ρ w4 ⟨h2,h3,h4,h6,h7,hx,hnx,hS⟩;dsimp only at hx hnx hS;obtain _|f:=f
 ·exact hx.elim
 obtain⟨hst,hop⟩:=hx;have e1:GM y m (f+1) x=if mD y.rk x<y.rk.length then(if Fg y (z8 y x)=Fg y m/\Lv y (z8 y x)=Lv y m then GM y m f (z8 y x)else some (z8 y x))else none:=rfl
 rw[e1]at hnx;clear e1;refine J2 ?_;refine jh (kf Tryz.call147 rfl (hstp x _ (hY.kb hS.kb) hst) ?_);rintro r w5 ⟨rfl,hB5⟩;replace hS:=hS.kx hB5;by_cases hlt:mD y.rk x<y.rk.length
 case neg=>
  rw[ah hlt];rw[ah hlt]at hnx;subst hnx;refine J4 ?_;intro b8 wz6 hS hBz6;refine J1 ?_;intro wz7 hS;refine V3 ?_;refine lu rfl (rfl) ?_;refine jr ?_;refine jp (lr rfl pM ?_);refine J1 ?_;intro wz8 hS;refine J1 ?_;refine jt ?_;refine nG (k:=2) rfl h4 rfl kt hS rfl rfl ?_;exact⟨rfl,hS.kb⟩
 rw[aj hlt];rw[aj hlt]at hnx;obtain⟨hL1,hs1,hrec⟩:=hop hlt;obtain⟨sq,hsq⟩:=jz (xk y x y.pl.length);rw[<-hsq]at hL1⊢;have hnm:x+sq=z8 y x:=by rw[hsq];rfl
 obtain⟨x',hx'⟩:∃x',x'=z8 y x:=⟨_,rfl⟩;rw[<-hx']at hnx hs1 hrec hnm;refine J4 ?_;intro b8 wz9 hS hBz9;refine J1 ?_;intro wz10 hS;refine V3 ?_;refine lH rfl (rfl) ?_;refine J2 ?_;refine jh (kf Tryz.call18 rfl (ou (ki x) (ki sq) _ (by rw[Lr_ofQ,Lr_ofQ];exact hL1)) ?_);rintro r w6 ⟨rfl,hB6⟩;rw[toQ_ofQ,toQ_ofQ,hnm];replace hS:=hS.kx hB6;refine J1 ?_;intro wz11 hS;refine ja ?_;replace hS:St w _ ([(b8,32,ke (ki sq)),(b7,32,ke (Fg y m)),(b4,32,ke kZ),(b3,32,ke (ki x')),(b2,112,qb n vR vP ty)]++L6):=hS;refine ja ?_;refine nk (λρ'=>ρ' 2= .pointer (some ⟨b2,0,none⟩)/\ρ' 3= .pointer (some ⟨b3,0,none⟩)/\ρ' 4= .pointer (some ⟨b4,0,none⟩)/\ρ' 6=v6/\ρ' 7= .pointer (some ⟨b7,0,none⟩)/\True) ⟨h2,h3,h4,h6,h7,trivial⟩ ?_;rintro ρk12 ⟨hk12_2,hk12_3,hk12_4,hk12_6,hk12_7,-⟩;refine J2 ?_;refine jh (kf Tryz.call92 rfl (hslp x' _ (hY.kb hS.kb) hs1) ?_);rintro r w7 ⟨v10,L10,rfl,hG10,hS7⟩;rw[hsT]at hG10;rw[hsR];replace hS:St w _ (([(b8,32,ke (ki sq)),(b7,32,ke (Fg y m)),(b4,32,ke kZ),(b3,32,ke (ki x')),(b2,112,qb n vR vP ty)]++L6)++L10):=(hS.join hS7).perm ay;clear hS7;refine J4 ?_;intro b11 wz13 hS hBz13;refine J2 ?_;intro wz14 hS;refine ja ?_;replace hS:St w _ (([(b11,32,ke (Fg y x')),(b8,32,ke (ki sq)),(b7,32,ke (Fg y m)),(b4,32,ke kZ),(b3,32,ke (ki x')),(b2,112,qb n vR vP ty)]++L6)++L10):=hS;refine ja ?_;refine nk (λρ'=>ρ' 2= .pointer (some ⟨b2,0,none⟩)/\ρ' 3= .pointer (some ⟨b3,0,none⟩)/\ρ' 4= .pointer (some ⟨b4,0,none⟩)/\ρ' 6=v6/\ρ' 7= .pointer (some ⟨b7,0,none⟩)/\ρ' 10=v10/\ρ' 11= .pointer (some ⟨b11,0,none⟩)/\True) ⟨hk12_2,hk12_3,hk12_4,hk12_6,hk12_7,rfl,rfl,trivial⟩ ?_;rintro ρk15 ⟨hk15_2,hk15_3,hk15_4,hk15_6,hk15_7,hk15_10,hk15_11,-⟩;have hsl6:=hG6.sl (hS.perm (P5 _ _ _)) kA;have hsl10:=hG10.sl hS kA;have hback:=λwx (h:St w wx (([(b11,32,ke (Fg y x')),(b8,32,ke (ki sq)),(b7,32,ke (Fg y m)),(b4,32,ke kZ),(b3,32,ke (ki x')),(b2,112,qb n vR vP ty)]++L6)++L10))=>(h.drop (ap _ _)).drop ((ab _ _).trans (ab _ _));by_cases hr:Fg y x'=Fg y m
 ·refine J2 ?_;refine jp (Mg rfl rfl ?_);refine J1 ?_;refine ko (kd 39 kR rfl (ae (λg=>g hr))) (kw hk15_10 ?_);refine ko (kd 39 kR rfl (ae (λg=>g hr))) (kw hk15_6 ?_);refine oZ (kd 39 kR rfl (ae (λg=>g hr))) (kf Tryz.call148 rfl (M3 v10 v6 _ _ _ hsl10 hsl6) ?_);rintro r w8 ⟨rfl,hB8⟩;replace hS:=hS.kx hB8;by_cases ht:Lv y x'=Lv y m
  ·rw[ai ht];rw[aj ⟨hr,ht⟩]at hnx;refine ko (kd 39 kR rfl (ae (λg=>g hr))) (xb rfl ?_);refine jp (kH (vb rfl (ae (λg=>g hr))) rfl ?_);refine ja ?_;refine lH rfl (rfl) ?_;refine ja ?_;exact⟨(f,x'),_,rfl,⟨jY,jY,jY,jY,jY,hrec ⟨hr,ht⟩,hnx,hback _ hS⟩,dV _⟩
  ·rw[ae ht];rw[ah (λg=>ht g.2)]at hnx;subst hnx;refine ko (kd 39 kR rfl (ae (λg=>g hr))) (xb rfl ?_);refine jp (kH (vb rfl (ae (λg=>g hr))) rfl ?_);refine ja ?_;refine lu rfl (rfl) ?_;refine J2 ?_;intro wz16 hS;refine J1 ?_;refine jt ?_;refine nG (k:=3) rfl hk15_4 rfl kt hS rfl rfl ?_;exact⟨rfl,hS.kb⟩
 ·rw[ah (λg=>hr g.1)]at hnx;subst hnx;refine J2 ?_;refine jp (Mg rfl rfl ?_);refine J1 ?_;refine kS (kg 39 kR rfl (ai hr)) (kS (kg 39 kR rfl (ai hr)) (kS (kg 39 kR rfl (ai hr)) (kS (kg 39 kR rfl (ai hr)) (jp (kH (vb rfl (ai hr)) rfl ?_)))));refine ja ?_;refine lu rfl (rfl) ?_;refine J2 ?_;intro wz17 hS;refine J1 ?_;refine jt ?_;refine nG (k:=3) rfl hk15_4 rfl kt hS rfl rfl ?_;exact⟨rfl,hS.kb⟩
theorem OA {w0 w:World} {H:List lj} {k b o:Nat} {T:TypeId} {cs pre mid post:List Value} (hS:St w0 w H) (hk:H[k]?=some (b,T,cs)) (e:cs=pre++(mid++post)) (ho:o=pre.length):At w ⟨b,o,none⟩ mid:=by
 have:=hS.at hk o mid.length;rw[e,ho,List.drop_left,List.take_left]at this;rw[ho];exact this
theorem I7 (pre X Y post:List Value) (v:Value) (h:X.length=Y.length):splice (pre++v::(X++post)) (pre.length+1) Y=pre++v::(Y++post):=by
 unfold splice;have e:pre++v::(X++post)=((pre++[v])++X)++post:=by simp
 have l1:(pre++[v]).length=pre.length+1:=by simp
 have l2:((pre++[v])++X).length=pre.length+1+Y.length:=by rw[ax,l1,h]
 rw[e,<-l2,List.drop_left,<-l1,aG (pre++[v]),List.take_left];simp
theorem P4 (c:Int) (r:RR):Tryz.prog.built 207 [(0,.int .i64 c),(1,lC r)]=some #[.int .i64 c,.bool r.neg,.string r.num,.string r.den]:=by kernel_rfl
theorem KN (b:Nat) (T:TypeId) (pre post:List Value) (v:Value) (t:Tr) (p:Pa) (H LP:List lj) (w0 w:World) (hG:Gl pP 207 4 v t.ps LP) (hS:St w0 w (((b,T,pre++v::(ke (ki t.sm)++post))::H)++LP)) (hn:t.ps.length<=1000) (hL:L t.sm+L p.q<=MX):
  mb Tryz.prog 84 #[.pointer (some ⟨b,pre.length,none⟩),.int .i64 p.c,lC (ki p.q)] w λr w'=>r= .tuple #[]/\∃v' LP',Gl pP 207 4 v' (t.ps++[p]) LP'/\St w0 w' (((b,T,pre++v'::(ke (ki (t.sm+p.q))++post))::H)++LP'):=by
 refine enter Tryz.func84 rfl Tryz.ntmps84 rfl ?_;refine jr ?_;refine jh (lx (new:=ke (ki p.q)) rfl rfl hS ?_);intro b5 wz1 hS hBz1;refine ja ?_;replace hS:St w0 _ (((b5,32,ke (ki p.q))::(b,T,pre++v::(ke (ki t.sm)++post))::H)++LP):=hS;refine ja ?_;refine kK [jo 0,jo 1,jo 2,jo 3,ju 4,jo 5,ju 6,jo 7,jv 8,jw 9,jo 10,jo 11,jw 12] kR kR hS ?_;intro wz2 hS hBz2;refine J2 ?_;refine jl rfl (nc rfl ?_);refine J1 ?_;refine jm rfl (oW (cs:=[v]) rfl uC (OA (k:=1) hS rfl (pre:=pre) (mid:=[v]) rfl rfl) rfl rfl (.inr rfl) ?_);refine J2 ?_;refine jl rfl (lr rfl (P4 _ _) (jn rfl (np (vs:=[Tj p]) rfl GE rfl dD dD dD (by simp[Value.cells,Tj]) rfl hS ?_)));intro b3 wz4 hS hBz4;refine⟨hBz4,?_⟩;refine jx rfl (mO [p] rfl rfl GE dD hG hS rfl rfl Ew (M0 [p]) dL dL ?_);intro va5 La5 wa5 hG hS hga5;refine jl rfl (nc rfl ?_);refine J1 ?_;refine jx rfl (oX (k:=1) rfl rfl uC hS rfl (by simp) (by obtain⟨a,c,h⟩:=hG.len;rw[h];rfl) ?_);intro wz6 hS;refine ja ?_;replace hS:St w0 _ (((b5,32,ke (ki p.q))::(b,T,(pre++v::(ke (ki t.sm)++post)).set pre.length va5)::H)++_):=hS;rw[B5 _ _ _ _ rfl]at hS;refine ja ?_;refine kK [jo 0,jo 1,jo 2,jo 3,ju 4,ju 5,jv 6,jo 7,jo 8,jw 9] kR kR hS ?_;intro wz7 hS hBz7;refine J2 ?_;refine jl rfl (nc rfl ?_);refine J1 ?_;refine jm rfl (oW (v:=lC (ki t.sm)) (cs:=ke (ki t.sm)) rfl kt (OA (k:=1) hS rfl (pre:=pre++[va5]) (mid:=ke (ki t.sm)) (post:=post) (by simp) (by simp)) rfl rfl (.inl rfl) ?_);refine J1 ?_;refine jn rfl (kf Tryz.call18 rfl (ou (ki t.sm) (ki p.q) _ (by rw[Lr_ofQ,Lr_ofQ];exact hL)) ?_);rintro r w3 ⟨rfl,hB3⟩;refine⟨hB3,?_⟩;rw[toQ_ofQ,toQ_ofQ];replace hS:=hS.kx hB3;refine jl rfl (nc rfl ?_);refine J1 ?_;refine jx rfl (lX (k:=1) (new:=ke (ki (t.sm+p.q))) rfl rfl kt hS rfl rfl rfl (by simp[ke];omega) rfl ?_);intro wz8 hS;refine ja ?_;replace hS:St w0 _ (((b5,32,ke (ki p.q))::(b,T,splice (pre++va5::(ke (ki t.sm)++post)) (pre.length+1) (ke (ki (t.sm+p.q))))::H)++_):=hS;rw[I7 pre (ke (ki t.sm)) (ke (ki (t.sm+p.q))) post va5 rfl]at hS;exact qv rfl ⟨rfl,_,_,hG,hS.drop (ab _ _)⟩
def od (b:Bool):List Value:=[.bool b]
theorem mQ (b:Bool):(od b).length=1:=rfl
theorem E9 (p q:Rat):decide (tk p q<0)=decide (p<q):=by
 rcases t9 p q with⟨h1,h2⟩|⟨h1,h2⟩|⟨h1,h2⟩
 ·rw[h2,ai h1];rfl
 ·rw[h2,ae (by rw[h1];exact dy:¬p<q)];rfl
 ·rw[h2,ae (by grind:¬p<q)];rfl
theorem KP (p q:Rat):decide (0<tk p q)=decide (q<p):=by
 rcases t9 p q with⟨h1,h2⟩|⟨h1,h2⟩|⟨h1,h2⟩
 ·rw[h2,ae (by grind:¬q<p)];rfl
 ·rw[h2,ae (by rw[h1];exact dy:¬q<p)];rfl
 ·rw[h2,ai h1];rfl
theorem FK (p q:Rat):decide (0<=tk p q)=decide (q<=p):=by
 rcases t9 p q with⟨h1,h2⟩|⟨h1,h2⟩|⟨h1,h2⟩
 ·rw[h2,ae (by grind:¬q<=p)];rfl
 ·rw[h2,ai (by rw[h1];exact bP:q<=p)];rfl
 ·rw[h2,ai (by grind:q<=p)];rfl
def HO (n i:Nat) (R:List (Rw RR)):List Value:=R.map Rw.v++List.replicate (n-i) kp
theorem Ej (n:Nat) (w:World) (hn:n<=1000):
  mb Tryz.prog 93 #[.int .i64 n] w λv w'=>∃bo R,v= .slice (some ⟨bo,0,none⟩) n n/\mN R n n (qM λ_ _=>0)/\St w w' (mB ke 32 34 bo R []):=by
 have hS:=St.init w;refine enter Tryz.func93 rfl Tryz.ntmps93 rfl ?_;refine J2 ?_;refine jh (Ao (n:=n) rfl rfl lS oO oO oO oO hS ?_);intro bo wz1 hS hBz1;refine V1 ?_;replace hS:St w _ [(bo,34,rep n [kp])]:=hS;rw[FV]at hS;refine J3 ?_;refine jb ?_;refine kG (λρ w'=>ρ 3= .slice (some ⟨bo,0,none⟩) n n/\∃R,mN R n n (qM λ_ _=>0)/\St w w' (mB ke 32 34 bo R [])) ?_ ?_
 ·refine ja ?_;refine kF (σ:=Nat) (λi ρ w'=>i<=n/\ρ 0=iB n/\ρ 3= .slice (some ⟨bo,0,none⟩) n n/\ρ 8=iB n/\ρ 9=iB i/\∃R,mN R i n (qM λ_ _=>0)/\St w w' ((bo,34,HO n i R)::R.map (Rw.yf ke 32))) (λi=>n-i) 0
   ⟨aw _,rfl,rfl,rfl,rfl,[],⟨rfl,λi hi=>absurd hi (aS _),λi hi=>absurd hi (aS _)⟩,hS⟩ ?_
  clear hS;rintro i ρ w2 ⟨hi,h0,h3,h8,h9,R,hR,hS⟩;refine V1 ?_;by_cases hlt:i<n
  ·refine V1 ?_;have hlR:(R.map Rw.v).length=i:=by rw[bj,hR.len]
   have hfit:i<(HO n i R).length:=by unfold HO;rw[ax,hlR,eR];omega
   refine J5 ?_;refine jh (mq (enc:=ke) (n:=n) kZ rfl rfl kW rfl oO oO oO oO hS ?_);intro b15 wz2 hS hBz2;refine jp (kM (i:=i) rfl rfl oO dO lS (jh (sv [_] (i:=i) rfl rfl md hS oO hfit rfl ?_)));intro wz3 hS;refine V2 ?_;have hX:(⟨b15,n,List.replicate n kZ,[]⟩:Rw RR).X=kD n (qM (λ_ _=>0) i):=lQ n;refine⟨i+1,_,rfl,⟨hlt,jY,jY,jY,vi rfl oO,R++[⟨b15,n,List.replicate n kZ,[]⟩],AK hR hX ⟨aB _,by show n<=_;omega⟩,?_⟩,oO⟩;obtain⟨d,hd⟩:∃d,n-i=d+1:=⟨n-i-1,oO⟩;have e:(HO n i R).set i (.slice (some ⟨b15,0,none⟩) n n)=HO n (i+1) (R++[⟨b15,n,List.replicate n kZ,[]⟩]):=by
    unfold HO;rw[hd,fW,B5 _ _ _ _ hlR,bS,aG,show n-(i+1)=d by omega];show _=R.map Rw.v++([.slice (some ⟨b15,0,none⟩) (List.replicate n kZ).length n]++_);rw[eR];rfl
   replace hS:St w _ ([(b15,32,(List.replicate n kZ).flatMap ke)]++(bo,34,(HO n i R).set i (.slice (some ⟨b15,0,none⟩) n n))::R.map (Rw.yf ke 32)):=hS;rw[e]at hS;refine hS.perm ?_;rw[bS];show List.Perm ((b15,32,(List.replicate n kZ).flatMap ke)::(bo,34,_)::_) ((bo,34,_)::(_++[(b15,32,(List.replicate n kZ).flatMap ke++[])]));rw[aK];exact(List.Perm.swap _ _ _).trans (List.Perm.cons _ (eG _ _).symm)
  ·refine J1 ?_;refine jt ?_;obtain rfl:i=n:=oO;refine⟨_,rfl,h3,R,hR,?_⟩;unfold HO at hS;rw[dU,jE,aK]at hS;unfold mB;rw[aK];exact hS
 clear hS;rintro ρ w2 ⟨h3,R,hR,hS⟩;refine J2 ?_;refine jt ?_;refine kJ rfl rfl ?_;exact⟨bo,R,rfl,hR,hS⟩
def rV (M:Mx) (i j:Nat) (q:Rat):Mx:=λa b=>if a=i/\b=j then M i j+q else M a b
theorem Fc {R:List (Rw RR)} {n m:Nat} {M:Mx} {w0:World} {bo:Nat} {pre H:List lj} (c i j:Nat) (q:Rat) (w:World) (hR:mN R n m (qM M)) (hi:i<n) (hj:j<m) (hL:L (M i j)+L q<=MX) (hS:St w0 w (pre++mB ke 32 34 bo R H)):
  mb Tryz.prog 94 #[.slice (some ⟨bo,0,none⟩) n c,.int .i64 i,.int .i64 j,lC (ki q)] w λv w'=>v= .tuple #[]/\∃R',mN R' n m (qM (rV M i j q))/\St w0 w' (pre++mB ke 32 34 bo R' H):=by
 have hli:i<R.length:=by rw[hR.len];exact hi
 have hxi:j<(R.getD i o5).X.length:=by rw[hR.x9 hi];exact hj
 have hg:(R.getD i o5).X.getD j kZ=ki (M i j):=hR.get hi hj _;have hadd:=λw=>ou (ki (M i j)) (ki q) w (by rw[Lr_ofQ,Lr_ofQ];exact hL);rw[toQ_ofQ,toQ_ofQ]at hadd;refine enter Tryz.func94 rfl Tryz.ntmps94 rfl ?_;refine jr ?_;refine jh (lx (new:=ke (ki q)) rfl rfl hS ?_);intro b7 wz1 hS hBz1;refine ja ?_;replace hS:St w0 _ (((b7,32,ke (ki q))::pre)++mB ke 32 34 bo R H):=hS;refine ja ?_;refine kK [jo 0,jo 1,jo 2,ju 3,jo 4,jo 5,jo 6,jo 7,ju 8,jo 9,jo 10,ju 11,ju 12,jv 13,jo 14,jw 15] kR kR hS ?_;intro wz2 hS hBz2;refine J2 ?_;refine jl rfl (kM (i:=i) rfl rfl oO dO lS (jm rfl (nD (_::pre) (i:=i) rfl md hS oO hli ?_)));refine J3 ?_;refine jl rfl (kM (i:=i) rfl rfl oO dO lS (jm rfl (nD (_::pre) (i:=i) rfl md hS oO hli ?_)));refine J1 ?_;refine jl rfl (kM (i:=j) rfl rfl oO dO kW (jm rfl (rY (_::pre) (i:=i) (j:=j) kZ kA rfl kt hS rfl hli oO hxi rfl (.inl rfl) ?_)));refine J1 ?_;rw[hg];refine jn rfl (kf Tryz.call18 rfl (hadd _) ?_);rintro _ wc3 ⟨rfl,hBc3⟩;replace hS:=hS.kx hBc3;refine⟨hBc3,?_⟩;refine jl rfl (kM (i:=j) rfl rfl oO dO kW (jx rfl (yN (_::pre) (i:=i) (j:=j) (ki (M i j+q)) kA rfl rfl kt hS rfl hli oO hxi rfl rfl ?_)));intro wz4 hS;refine ja ?_;refine qv rfl ⟨rfl,_,(hR.put hi j (ki (M i j+q))).congr λa _ b _=> ?_,hS.drop (ab _ _)⟩;show(if a=i/\b=j then ki (M i j+q)else ki (M a b))=ki (rV M i j q a b);unfold rV;split<;>rfl
def rL (M:Mx) (c k:Nat):Rat:=ku (λi=>M i c) k
def GO (M:Mx) (n c:Nat):Bool:=decide (rL M c n<1)
theorem NO (v:Value) (vs:List Value) (n m:Nat) (M:Mx) (c:Nat) (w:World) (hA:rB ke 3 w v (wN n m (qM M)) vs) (hc:c<m) (hL:∀i,i<n->L (rL M c i)+L (M i c)<=MX) (hL2:L (rL M c n)+1<=MX):
  mb Tryz.prog 101 #[v,.int .i64 c] w λu w'=>u= .bool (GO M n c)/\Below w.heap.size w w':=by
 have hmx:=hA.sl.maxLen;have hlen:=hA.len;rw[nl]at hlen;have hL1:L 1<=1:=FG (n:=1) dD;have hS:=St.init w;refine enter Tryz.func101 rfl Tryz.ntmps101 rfl ?_;refine Y1 ?_;refine jp (lr rfl pM ?_);refine J1 ?_;intro b5 wz1 hS hBz1;refine J1 ?_;intro wz2 hS;refine ja ?_;replace hS:St w _ [(b5,32,ke kZ)]:=hS;rw[pK]at hS;refine J1 ?_;refine jp (ky rfl (hA.sl.kb hS.kb) ⟨_,Tryz.underlying35⟩ ?_);refine J1 ?_;refine jb ?_;rw[hlen];refine kG (λρ w'=>ρ 5=pB b5/\St w w' [(b5,32,ke (ki (rL M c n)))]) ?_ ?_
 ·refine ja ?_;refine kF (σ:=Nat) (λi ρ w'=>i<=n/\ρ 1=iB c/\ρ 5=pB b5/\ρ 9=v/\ρ 10=iB n/\ρ 11=iB i/\St w w' [(b5,32,ke (ki (rL M c i)))]) (λi=>n-i) 0
   ⟨aw _,rfl,rfl,rfl,rfl,rfl,hS⟩ ?_
  clear hS;rintro i ρ w2 ⟨hi,h1,h5,h9,h10,h11,hS⟩;refine V1 ?_;by_cases hlt:i<n
  ·refine V1 ?_;have hrow:=hA.row i (by rw[nl];exact hlt);rw[p9 _ hlt]at hrow;have htl:=kj m (qM M i);have hg:(kD m (qM M i)).getD c kZ=ki (M i c):=kB _ _ hc;have hadd:=λw=>ou (ki (rL M c i)) (ki (M i c)) w (by rw[Lr_ofQ,Lr_ofQ];exact hL i hlt);rw[toQ_ofQ,toQ_ofQ]at hadd;refine jr ?_;refine jp (ks (i:=i) h9 h11 (hA.sl.kb hS.kb) oO dO lS (jq (kC (i:=i) undef rfl md (hA.sl.kb hS.kb) dO rfl rfl (.inr rfl) ?_)));refine V1 ?_;refine kK [ju 0,jo 1,jo 2,jo 3,ju 4,jv 5,jw 6] kR kR hS ?_;intro wz3 hS hBz3;refine J3 ?_;refine jl rfl (ks (i:=c) rfl rfl (hrow.kb hS.kb) oO dO kW (jm rfl (kC (i:=c) kZ rfl kt (hrow.kb hS.kb) dO rfl rfl (.inl rfl) ?_)));rw[hg];refine jn rfl (kf Tryz.call18 rfl (hadd _) ?_);rintro _ wc4 ⟨rfl,hBc4⟩;replace hS:=hS.kx hBc4;refine⟨hBc4,?_⟩;refine J1 ?_;intro wz5 hS;refine V2 ?_;exact⟨i+1,_,rfl,⟨hlt,jY,jY,jY,jY,vi rfl oO,hS⟩,oO⟩
  ·refine J1 ?_;refine jt ?_;obtain rfl:i=n:=oO;exact⟨_,rfl,h5,hS⟩
 clear hS;rintro ρ w2 ⟨h5,hS⟩;refine ja ?_;refine kK [ju 0,jv 1,jv 2,jo 3,jo 4] kR kR hS ?_;intro wz6 hS hBz6;refine J1 ?_;refine jn rfl (kf Tryz.call33 rfl (mY 1 _ dD dD) ?_);rintro _ wc7 ⟨rfl,hBc7⟩;replace hS:=hS.kx hBc7;refine⟨hBc7,?_⟩;rw[show((1:Int):Rat)=1 from rfl];refine jn rfl (kf Tryz.call50 rfl (pR _ _ _ (by rw[Lr_ofQ,Lr_ofQ];omega)) ?_);rintro _ wc8 ⟨rfl,hBc8⟩;replace hS:=hS.kx hBc8;refine⟨hBc8,?_⟩;refine V2 ?_;rw[toQ_ofQ,toQ_ofQ];refine jt ?_;refine kJ rfl rfl ?_;refine⟨?_,hS.kb⟩;show Value.bool (decide (tk (rL M c n) 1<0))=Value.bool (GO M n c);rw[E9];rfl
def ue (B:List Bool) (k:Nat):List Nat:=(List.range k).filter λi=>B.getD i false
theorem JR (B:List Bool) (k:Nat):ue B (k+1)=if B.getD k false=true then ue B k++[k]else ue B k:=by
 unfold ue;rw[iV,im];by_cases h:B.getD k false=true
 ·rw[aj h];rw[ak]at h;simp[h]
 ·rw[ah h];rw[ak]at h;simp[h]
theorem Am (B:List Bool) (k:Nat):(ue B k).length<=k:=by
 have:=i4 (λi=>B.getD i false) (List.range k);rw[dE]at this;exact this
theorem Ma (v:Value) (B:List Bool) (w:World) (hv:Sl od 1 w v B) (hn:B.length<=1000):
  mb Tryz.prog 62 #[v] w λr w'=>∃LO,Gl tv 3 1 r (nI (ue B B.length)) LO/\St w w' LO:=by
 have hS:=St.init w;refine enter Tryz.func62 rfl Tryz.ntmps62 rfl ?_;refine J3 ?_;refine jp (ky rfl (hv.kb hS.kb) ⟨_,Tryz.underlying36⟩ ?_);refine J1 ?_;refine jb ?_;refine kG (λρ w'=>∃vo LO,ρ 3=vo/\Gl tv 3 1 vo (nI (ue B B.length)) LO/\St w w' LO) ?_ ?_
 ·refine ja ?_;refine kF (σ:=Nat) (λi ρ w'=>i<=B.length/\ρ 6=v/\ρ 7=iB B.length/\ρ 8=iB i/\∃vo LO,ρ 3=vo/\Gl tv 3 1 vo (nI (ue B i)) LO/\St w w' ([]++LO)) (λi=>B.length-i) 0
   ⟨aw _,rfl,rfl,rfl,_,[],rfl,Gl.nil _ _ _,hS⟩ ?_
  clear hS;rintro i ρ w2 ⟨hi,h6,h7,h8,vo,LO,h3,hG,hS⟩;have hll:=Am B i;have hnl:=sn (ue B i);refine V1 ?_;by_cases hlt:i<B.length
  ·refine V1 ?_;have hts:=JR B i;refine J1 ?_;refine jp (ks (i:=i) h6 h8 (hv.kb hS.kb) oO dO qx (jq (kC (i:=i) false rfl qB (hv.kb hS.kb) dO rfl rfl (.inr rfl) ?_)));refine J3 ?_;refine jb ?_;refine kG (λρ w'=>ρ 6=v/\ρ 7=iB B.length/\ρ 8=iB i/\∃vo LO,ρ 3=vo/\Gl tv 3 1 vo (nI (ue B (i+1))) LO/\St w w' ([]++LO)) ?_ ?_
   ·refine ja ?_;by_cases hb:B.getD i false=true
    ·refine lu rfl (hb) ?_;refine ja ?_;rw[aj hb]at hts;refine J2 ?_;refine jh (np (vs:=[.int .i64 i]) rfl p7 rfl dD dD dD (by simp[Value.cells]) rfl hS ?_);intro b16 wz1 hS hBz1;refine jh (mO [(i:Int)] rfl rfl p7 dD hG hS rfl rfl (λ_=>rfl) (λu hu=>by rw[aO.1 (show u∈[Value.int .i64 (i:Int)]from hu)];rfl) dL dL ?_);intro va2 La2 wa2 hG hS hga2;refine V1 ?_;rw[hts,LA];exact⟨_,rfl,jY,jY,jY,_,_,rfl,hG,hS⟩
    ·refine lH rfl (by simpa using hb) ?_;refine ja ?_;rw[ah hb]at hts;rw[hts];exact⟨_,rfl,jY,jY,jY,vo,_,jY,hG,hS⟩
   clear hS hG;rintro ρ w3 ⟨h6,h7,h8,vo,LO,h3,hG,hS⟩;refine V2 ?_;exact⟨i+1,_,rfl,⟨hlt,jY,jY,vi rfl oO,_,_,jY,hG,hS⟩,oO⟩
  ·refine J1 ?_;refine jt ?_;obtain rfl:i=B.length:=oO;exact⟨_,rfl,vo,LO,h3,hG,hS⟩
 clear hS;rintro ρ w2 ⟨vo,LO,h3,hG,hS⟩;refine J2 ?_;refine jt ?_;refine kJ rfl rfl ?_;exact⟨LO,hG,hS⟩
def Rx (x d:Nat->Rat) (h:Rat) (i k:Nat):Rat:=if k<i then x k+h*d k else 0
theorem BL (n:Nat) (f g:Nat->Rat) (i:Nat) (q:Rat) (h:∀k,k<n->(if k=i then q else f k)=g k):(kD n λk=>ki (f k)).set i (ki q)=kD n λk=>ki (g k):=by
 rw[zW];exact kN λk hk=>by rw[h k hk]
theorem Ad (vx vd:Value) (n:Nat) (x d:Nat->Rat) (h:Rat) (w:World) (hx:Sl ke 3 w vx (kD n λi=>ki (x i))) (hd:Sl ke 3 w vd (kD n λi=>ki (d i))) (hn:n<=1000) (hL:∀i,i<n->L (x i)+L h+L (d i)+2<=MX):
  mb Tryz.prog 64 #[vx,vd,lC (ki h)] w λr w'=>∃LO,Gl ke 32 3 r (kD n λi=>ki (x i+h*d i)) LO/\St w w' LO:=by
 have hS:=St.init w;have hlx:=kj n λi=>ki (x i);have hld:=kj n λi=>ki (d i);refine enter Tryz.func64 rfl Tryz.ntmps64 rfl ?_;refine jr ?_;refine jh (lx (new:=ke (ki h)) rfl rfl hS ?_);intro b5 wz1 hS hBz1;refine J2 ?_;refine jp (ky rfl (hx.kb hS.kb) ⟨_,Tryz.underlying34⟩ (jh (mq (enc:=ke) (n:=n) kZ rfl rfl kW rfl oO oO oO oO hS ?_)));intro b11 wz2 hS hBz2;refine V1 ?_;replace hS:St w _ ([(b5,32,ke (ki h))]++[(b11,32,(List.replicate n kZ).flatMap ke)]):=hS.perm (List.Perm.swap _ _ _);rw[lQ]at hS;have hG:Gl ke 32 3 (.slice (some ⟨b11,0,none⟩) n n) (kD n λk=>ki (Rx x d h 0 k)) [(b11,32,(kD n λk=>ki (Rx x d h 0 k)).flatMap ke)]:=qe (kj _ _) oO;refine J1 ?_;refine jp (ky rfl (hx.kb hS.kb) ⟨_,Tryz.underlying34⟩ ?_);refine J1 ?_;refine jb ?_;rw[hlx];refine kG (λρ w'=>∃LO,ρ 7= .slice (some ⟨b11,0,none⟩) n n/\Gl ke 32 3 (.slice (some ⟨b11,0,none⟩) n n) (kD n λi=>ki (x i+h*d i)) LO/\St w w' LO) ?_ ?_
 ·refine ja ?_;refine kF (σ:=Nat) (λi ρ w'=>i<=n/\ρ 0=vx/\ρ 1=vd/\ρ 5=pB b5/\ρ 7= .slice (some ⟨b11,0,none⟩) n n/\ρ 13=iB n/\ρ 14=iB i/\∃LO,Gl ke 32 3 (.slice (some ⟨b11,0,none⟩) n n) (kD n λk=>ki (Rx x d h i k)) LO/\St w w' ([(b5,32,ke (ki h))]++LO)) (λi=>n-i) 0
   ⟨aw _,rfl,rfl,rfl,rfl,rfl,rfl,_,hG,hS⟩ ?_
  clear hS hG;rintro i ρ w2 ⟨hi,h0,h1,h5,h7,h13,h14,LO,hG,hS⟩;have htl:=kj n λk=>ki (Rx x d h i k);refine V1 ?_;by_cases hlt:i<n
  ·refine V1 ?_;have hgx:(kD n λi=>ki (x i)).getD i kZ=ki (x i):=kB _ _ hlt;have hgd:(kD n λi=>ki (d i)).getD i kZ=ki (d i):=kB _ _ hlt;have hLi:=hL i hlt;have hm:=yr h (d i);have hmul:=λw=>qF (ki h) (ki (d i)) w (by rw[Lr_ofQ,Lr_ofQ];omega);rw[toQ_ofQ,toQ_ofQ]at hmul;have hadd:=λw=>ou (ki (x i)) (ki (h*d i)) w (by rw[Lr_ofQ,Lr_ofQ];omega);rw[toQ_ofQ,toQ_ofQ]at hadd;refine V2 ?_;refine kK [jo 0,jo 1,jo 2,jo 3,jo 4,ju 5,ju 6,jo 7,jo 8,jo 9,ju 10,jv 11,jv 12,jo 13,jw 14] kR kR hS ?_;intro wz3 hS hBz3;refine J4 ?_;refine jl rfl (ks (i:=i) rfl rfl (hx.kb hS.kb) oO dO kW (jm rfl (kC (i:=i) kZ rfl kt (hx.kb hS.kb) dO rfl rfl (.inl rfl) ?_)));refine J3 ?_;refine jl rfl (ks (i:=i) rfl rfl (hd.kb hS.kb) oO dO kW (jm rfl (kC (i:=i) kZ rfl kt (hd.kb hS.kb) dO rfl rfl (.inl rfl) ?_)));rw[hgx,hgd];refine jn rfl (kf Tryz.call11 rfl (hmul _) ?_);rintro _ wc4 ⟨rfl,hBc4⟩;replace hS:=hS.kx hBc4;refine⟨hBc4,?_⟩;refine jn rfl (kf Tryz.call18 rfl (hadd _) ?_);rintro _ wc5 ⟨rfl,hBc5⟩;replace hS:=hS.kx hBc5;refine⟨hBc5,?_⟩;refine jl rfl (ks (i:=i) rfl rfl (hG.sl hS kA) oO dO kW (jx rfl (ug (i:=i) (ki (x i+h*d i)) kA rfl rfl kt hG hS oO rfl rfl ?_)));intro wz6 hS;refine ja ?_;obtain⟨LC2,hG,hS⟩:=hS;rw[BL n (Rx x d h i) (Rx x d h (i+1)) i (x i+h*d i) (λk _=>by
    unfold Rx;by_cases e:k=i
    ·rw[aj e,aj oO,e]
    ·rw[ah e];by_cases e2:k<i
     ·rw[aj e2,aj oO]
     ·rw[ah e2,ah oO])]at hG
   refine V2 ?_;exact⟨i+1,_,rfl,⟨hlt,jY,jY,jY,jY,jY,vi rfl oO,_,hG,hS⟩,oO⟩
  ·refine J1 ?_;refine jt ?_;obtain rfl:i=n:=oO;have e:(kD i λk=>ki (Rx x d h i k))=kD i λk=>ki (x k+h*d k):=kN λk hk=>by unfold Rx;rw[aj hk]
   rw[e]at hG;exact⟨_,rfl,LO,h7,hG,hS.drop (ao _ _)⟩
 clear hS hG;rintro ρ w2 ⟨LO,h7,hG,hS⟩;refine J2 ?_;refine jt ?_;refine kJ rfl rfl ?_;exact⟨LO,hG,hS⟩
def u9 (C:List Nat) (l:Nat->Rat) (k i:Nat):Rat:=if i∈C.take k then l (C.idxOf i)else 0
theorem wu (C:List Nat) (hC:C.Nodup) {k:Nat} (hk:k<C.length):C.idxOf (C.getD k 0)=k:=by
 rw[ak,aF hk,fi];exact List.Nodup.idxOf_getElem hC k hk
theorem EF (vc vl:Value) (n:Nat) (C:List Nat) (l:Nat->Rat) (w:World) (hc:Sl tv 1 w vc (nI C)) (hl:Sl ke 3 w vl (kD C.length λi=>ki (l i))) (hC:C.Nodup) (hCn:∀i∈C,i<n) (hn:n<=1000):
  mb Tryz.prog 104 #[.int .i64 n,vc,vl] w λr w'=>∃LO,Gl ke 32 3 r (kD n λi=>ki (u9 C l C.length i)) LO/\St w w' LO:=by
 have hS:=St.init w;have hll:=kj C.length λi=>ki (l i);have hnl:=sn C;have hmx:=hc.maxLen;refine enter Tryz.func104 rfl Tryz.ntmps104 rfl ?_;refine J2 ?_;refine jh (mq (enc:=ke) (n:=n) kZ rfl rfl kW rfl oO oO oO oO hS ?_);intro b11 wz1 hS hBz1;refine V1 ?_;replace hS:St w _ ([]++[(b11,32,(List.replicate n kZ).flatMap ke)]):=hS;rw[lQ]at hS;have hG:Gl ke 32 3 (.slice (some ⟨b11,0,none⟩) n n) (kD n λk=>ki (u9 C l 0 k)) [(b11,32,(kD n λk=>ki (u9 C l 0 k)).flatMap ke)]:=qe (kj _ _) oO;refine J1 ?_;refine jp (ky rfl (hc.kb hS.kb) ⟨_,Tryz.underlying46⟩ ?_);refine J1 ?_;refine jb ?_;rw[hnl];refine kG (λρ w'=>∃LO,ρ 7= .slice (some ⟨b11,0,none⟩) n n/\Gl ke 32 3 (.slice (some ⟨b11,0,none⟩) n n) (kD n λi=>ki (u9 C l C.length i)) LO/\St w w' LO) ?_ ?_
 ·refine ja ?_;refine kF (σ:=Nat) (λi ρ w'=>i<=C.length/\ρ 2=vl/\ρ 7= .slice (some ⟨b11,0,none⟩) n n/\ρ 12=vc/\ρ 13=iB C.length/\ρ 14=iB i/\∃LO,Gl ke 32 3 (.slice (some ⟨b11,0,none⟩) n n) (kD n λk=>ki (u9 C l i k)) LO/\St w w' ([]++LO)) (λi=>C.length-i) 0
   ⟨aw _,rfl,rfl,rfl,rfl,rfl,_,hG,hS⟩ ?_
  clear hS hG;rintro i ρ w2 ⟨hi,h2,h7,h12,h13,h14,LO,hG,hS⟩;have htl:=kj n λk=>ki (u9 C l i k);refine V1 ?_;by_cases hlt:i<C.length
  ·refine V1 ?_;obtain⟨k,hk⟩:=jz (C.getD i 0);have hkn:k<n:=hCn k (by rw[hk];exact kO _ _ _ hlt);have hni:(nI C).getD i 0=(k:Int):=by unfold nI;rw[getD_map _ _ 0 _ hlt,hk]
   have hgl:(kD C.length λi=>ki (l i)).getD i kZ=ki (l i):=kB _ _ hlt;have ht:=lT C i 0 hlt;rw[<-hk]at ht;have hix:=wu C hC hlt;rw[<-hk]at hix;refine J1 ?_;refine jp (ks (i:=i) h12 h14 (hc.kb hS.kb) oO dO p7 (jq (kC (i:=i) 0 rfl mR (hc.kb hS.kb) dO rfl rfl (.inr rfl) ?_)));refine V2 ?_;rw[hni];refine J4 ?_;refine jp (ks (i:=i) rfl rfl (hl.kb hS.kb) oO dO kW (jq (kC (i:=i) kZ rfl kt (hl.kb hS.kb) dO rfl rfl (.inl rfl) (jp (ks (i:=k) rfl rfl (hG.sl hS kA) oO dO kW (jh (ug (i:=k) (ki (l i)) kA rfl rfl kt hG hS oO (by rw[hgl];rfl) rfl ?_)))))));intro wz2 hS;refine ja ?_;obtain⟨LC2,hG,hS⟩:=hS;rw[BL n (u9 C l i) (u9 C l (i+1)) k (l i) (λa _=>by
    unfold u9;rw[ht];by_cases e:a=k
    ·rw[aj e,aj (by rw[e];simp),e,hix]
    ·rw[ah e];have:a∈C.take i++[k]↔a∈C.take i:=by simp[e]
     simp only[this])]at hG
   refine V2 ?_;exact⟨i+1,_,rfl,⟨hlt,jY,jY,jY,jY,vi rfl oO,_,hG,hS⟩,oO⟩
  ·refine J1 ?_;refine jt ?_;obtain rfl:i=C.length:=oO;exact⟨_,rfl,LO,h7,hG,hS⟩
 clear hS hG;rintro ρ w2 ⟨LO,h7,hG,hS⟩;refine J2 ?_;refine jt ?_;refine kJ rfl rfl ?_;exact⟨LO,hG,hS⟩
def th (M:Mx) (C:List Nat):Mx:=λa b=>M (C.getD a 0) (C.getD b 0)-(if a=b then 1 else 0)
def yC (M:Mx) (C:List Nat) (i j:Nat):Mx:=λa b=>if a<i then th M C a b else if a=i/\b<j then M (C.getD a 0) (C.getD b 0)else 0
theorem Oq (v vc:Value) (vs:List Value) (n:Nat) (M:Mx) (C:List Nat) (w:World) (hA:rB ke 3 w v (wN n n (qM M)) vs) (hc:Sl tv 1 w vc (nI C)) (hCn:∀i∈C,i<n) (hn:C.length<=1000) (hL:∀i,i<C.length->L (M (C.getD i 0) (C.getD i 0))+1<=MX):
  mb Tryz.prog 103 #[v,vc] w λr w'=>∃bo R,r= .slice (some ⟨bo,0,none⟩) C.length C.length/\mN R C.length C.length (qM (th M C))/\St w w' (mB ke 32 34 bo R []):=by
 have hS:=St.init w;have hmx:=hA.sl.maxLen;have hlen:=hA.len;rw[nl]at hlen;have hnl:=sn C;have hL1:L 1<=1:=FG (n:=1) dD;obtain⟨m,hm⟩:=jz C.length;rw[<-hm]at hn hL hnl⊢;refine enter Tryz.func103 rfl Tryz.ntmps103 rfl ?_;refine J2 ?_;refine jp (ky rfl (hc.kb hS.kb) ⟨_,Tryz.underlying46⟩ ?_);rw[hnl];refine jh (kf Tryz.call93 rfl (Ej m _ hn) ?_);rintro r w3 ⟨bo,R0,rfl,hR0,hS3⟩;replace hS:=hS.join hS3;refine V1 ?_;rw[aK]at hS;refine J1 ?_;refine jp (ky rfl (hc.kb hS.kb) ⟨_,Tryz.underlying46⟩ ?_);refine J1 ?_;refine jb ?_;rw[hnl];refine kG (λρ w'=>ρ 5= .slice (some ⟨bo,0,none⟩) m m/\∃R,mN R m m (qM (th M C))/\St w w' (mB ke 32 34 bo R [])) ?_ ?_
 ·refine ja ?_;refine kF (σ:=Nat) (λi ρ w'=>i<=m/\ρ 0=v/\ρ 1=vc/\ρ 5= .slice (some ⟨bo,0,none⟩) m m/\ρ 13=vc/\ρ 14=iB m/\ρ 15=iB i/\∃R,mN R m m (qM (yC M C i 0))/\St w w' (mB ke 32 34 bo R [])) (λi=>m-i) 0
   ⟨aw _,rfl,rfl,rfl,rfl,rfl,rfl,R0,hR0.congr λa _ b _=>by show ki 0=ki (yC M C 0 0 a b);unfold yC;rw[ah oO,ah oO],hS⟩ ?_
  clear hS hR0;rintro i ρ w2 ⟨hi,h0,h1,h5,h13,h14,h15,R,hR,hS⟩;refine V1 ?_;by_cases hlt:i<m
  ·refine V1 ?_;obtain⟨k,hk⟩:=jz (C.getD i 0);have hkn:k<n:=hCn k (by rw[hk];exact kO _ _ _ oO);have hni:(nI C).getD i 0=(k:Int):=by unfold nI;rw[getD_map _ _ 0 _ oO,hk]
   have hrow:=hA.row k (by rw[nl];exact hkn);rw[p9 _ hkn]at hrow;have htl:=kj n (qM M k);refine J1 ?_;refine jp (ks (i:=i) h13 h15 (hc.kb hS.kb) oO dO p7 (jq (kC (i:=i) 0 rfl mR (hc.kb hS.kb) dO rfl rfl (.inr rfl) ?_)));refine V2 ?_;rw[hni];refine J1 ?_;refine jp (ky rfl (hc.kb hS.kb) ⟨_,Tryz.underlying46⟩ ?_);refine J1 ?_;refine jb ?_;rw[hnl];refine kG (λρ w'=>ρ 0=v/\ρ 1=vc/\ρ 5= .slice (some ⟨bo,0,none⟩) m m/\ρ 6=iB i/\ρ 13=vc/\ρ 14=iB m/\ρ 15=iB i/\∃R,mN R m m (qM (yC M C i m))/\St w w' (mB ke 32 34 bo R [])) ?_ ?_
   ·refine ja ?_;refine kF (σ:=Nat) (λj ρ w'=>j<=m/\ρ 0=v/\ρ 1=vc/\ρ 5= .slice (some ⟨bo,0,none⟩) m m/\ρ 6=iB i/\ρ 7=iB k/\ρ 13=vc/\ρ 14=iB m/\ρ 15=iB i/\ρ 20=vc/\ρ 21=iB m/\ρ 22=iB j/\∃R,mN R m m (qM (yC M C i j))/\St w w' (mB ke 32 34 bo R [])) (λj=>m-j) 0
     ⟨aw _,jY,jY,jY,rfl,rfl,jY,jY,jY,rfl,rfl,rfl,R,hR,hS⟩ ?_
    clear hS hR;rintro j ρ w4 ⟨hj,h0,h1,h5,h6,h7,h13,h14,h15,h20,h21,h22,R,hR,hS⟩;refine V1 ?_;by_cases hjl:j<m
    ·refine V1 ?_;obtain⟨q,hq⟩:=jz (C.getD j 0);have hqn:q<n:=hCn q (by rw[hq];exact kO _ _ _ oO);have hnj:(nI C).getD j 0=(q:Int):=by unfold nI;rw[getD_map _ _ 0 _ oO,hq]
     have hli:i<R.length:=by rw[hR.len];exact hlt
     have hxi:j<(R.getD i o5).X.length:=by rw[hR.x9 hlt];exact hjl
     have hg:(kD n (qM M k)).getD q kZ=ki (M k q):=kB _ _ hqn;refine J1 ?_;refine jp (ks (i:=j) h20 h22 (hc.kb hS.kb) oO dO p7 (jq (kC (i:=j) 0 rfl mR (hc.kb hS.kb) dO rfl rfl (.inr rfl) ?_)));refine V2 ?_;rw[hnj];refine ja ?_;refine kK [jo 0,jo 1,jo 2,ju 3,jo 4,jo 5,jo 6,jo 7,ju 8,jo 9,jo 10,ju 11,jo 12,jw 13] kR kR hS ?_;intro wz1 hS hBz1;refine J2 ?_;refine jl rfl (kM (i:=i) rfl rfl oO dO lS (jm rfl (nD [] (i:=i) rfl md hS oO hli ?_)));refine J3 ?_;refine jl rfl (ks (i:=k) rfl rfl (hA.sl.kb hS.kb) oO dO lS (jm rfl (kC (i:=k) undef rfl md (hA.sl.kb hS.kb) dO rfl rfl (.inr rfl) ?_)));refine J1 ?_;refine jl rfl (ks (i:=q) rfl rfl (hrow.kb hS.kb) oO dO kW (jm rfl (kC (i:=q) kZ rfl kt (hrow.kb hS.kb) dO rfl rfl (.inl rfl) (jl rfl (kM (i:=j) rfl rfl oO dO kW (jx rfl (yN [] (i:=i) (j:=j) (ki (M k q)) kA rfl rfl kt hS rfl hli oO hxi (by rw[hg];rfl) rfl ?_)))))));intro wz2 hS;refine V2 ?_;refine⟨j+1,_,rfl,⟨hjl,jY,jY,jY,jY,jY,jY,jY,jY,jY,jY,vi rfl oO,_,(hR.put hlt j (ki (M k q))).congr λa _ b _=> ?_,hS⟩,oO⟩;show(if a=i/\b=j then ki (M k q)else ki (yC M C i j a b))=ki (yC M C i (j+1) a b);unfold yC;by_cases g:a=i/\b=j
     ·rw[aj g,ah oO,aj oO,g.1,g.2,hk,hq]
     ·rw[ah g];by_cases g1:a<i
      ·rw[aj g1,aj g1]
      ·rw[ah g1,ah g1];by_cases g2:a=i/\b<j
       ·rw[aj g2,aj oO]
       ·rw[ah g2,ah oO]
    ·refine J1 ?_;refine jt ?_;obtain rfl:j=m:=oO;exact⟨_,rfl,h0,h1,h5,h6,h13,h14,h15,R,hR,hS⟩
   clear hS hR;rintro ρ w4 ⟨h0,h1,h5,h6,h13,h14,h15,R,hR,hS⟩;have hli:i<R.length:=by rw[hR.len];exact hlt
   have hxi:i<(R.getD i o5).X.length:=by rw[hR.x9 hlt];exact hlt
   have hg:(R.getD i o5).X.getD i kZ=ki (M k k):=by
    rw[hR.get hlt hlt];show ki (yC M C i m i i)=_;unfold yC;rw[ah oO,aj ⟨rfl,hlt⟩,hk]
   have hLi:=hL i hlt;rw[<-hk]at hLi;have hsub:=λw=>mI (ki (M k k)) (ki 1) w (by rw[Lr_ofQ,Lr_ofQ];omega);rw[toQ_ofQ,toQ_ofQ]at hsub;refine ja ?_;refine kK [jo 0,jo 1,jo 2,ju 3,jo 4,jo 5,jo 6,jo 7,ju 8,jo 9,jo 10,ju 11,jv 12,jv 13,jo 14,jw 15] kR kR hS ?_;intro wz3 hS hBz3;refine J2 ?_;refine jl rfl (kM (i:=i) rfl rfl oO dO lS (jm rfl (nD [] (i:=i) rfl md hS oO hli ?_)));refine J3 ?_;refine jl rfl (kM (i:=i) rfl rfl oO dO lS (jm rfl (nD [] (i:=i) rfl md hS oO hli ?_)));refine J1 ?_;refine jl rfl (kM (i:=i) rfl rfl oO dO kW (jm rfl (rY [] (i:=i) (j:=i) kZ kA rfl kt hS rfl hli oO hxi rfl (.inl rfl) ?_)));rw[hg];refine jn rfl (kf Tryz.call33 rfl (mY 1 _ dD dD) ?_);rintro r w5 ⟨rfl,hB5⟩;refine⟨hB5,?_⟩;rw[show((1:Int):Rat)=1 from rfl];replace hS:=hS.kx hB5;refine jn rfl (kf Tryz.call16 rfl (hsub _) ?_);rintro _ wc4 ⟨rfl,hBc4⟩;replace hS:=hS.kx hBc4;refine⟨hBc4,?_⟩;refine jl rfl (kM (i:=i) rfl rfl oO dO kW (jx rfl (yN [] (i:=i) (j:=i) (ki (M k k-1)) kA rfl rfl kt hS rfl hli oO hxi rfl rfl ?_)));intro wz5 hS;refine V2 ?_;refine⟨i+1,_,rfl,⟨hlt,jY,jY,jY,jY,jY,vi rfl oO,_,(hR.put hlt i (ki (M k k-1))).congr λa ha b hb=> ?_,hS⟩,oO⟩;show(if a=i/\b=i then ki (M k k-1)else ki (yC M C i m a b))=ki (yC M C (i+1) 0 a b);unfold yC;by_cases g:a=i/\b=i
   ·rw[aj g,aj oO];unfold th;rw[g.1,g.2,aj rfl,hk]
   ·rw[ah g];by_cases g1:a<i
    ·rw[aj g1,aj oO]
    ·rw[ah g1];by_cases g2:a=i
     ·rw[aj ⟨g2,hb⟩,aj oO];unfold th;rw[ah oO,ib,Rat.neg_zero,hJ]
     ·rw[ah oO,ah oO,ah oO]
  ·refine J1 ?_;refine jt ?_;obtain rfl:i=m:=oO;refine⟨_,rfl,h5,R,hR.congr λa ha b _=> ?_,hS⟩;show ki (yC M C i 0 a b)=ki (th M C a b);unfold yC;rw[aj ha]
 clear hS hR0;rintro ρ w2 ⟨h5,R,hR,hS⟩;refine J2 ?_;refine jt ?_;refine kJ rfl rfl ?_;exact⟨bo,R,rfl,hR,hS⟩
end Go.Proofs.YtoeiejliehgopaaGreatDoor
