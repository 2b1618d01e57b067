/-
  Part 5 of the proof of TopSplit: framework, walks, plain laws.
-/
import Derived.Test.YtoeiejliehgopaaGreatDoorVd4
set_option maxRecDepth 20000
set_option maxHeartbeats 8000000
namespace Go.Proofs.YtoeiejliehgopaaGreatDoor
open Go Go.RowKit Go.Sx
def nI (L:List Nat):List Int:=L.map λi:Nat=>(i:Int)
theorem sn (L:List Nat):(nI L).length=L.length:=bj _
theorem LA (L:List Nat) (c:Nat):nI (L++[c])=nI L++[(c:Int)]:=by unfold nI;rw[bS];rfl
def BB (K r:Nat):Nat:=4^r*(K+1)
theorem Ln (K r:Nat):BB K (r+1)=4*BB K r:=by unfold BB;rw[bC];rw[bF (4^r) 4,ba]
theorem BW (K:Nat) {r s:Nat} (h:r<=s):BB K r<=BB K s:=aI _ (bJ dD h)
theorem SF {M:Mx} {n m r p b:Nat} (hp:p<n) (hr:r<n) (h:∀i,i<n->∀j,j<m->L (M i j)<=b):∀i,i<n->∀j,j<m->L (oT M r p i j)<=b:=by
 intro i hi j hj;unfold oT;split
 ·exact h _ hp j hj
 ·split
  ·exact h _ hr j hj
  ·exact h _ hi j hj
theorem If {n m:Nat} {M:Mx} {K:Nat} (h:∀i,i<n->∀j,j<m->L (M i j)<=K):∀c,c<=m->(∀i,i<n->∀j,j<m->L ((lR n M c).M i j)+1<=BB K (lR n M c).P.length)/\L (lR n M c).d<=BB K (lR n M c).P.length
 |0,_=>by
  refine⟨λi hi j hj=> ?_,?_⟩
  ·have:=h i hi j hj;show L (M i j)+1<=BB K 0;unfold BB;omega
  ·show L 1<=BB K 0;have:L (((1:Int):Rat))<=1:=Wg 1 dD dD;unfold BB;have e:((1:Int):Rat)=1:=rfl;rw[e]at this;omega
 |c+1,hc=>by
  obtain⟨h1,h2⟩:=If h c oO;show(∀i,i<n->∀j,j<m->L ((tc n c (lR n M c)).M i j)+1<=BB K (tc n c (lR n M c)).P.length)/\L (tc n c (lR n M c)).d<=BB K (tc n c (lR n M c)).P.length;have hlen:=(rinv n M c).len;generalize lR n M c=s at*;obtain⟨q1,_,_,_⟩:=pU s.M c hlen;unfold tc;by_cases g:pv s.M c n s.P.length<n
  ·rw[aj g];generalize pv s.M c n s.P.length=p at*;dsimp only;rw[ax,eQ,Ln];have hs:=SF (M:=s.M) (m:=m) (r:=s.P.length) (b:=BB K s.P.length-1) g oO (λi hi j hj=>by have:=h1 i hi j hj;omega);have hap:=h1 p g c oO;refine⟨λi hi j hj=> ?_,?_⟩
   ·have hr:=hs s.P.length oO j hj;have hd:=zk (oT s.M s.P.length p s.P.length j) (s.M p c);by_cases e:i=s.P.length
    ·rw[e,tK];omega
    ·rw[rX _ e];have hi':=hs i hi j hj;have hc':=hs i hi c oO;have hm:=yr (oT s.M s.P.length p i c) (oT s.M s.P.length p s.P.length j/s.M p c);have hsb:=tC (oT s.M s.P.length p i j) (oT s.M s.P.length p i c*(oT s.M s.P.length p s.P.length j/s.M p c));omega
   ·split
    ·have:=yr s.d (s.M p c);omega
    ·have:=yr (-s.d) (s.M p c);have:=Cs s.d;omega
  ·rw[ah g];exact⟨h1,h2⟩
def DH (X:Mx) (r:Nat) (a:Rat) (k:Nat):Mx:=λi j=>if i=r/\j<k then X r j/a else X i j
def Ai (X:Mx) (r c:Nat) (a:Rat) (k:Nat):Mx:=λi j=>if i=r then X r j/a else if i<k then X i j-X i c*(X r j/a)else X i j
theorem OK (X:Mx) (r c:Nat) (a:Rat) {n i:Nat} (hi:i<n) (j:Nat):Ai X r c a n i j=elim X r a (λi=>X i c) i j:=by
 unfold Ai;by_cases e:i=r
 ·rw[aj e,e,tK]
 ·rw[ah e,aj hi,rX _ e]
theorem Sn (M:Mx) (r p a b:Nat):(if a=p then M r b else if a=r then M p b else M a b)=oT M r p a b:=by
 by_cases h2:a=p
 ·rw[aj h2,h2,tg]
 ·rw[ah h2];by_cases h1:a=r
  ·rw[aj h1,h1,qi]
  ·rw[ah h1,ul M h1 h2]
theorem B0 {α:Type} {enc:α->List Value} {tR tS:TypeId} {bo:Nat} {R:List (Rw α)} (pre H:List lj):(pre++mB enc tR tS bo R H).Perm (mB enc tR tS bo R (pre++H)):=by
 unfold mB;refine List.perm_middle.trans (List.Perm.cons _ ?_);rw[<-aG,<-aG];exact bQ _ ay
theorem Mf {n c:Nat} {M:Mx} (h:¬pv (lR n M c).M c n (lR n M c).P.length<n):lR n M (c+1)=lR n M c:=by
 show tc n c (lR n M c)=_;unfold tc;rw[ah h]
theorem Hw {n c:Nat} {M:Mx} (h:pv (lR n M c).M c n (lR n M c).P.length<n):lR n M (c+1)=⟨elim (oT (lR n M c).M (lR n M c).P.length (pv (lR n M c).M c n (lR n M c).P.length)) (lR n M c).P.length ((lR n M c).M (pv (lR n M c).M c n (lR n M c).P.length) c) λi=>oT (lR n M c).M (lR n M c).P.length (pv (lR n M c).M c n (lR n M c).P.length) i c,(lR n M c).P++[c],
  (if pv (lR n M c).M c n (lR n M c).P.length=(lR n M c).P.length then(lR n M c).d else-(lR n M c).d)*(lR n M c).M (pv (lR n M c).M c n (lR n M c).P.length) c⟩:=by
 show tc n c (lR n M c)=_;unfold tc;rw[aj h]
theorem Jt {R0:List (Rw RR)} {n m:Nat} {M:Mx} {w0:World} {bo:Nat} {H:List lj} (cols K:Nat) (w:World) (hR0:mN R0 n m (qM M)) (hn:n<=1000) (hm:m<=1000) (hcm:cols<=m) (hL:∀i,i<n->∀j,j<m->L (M i j)<=K) (hK:8*BB K n<=MX) (hS:St w0 w (mB ke 32 34 bo R0 H)):
  mb Tryz.prog 171 #[.slice (some ⟨bo,0,none⟩) n n,.int .i64 cols] w λv w'=>∃vp LP R',v= .tuple #[vp,lC (ki (lR n M cols).d)]/\Gl tv 3 1 vp (nI (lR n M cols).P) LP/\mN R' n m (qM (lR n M cols).M)/\St w0 w' (mB ke 32 34 bo R' (H++LP)):=by
 have hM:MX=1099511627776:=rfl;refine enter Tryz.func171 rfl Tryz.ntmps171 rfl ?_;refine J2 ?_;intro b5 wz1 hS hBz1;refine Y1 ?_;refine jh (kf Tryz.call33 rfl (mY 1 _ dD dD) ?_);rintro _ wc2 ⟨rfl,hBc2⟩;replace hS:=hS.kx hBc2;refine J1 ?_;intro b7 wz3 hS hBz3;refine J1 ?_;intro wz4 hS;refine J1 ?_;refine jb ?_;rw[<-aK H]at hS;refine kG (λρ w'=>ρ 5=pB b5/\ρ 7=pB b7/\∃vp LP R,ρ 6=vp/\Gl tv 3 1 vp (nI (lR n M cols).P) LP/\mN R n m (qM (lR n M cols).M)/\St w0 w' ([(b7,32,ke (ki (lR n M cols).d)),(b5,32,ke kZ)]++mB ke 32 34 bo R (H++LP))) ?_ ?_
 ·refine ja ?_;refine kF (σ:=Nat) (λc ρ w'=>c<=cols/\ρ 0= .slice (some ⟨bo,0,none⟩) n n/\ρ 1=iB cols/\ρ 5=pB b5/\ρ 7=pB b7/\ρ 8=iB c/\
    ∃vp LP R,ρ 6=vp/\Gl tv 3 1 vp (nI (lR n M c).P) LP/\mN R n m (qM (lR n M c).M)/\St w0 w' ([(b7,32,ke (ki (lR n M c).d)),(b5,32,ke kZ)]++mB ke 32 34 bo R (H++LP))) (λc=>cols-c) 0
   ⟨aw _,rfl,rfl,rfl,rfl,rfl,_,[],R0,rfl,Gl.nil _ _ _,hR0,hS⟩ ?_
  clear hS;rintro c ρ w2 ⟨hc,h0,h1,h5,h7,h8,vp,LP,R,h6,hG,hR,hS⟩;have hlen:=(rinv n M c).len;obtain⟨hB1,hB2⟩:=If hL c oO;obtain⟨av,cv,hvp⟩:=hG.len;rw[sn]at hvp;obtain⟨r,hr⟩:=jz ((lR n M c).P.length);rw[<-hr]at hlen hB1 hB2 hvp;subst hvp;refine ja ?_;by_cases hcl:c<cols
  ·by_cases hrn:r<n
   ·refine J4 ?_;refine ko (kd 18 kR rfl dT) (kw h6 (ko (kd 18 kR rfl dT) (oG rfl ⟨_,Tryz.underlying46⟩ (ko (kd 18 kR rfl dT) (kw h0 (ko (kd 18 kR rfl dT) (oG rfl ⟨_,Tryz.underlying35⟩ (ko (kd 18 kR rfl dT) (vh rfl rfl (jp (kH (vb rfl dT) rfl ?_)))))))))));refine V1 ?_;have hmts:=hR.Lc (hS.drop (ao _ _)) kA (cap:=n) (aB _) oO;refine J6 ?_;refine jh (kf Tryz.call196 rfl (Nv _ _ n m (lR n M c).M r c _ hmts oO oO) ?_);rintro _ wc5 ⟨rfl,hBc5⟩;replace hS:=hS.kx hBc5;refine V3 ?_;obtain⟨p,hp⟩:=jz (pv (lR n M c).M c n r);have hpI:Vd (lR n M c).M c n r=if p<n then(p:Int)else-1:=by rw[hp];rfl
    by_cases hpn:p<n
    ·rw[aj hpn]at hpI;refine lH rfl (ae (by rw[hpI];omega)) ?_;refine ja ?_;have hp3:=pU (lR n M c).M c (n:=n) (r:=r) oO;rw[<-hp]at hp3;obtain⟨hrp,_,_,ha⟩:=hp3;replace ha:=ha hpn;have hyes:=Hw (n:=n) (c:=c) (M:=M) (by rw[<-hr,<-hp];exact hpn);rw[<-hr,<-hp]at hyes;obtain⟨s,hs⟩:=jz (lR n M c);rw[<-hs]at hyes hB1 hB2 hR hS hG ha hr;obtain⟨a,ha'⟩:∃a,a=s.M p c:=⟨_,rfl⟩;obtain⟨X,hX⟩:=jz (oT s.M r p);obtain⟨d1,hd1⟩:∃d1:Rat,d1=if p=r then s.d else-s.d:=⟨_,rfl⟩
     rw[<-ha',<-hX,<-hd1]at hyes;rw[<-ha']at ha;have hbm:=BW K (r:=r+1) (s:=n) hrn;rw[Ln]at hbm;obtain⟨b,hb⟩:=jz (BB K r);rw[<-hb]at hB1 hB2 hbm;have hLs:∀i,i<n->∀j,j<m->L (s.M i j)<=b-1:=λi hi j hj=>by have:=hB1 i hi j hj;omega
     have hLX:∀i,i<n->∀j,j<m->L (X i j)<=b-1:=by rw[hX];exact SF hpn hrn hLs
     have hLa:L a<=b-1:=by rw[ha'];exact hLs p hpn c oO
     have hb1:1<=b:=by have:=hB1 p hpn c oO;omega
     have hLd:L d1<=b:=by
      rw[hd1];split
      ·exact hB2
      ·rw[Cs];exact hB2
     have hXa:X r c=a:=by rw[hX,ha',qi]
     rw[hpI];refine V3 ?_;refine kG (λρ w'=>ρ 0= .slice (some ⟨bo,0,none⟩) n n/\ρ 1=iB cols/\ρ 5=pB b5/\ρ 6= .slice av r cv/\ρ 7=pB b7/\ρ 8=iB c/\ρ 9=iB r/\
      ∃R,mN R n m (qM X)/\St w0 w' ([(b7,32,ke (ki d1)),(b5,32,ke kZ)]++mB ke 32 34 bo R (H++LP))) ?_ ?_
     ·have hlr:r<R.length:=by rw[hR.len];exact hrn
      have hlp:p<R.length:=by rw[hR.len];exact hpn
      by_cases hpr:p=r
      ·have eX:X=s.M:=by rw[hX,hpr,Et]
       have ed:d1=s.d:=by rw[hd1,aj hpr]
       refine V1 ?_;rw[eX,ed];exact⟨_,rfl,jY,jY,jY,jY,jY,jY,rfl,R,hR,hS⟩
      ·have ed:d1= -s.d:=by rw[hd1,ah hpr]
       have hR2:=(hR.GN hrn hpn).congr (g:=qM X) λi _ j _=>by
        rw[hX];show(if i=p then ki (s.M r j)else if i=r then ki (s.M p j)else ki (s.M i j))=ki (oT s.M r p i j);rw[<-Sn];split
        ·rfl
        ·split<;>rfl
       have hneg:=λw=>yz (ki s.d) w (by rw[Lr_ofQ];omega);rw[toQ_ofQ]at hneg;refine V1 ?_;refine kK [jo 0,jo 1,jo 2,jo 3,jo 4,jo 5,jo 6,ju 7,jo 8,jo 9,jo 10,ju 11,jo 12,jw 13,jo 14,jw 15] kR kR hS ?_;intro wz6 hS hBz6;refine J6 ?_;refine jl rfl (kM (i:=r) rfl rfl oO dO lS (jm rfl (nD [_,_] rfl md hS oO hlr ?_)));refine J2 ?_;refine jl rfl (kM (i:=p) rfl rfl oO dO lS (jm rfl (nD [_,_] rfl md hS oO hlp (jl rfl (kM (i:=p) rfl rfl oO dO lS (jx rfl (sv [_,_] (i:=p) rfl rfl md hS oO (by rw[bj];exact hlp) (AG _) ?_)))))));intro wz7 hS;refine jl rfl (kM (i:=r) rfl rfl oO dO lS (jx rfl (sv [_,_] (i:=r) rfl rfl md hS oO (by rw[bG,bj];exact hlr) (AG _) ?_)));intro wz8 hS;refine ja ?_;rw[List.set_comm _ _ hpr]at hS;have hS2:=Gz [_,_] hlr hlp hS;clear hS;rename _=>hS
       refine J1 ?_;refine jh (kf Tryz.call105 rfl (hneg _) ?_);rintro _ wc9 ⟨rfl,hBc9⟩;replace hS:=hS.kx hBc9;refine J1 ?_;intro wz10 hS;refine ja ?_;rw[ed];exact⟨_,rfl,jY,jY,jY,jY,jY,jY,rfl,_,hR2,hS⟩
     clear hS hR;rintro ρ w3 ⟨h0,h1,h5,h6,h7,h8,h9,R,hR,hS⟩;have hlr:r<R.length:=by rw[hR.len];exact hrn
     have hxr:=hR.x9 hrn;have hgr:(R.getD r o5).X.getD c kZ=ki a:=by rw[hR.get hrn oO];show ki (X r c)=_;rw[hXa]
     refine J2 ?_;refine jp (kM (i:=r) rfl rfl oO dO lS (jq (nD [_,_] rfl md hS oO hlr ?_)));refine J1 ?_;refine jp (kM (i:=c) rfl rfl oO dO kW (jq (rY [_,_] (i:=r) (j:=c) kZ kA rfl kt hS rfl hlr oO oO rfl (.inl rfl) ?_)));refine J1 ?_;intro b11 wz11 hS hBz11;refine J1 ?_;intro wz12 hS;refine ja ?_;rw[hgr]at hS;have hmul:=λw=>qF (ki d1) (ki a) w (by rw[Lr_ofQ,Lr_ofQ];omega);rw[toQ_ofQ,toQ_ofQ]at hmul;refine J2 ?_;refine jh (kf Tryz.call11 rfl (hmul _) ?_);rintro _ wc13 ⟨rfl,hBc13⟩;replace hS:=hS.kx hBc13;refine J1 ?_;intro wz14 hS;refine ja ?_;refine nk (λρ'=>ρ' 0= .slice (some ⟨bo,0,none⟩) n n/\ρ' 1= .int .i64 cols/\ρ' 5= .pointer (some ⟨b5,0,none⟩)/\ρ' 6= .slice av r cv/\ρ' 7= .pointer (some ⟨b7,0,none⟩)/\ρ' 8= .int .i64 c/\ρ' 9= .int .i64 r/\ρ' 11= .pointer (some ⟨b11,0,none⟩)/\True) ⟨h0,h1,h5,h6,h7,h8,h9,rfl,trivial⟩ ?_;rintro ρk15 ⟨hk15_0,hk15_1,hk15_5,hk15_6,hk15_7,hk15_8,hk15_9,hk15_11,-⟩;refine J2 ?_;refine jp (kM (i:=r) rfl rfl oO dO lS (jq (nD [_,_,_] rfl md hS oO hlr ?_)));refine J2 ?_;refine jb ?_;refine kG (λρ w'=>ρ 0= .slice (some ⟨bo,0,none⟩) n n/\ρ 1=iB cols/\ρ 5=pB b5/\ρ 6= .slice av r cv/\ρ 7=pB b7/\ρ 8=iB c/\ρ 9=iB r/\
      ∃R,mN R n m (qM (DH X r a m))/\St w0 w' ([(b11,32,ke (ki a)),(b7,32,ke (ki (d1*a))),(b5,32,ke kZ)]++mB ke 32 34 bo R (H++LP))) ?_ ?_
     ·refine ja ?_;refine kF (σ:=Nat) (λk ρ w'=>k<=m/\ρ 0= .slice (some ⟨bo,0,none⟩) n n/\ρ 1=iB cols/\ρ 5=pB b5/\ρ 6= .slice av r cv/\ρ 7=pB b7/\ρ 8=iB c/\ρ 9=iB r/\ρ 11=pB b11/\ρ 68=iB m/\ρ 69=iB k/\
       ∃R,mN R n m (qM (DH X r a k))/\St w0 w' ([(b11,32,ke (ki a)),(b7,32,ke (ki (d1*a))),(b5,32,ke kZ)]++mB ke 32 34 bo R (H++LP))) (λk=>m-k) 0
       ⟨aw _,jY,jY,jY,jY,jY,jY,jY,jY,vi rfl oO,rfl,R,hR.congr λi _ j _=>by show ki (X i j)=ki (DH X r a 0 i j);unfold DH;rw[ah oO],hS⟩ ?_
      clear hS hR hlr hxr hgr;rintro k ρ w4 ⟨hk,h0,h1,h5,h6,h7,h8,h9,h11,h68,h69,R,hR,hS⟩;have hlr:r<R.length:=by rw[hR.len];exact hrn
      have hxr:=hR.x9 hrn;refine V1 ?_;by_cases hkl:k<m
      ·refine V1 ?_;have hgr:(R.getD r o5).X.getD k kZ=ki (X r k):=by rw[hR.get hrn hkl];show ki (DH X r a k r k)=_;unfold DH;rw[ah oO]
       have hLk:=hLX r hrn k hkl;have hdiv:=λw=>we (ki (X r k)) (ki a) w (by rw[Lr_ofQ,Lr_ofQ];omega) (by rw[toQ_ofQ];exact ha);rw[toQ_ofQ,toQ_ofQ]at hdiv;refine V2 ?_;refine kK [jo 0,jo 1,jo 2,ju 3,jo 4,jo 5,jo 6,jo 7,ju 8,jo 9,jo 10,ju 11,ju 12,jv 13,jo 14,jo 15,jo 16,jo 17,jw 18] kR kR hS ?_;intro wz16 hS hBz16;refine J2 ?_;refine jl rfl (kM (i:=r) rfl rfl oO dO lS (jm rfl (nD [_,_,_] rfl md hS oO hlr ?_)));refine J3 ?_;refine jl rfl (kM (i:=r) rfl rfl oO dO lS (jm rfl (nD [_,_,_] rfl md hS oO hlr ?_)));refine J1 ?_;refine jl rfl (kM (i:=k) rfl rfl oO dO kW (jm rfl (rY [_,_,_] (i:=r) (j:=k) kZ kA rfl kt hS rfl hlr oO oO rfl (.inl rfl) ?_)));refine J1 ?_;rw[hgr];refine jn rfl (kf Tryz.call108 rfl (hdiv _) ?_);rintro _ wc17 ⟨rfl,hBc17⟩;replace hS:=hS.kx hBc17;refine⟨hBc17,?_⟩;refine J3 ?_;refine jl rfl (kM (i:=k) rfl rfl oO dO kW (jx rfl (yN [_,_,_] (i:=r) (j:=k) (ki (X r k/a)) kA rfl rfl kt hS rfl hlr oO oO rfl rfl ?_)));intro wz18 hS;refine V2 ?_;refine⟨k+1,_,rfl,⟨hkl,jY,jY,jY,jY,jY,jY,jY,jY,jY,vi rfl oO,_,(hR.put hrn k (ki (X r k/a))).congr λi _ j _=> ?_,hS⟩,oO⟩;show(if i=r/\j=k then ki (X r k/a)else ki (DH X r a k i j))=ki (DH X r a (k+1) i j);unfold DH;by_cases g:i=r/\j=k
       ·rw[aj g,aj oO,g.2]
       ·rw[ah g];by_cases g2:i=r/\j<k
        ·rw[aj g2,aj oO]
        ·rw[ah g2,ah oO]
      ·refine J1 ?_;refine jt ?_;obtain rfl:k=m:=oO;exact⟨_,rfl,h0,h1,h5,h6,h7,h8,h9,R,hR,hS⟩
     clear hS hR hlr hxr hgr;rintro ρ w4 ⟨h0,h1,h5,h6,h7,h8,h9,R,hR,hS⟩;replace hR:mN R n m (qM (Ai X r c a 0)):=hR.congr λi _ j hj=>by
      show ki (DH X r a m i j)=ki (Ai X r c a 0 i j);unfold DH Ai;by_cases e:i=r
      ·rw[aj ⟨e,hj⟩,aj e]
      ·rw[ah (λq=>e q.1),ah e,ah (aS _)]
     replace hS:=hS.drop (ab _ _);refine J3 ?_;refine jb ?_;refine kG (λρ w'=>ρ 0= .slice (some ⟨bo,0,none⟩) n n/\ρ 1=iB cols/\ρ 5=pB b5/\ρ 6= .slice av r cv/\ρ 7=pB b7/\ρ 8=iB c/\
      ∃R,mN R n m (qM (Ai X r c a n))/\St w0 w' ([(b7,32,ke (ki (d1*a))),(b5,32,ke kZ)]++mB ke 32 34 bo R (H++LP))) ?_ ?_
     ·refine ja ?_;refine kF (σ:=Nat) (λi ρ w'=>i<=n/\ρ 0= .slice (some ⟨bo,0,none⟩) n n/\ρ 1=iB cols/\ρ 5=pB b5/\ρ 6= .slice av r cv/\ρ 7=pB b7/\ρ 8=iB c/\ρ 9=iB r/\ρ 92=iB n/\ρ 93=iB i/\
       ∃R,mN R n m (qM (Ai X r c a i))/\St w0 w' ([(b7,32,ke (ki (d1*a))),(b5,32,ke kZ)]++mB ke 32 34 bo R (H++LP))) (λi=>n-i) 0
       ⟨aw _,jY,jY,jY,jY,jY,jY,jY,rfl,rfl,R,hR,hS⟩ ?_
      clear hS hR;rintro i ρ w4 ⟨hi,h0,h1,h5,h6,h7,h8,h9,h92,h93,R,hR,hS⟩;have hlr:r<R.length:=by rw[hR.len];exact hrn
      refine V1 ?_;by_cases hin:i<n
      ·refine V1 ?_;have hli:i<R.length:=by rw[hR.len];exact hin
       have hxi:=hR.x9 hin;have hstep:∀i',i'<n->∀j,i'≠i->Ai X r c a i i' j=Ai X r c a (i+1) i' j:=by
        intro i' _ j hne;unfold Ai;by_cases e:i'=r
        ·rw[aj e,aj e]
        ·rw[ah e,ah e];by_cases e2:i'<i
         ·rw[aj e2,aj oO]
         ·rw[ah e2,ah oO]
       refine V2 ?_;by_cases hir:i=r
       ·refine J4 ?_;refine kS (kg 99 kR rfl dF) (kS (kg 99 kR rfl dF) (kS (kg 99 kR rfl dF) (kS (kg 99 kR rfl dF) (kS (kg 99 kR rfl dF) (kS (kg 99 kR rfl dF) (kS (kg 99 kR rfl dF) (kS (kg 99 kR rfl dF) (kS (kg 99 kR rfl dF) (jp (kH (vb rfl dF) rfl ?_))))))))));refine ja ?_;refine lH rfl (rfl) ?_;refine V2 ?_;refine⟨i+1,_,rfl,⟨hin,jY,jY,jY,jY,jY,jY,jY,jY,vi rfl oO,R,hR.congr λi' hi' j _=> ?_,hS⟩,oO⟩;show ki (Ai X r c a i i' j)=ki (Ai X r c a (i+1) i' j);by_cases e:i'=i
        ·unfold Ai;rw[aj oO,aj oO]
        ·rw[hstep i' hi' j e]
       ·have hgi:(R.getD i o5).X.getD c kZ=ki (X i c):=by rw[hR.get hin oO];show ki (Ai X r c a i i c)=_;unfold Ai;rw[ah hir,ah (dt _)]
        refine J4 ?_;refine ko (kd 99 kR rfl dT) (kw h0 (ko (kd 99 kR rfl dT) (kw rfl (ko (kd 99 kR rfl dT) (kM (i:=i) rfl rfl oO dO lS (lA (kd 99 kR rfl dT) (nD [_,_] rfl md hS oO hli (ko (kd 99 kR rfl dT) (kw h8 (ko (kd 99 kR rfl dT) (kM (i:=c) rfl rfl oO dO kW (lA (kd 99 kR rfl dT) (rY [_,_] (i:=i) (j:=c) kZ kA rfl kt hS rfl hli oO oO rfl (.inl rfl) ?_)))))))))))));rw[hgi];refine oZ (kd 99 kR rfl dT) (kf Tryz.call197 rfl (AP _ _) ?_);rintro r w5 ⟨rfl,hB5⟩;replace hS:=hS.kx hB5;refine ko (kd 99 kR rfl dT) (xb rfl (jp (kH (vb rfl dT) rfl ?_)));refine ja ?_;by_cases hz:X i c=0
        ·refine lH rfl (by rw[ai hz];rfl) ?_;refine V2 ?_;refine⟨i+1,_,rfl,⟨hin,jY,jY,jY,jY,jY,jY,jY,jY,vi rfl oO,R,hR.congr λi' hi' j _=> ?_,hS⟩,oO⟩;show ki (Ai X r c a i i' j)=ki (Ai X r c a (i+1) i' j);by_cases e:i'=i
         ·rw[e];unfold Ai;rw[ah hir,ah hir,ah (dt _),aj (dV _),hz];congr 1;grind
         ·rw[hstep i' hi' j e]
        ·refine lu rfl (by rw[ae hz];rfl) ?_;refine ja ?_;have hLe:∀j,j<m->L (Ai X r c a i i j)<=2*b/\L (Ai X r c a i r j)<=2*b:=by
          intro j hj;have q1:=hLX i hin j hj;have q2:=hLX r hrn j hj;have q3:=zk (X r j) a;constructor
          ·unfold Ai;rw[ah hir,ah (dt _)];omega
          ·unfold Ai;rw[aj rfl];omega
         have hmin:=λw h=>MS (H:=[(b7,32,ke (ki (d1*a))),(b5,32,ke kZ)]++(H++LP)) (w0:=w0) (bo:=bo) i r (X i c) (2*b) w hR hm hin hrn hir hLe (by have:=hLX i hin c oO;omega) oO h;refine ja ?_;refine kK [jo 0,jo 1,jo 2,ju 3,jo 4,jo 5,jo 6,ju 7,jo 8,jo 9,jo 10,ju 11,jo 12,jo 13,ju 14,jw 15] kR kR hS ?_;intro wz19 hS hBz19;refine J2 ?_;refine jl rfl (kM (i:=i) rfl rfl oO dO lS (jm rfl (nD [_,_] rfl md hS oO hli ?_)));refine J2 ?_;refine jl rfl (kM (i:=r) rfl rfl oO dO lS (jm rfl (nD [_,_] rfl md hS oO hlr ?_)));refine J2 ?_;refine jl rfl (kM (i:=i) rfl rfl oO dO lS (jm rfl (nD [_,_] rfl md hS oO hli ?_)));refine J1 ?_;refine jl rfl (kM (i:=c) rfl rfl oO dO kW (jm rfl (rY [_,_] (i:=i) (j:=c) kZ kA rfl kt hS rfl hli oO oO rfl (.inl rfl) ?_)));rw[hgi];refine jx rfl (kf Tryz.call198 rfl (hmin _ (hS.perm (B0 _ _))) ?_);rintro u w6 ⟨rfl,R',hR',hS'⟩;clear hS;have hS:=hS'.perm (B0 _ _).symm;refine V2 ?_;refine⟨i+1,_,rfl,⟨hin,jY,jY,jY,jY,jY,jY,jY,jY,vi rfl oO,R',hR'.congr λi' hi' j _=> ?_,hS⟩,oO⟩;show ki (if i'=i then Ai X r c a i i j-X i c*Ai X r c a i r j else Ai X r c a i i' j)=ki (Ai X r c a (i+1) i' j);by_cases e:i'=i
         ·rw[aj e,e];unfold Ai;rw[ah hir,ah hir,ah (dt _),aj rfl,aj (dV _)]
         ·rw[ah e,hstep i' hi' j e]
      ·refine J1 ?_;refine jt ?_;obtain rfl:n=i:=oO;exact⟨_,rfl,h0,h1,h5,h6,h7,h8,R,hR,hS⟩
     clear hS hR;rintro ρ w4 ⟨h0,h1,h5,h6,h7,h8,R,hR,hS⟩;replace hR:mN R n m (qM (lR n M (c+1)).M):=hR.congr λi hi j _=>by
      show ki (Ai X r c a n i j)=ki ((lR n M (c+1)).M i j);rw[hyes,OK X r c a hi j]
     replace hS:St w0 w4 ([(b7,32,ke (ki (lR n M (c+1)).d)),(b5,32,ke kZ)]++mB ke 32 34 bo R (H++LP)):=by rw[hyes];exact hS
     rw[<-GI,<-aG]at hS;have hnl:(nI s.P).length=r:=by rw[sn,hr]
     refine J2 ?_;refine jh (np (vs:=[.int .i64 c]) rfl p7 rfl dD dD dD (by simp[Value.cells]) rfl hS ?_);intro b20 wz21 hS hBz21;refine jh (mO [(c:Int)] rfl rfl p7 dD hG hS rfl rfl (λ_=>rfl) (λu hu=>by rw[aO.1 (show u∈[Value.int .i64 (c:Int)]from hu)];rfl) dL dL ?_);intro va22 La22 wa22 hG hS hga22;refine V1 ?_;rw[<-LA]at hG;rw[aG,GI]at hS;refine V3 ?_;exact⟨c+1,_,rfl,⟨hcl,jY,jY,jY,jY,vi rfl oO,_,_,R,rfl,by rw[hyes];exact hG,hR,hS⟩,oO⟩
    ·rw[ah hpn]at hpI;refine lu rfl (ai (by rw[hpI];decide)) ?_;refine V3 ?_;have e:=Mf (n:=n) (c:=c) (M:=M) (by rw[<-hr,<-hp];exact hpn);exact⟨c+1,_,rfl,⟨hcl,jY,jY,jY,jY,vi rfl oO,_,LP,R,jY,by rw[e];exact hG,by rw[e];exact hR,by rw[e];exact hS⟩,oO⟩
   ·refine J4 ?_;refine ko (kd 18 kR rfl dT) (kw h6 (ko (kd 18 kR rfl dT) (oG rfl ⟨_,Tryz.underlying46⟩ (ko (kd 18 kR rfl dT) (kw h0 (ko (kd 18 kR rfl dT) (oG rfl ⟨_,Tryz.underlying35⟩ (ko (kd 18 kR rfl dT) (vh rfl rfl (jp (kH (vb rfl dT) rfl ?_)))))))))));refine J1 ?_;refine jt ?_;have e:lR n M cols=lR n M c:=by
     have:=Cl (n:=n) (A:=M) (c:=c) oO (cols-c);rwa[show c+(cols-c)=cols by omega]at this
    rw[e];exact⟨_,rfl,h5,h7,_,LP,R,h6,hG,hR,hS⟩
  ·refine J4 ?_;refine kS (kg 18 kR rfl dF) (kS (kg 18 kR rfl dF) (kS (kg 18 kR rfl dF) (kS (kg 18 kR rfl dF) (kS (kg 18 kR rfl dF) (jp (kH (vb rfl dF) rfl ?_))))));refine ja ?_;refine lH rfl (rfl) ?_;refine jt ?_;obtain rfl:c=cols:=oO;exact⟨_,rfl,h5,h7,_,LP,R,h6,hG,hR,hS⟩
 clear hS;rintro ρ w2 ⟨h5,h7,vp,LP,R,h6,hG,hR,hS⟩;refine ja ?_;refine kK [jo 0,ju 1,jo 2,jw 3] kR kR hS ?_;intro wz23 hS hBz23;refine J4 ?_;intro wz24 hS;refine ja ?_;replace hS:St w0 _ ([(b7,32,ke (ki (lR n M cols).d)),(b5,32,ke (ki (lR n M cols).d))]++mB ke 32 34 bo R (H++LP)):=hS;refine jt ?_;refine tY (k:=1) rfl h5 rfl kt hS rfl rfl ?_;exact⟨vp,LP,R,rfl,hG,hR,hS.drop (ao _ _)⟩
theorem W7 (K n:Nat):K+1<=BB K n:=by
 have:=BW K (aw n);unfold BB at this⊢;omega
def Fs (A:List (List RR)):Rd:=lR A.length (RM A) (nu A)
def WH (A:List (List RR)):List (List RR):=if ui A=0 then wN A.length (nu A) (qM (Fs A).M)else []
def WD (A:List (List RR)):List Nat:=if ui A=0 then(Fs A).P else []
theorem rB.nil {α:Type} (enc:α->List Value) (size:Nat) (w:World):rB enc size w (.slice none 0 0) [] []:=⟨rfl,Sl.nil _ _ _,λ_ h=>absurd h (aS _)⟩
theorem Jp (v:Value) (A:List (List RR)) (vs:List Value) (K:Nat) (w:World) (hA:rB ke 3 w v A vs) (hB:MA K A) (hK:8*BB K A.length<=MX):
  mb Tryz.prog 138 #[v] w λr w'=>(∃v' vs' vp,r= .tuple #[v',vp,.int .i64 (ui A)]/\rB ke 3 w' v' (WH A) vs'/\Sl tv 1 w' vp (nI (WD A)))/\Below w.heap.size w w':=by
 have hM:MX=1099511627776:=rfl;have hBK:=W7 K A.length;have hS:=St.init w;have hlen:=hA.len;refine enter Tryz.func138 rfl Tryz.ntmps138 rfl ?_;refine J4 ?_;refine jh (kf Tryz.call170 rfl (E6 v A vs _ (hA.kb hS.kb)) ?_);rintro _ wc1 ⟨rfl,hBc1⟩;replace hS:=hS.kx hBc1;refine V3 ?_;by_cases he:ui A≠0
 ·have e1:WH A=[]:=ah he;have e2:WD A=[]:=ah he;rw[e1,e2];refine J5 ?_;refine jt ?_;refine xI rfl rfl rfl rfl ?_;exact⟨⟨_,[],_,rfl,rB.nil _ _ _,Sl.nil _ _ _⟩,hS.kb⟩
 replace he:=fE.1 he;obtain⟨h1,h2,h3,h4,h5⟩:=xM he;have hr0:=hA.row 0 oO;have hc0:nu A=(A.getD 0 []).length:=rfl;have e1:WH A=wN A.length (nu A) (qM (Fs A).M):=aj he;have e2:WD A=(Fs A).P:=aj he;rw[e1,e2,he];refine J2 ?_;refine jh (kf Tryz.call141 rfl (AO v A vs (nu A) K _ (hA.kb hS.kb) h1 oO h3 oO h5 hB oO) ?_);rintro r w2 ⟨⟨bo,R,rfl,hR,-,hS2⟩,hB2⟩;replace hS:=(hS.join hS2).cast (aK _);clear hS2;refine J3 ?_;refine jp (ks (i:=0) rfl rfl (hA.sl.kb hS.kb) oO dO lS (jq (kC (i:=0) undef rfl md (hA.sl.kb hS.kb) dO rfl rfl (.inr rfl) (jp (ky rfl (hr0.kb hS.kb) ⟨_,Tryz.underlying34⟩ ?_)))));refine jh (kf Tryz.call171 rfl (Jt (nu A) K _ hR oO oO (aB _) (λi hi j hj=>Ns hB hi (by rw[h5 i hi];exact hj)) hK hS) ?_);rintro r w3 ⟨vp,LP,R',rfl,hG,hR',hS'⟩;clear hS;rename _=>hS
 refine J4 ?_;intro b8 wz2 hS hBz2;refine J2 ?_;intro wz3 hS;refine ja ?_;have hS2:=hS.drop (ab _ _);have hmt:=hR'.Lc hS2 kA (cap:=A.length) (aB _) oO;rw[<-GI]at hS2;have hsl:=hG.sl hS2 (λ_=>rfl);refine J5 ?_;refine jt ?_;refine xI rfl rfl rfl rfl ?_;exact⟨⟨_,_,_,rfl,hmt,hsl⟩,hS.kb⟩
theorem OL {A:List (List RR)} (h:O3 A=0):ui A=0/\A.length=nu A:=by
 unfold O3 at h;split at h
 ·next h1=>exact absurd h h1
 ·next h1=>
  split at h
  ·cases h
  ·next h2=>exact⟨fE.1 h1,fE.1 h2⟩
theorem Nd (v:Value) (l:List Int) (x:Int) (w:World) (hv:Sl tv 1 w v l):
  mb Tryz.prog 172 #[v,.int .i64 x] w λr w'=>(∃k:Int,r= .int .i64 k/\(0<=k↔x∈l))/\w'=w:=by
 have hmax:=hv.maxLen;refine enter Tryz.func172 rfl Tryz.ntmps172 rfl ?_;refine J2 ?_;refine jp (ky rfl hv ⟨_,Tryz.underlying46⟩ ?_);refine V1 ?_;refine kF (σ:=Nat) (λi ρ w'=>i<=l.length/\x∉l.take i/\ρ 0=v/\ρ 1=iB x/\ρ 7=iB l.length/\ρ 8=iB i/\w'=w) (λi=>l.length-i) 0
  ⟨aw _,by simp,rfl,rfl,rfl,rfl,rfl⟩ ?_
 rintro i ρ w2 ⟨hi,hn,h0,h1,h7,h8,rfl⟩;refine V1 ?_;by_cases hlt:i<l.length
 ·refine V1 ?_;have ht:=lT l i 0 hlt;refine J5 ?_;refine jp (ks (i:=i) rfl rfl hv oO dO p7 (jq (kC (i:=i) 0 rfl mR hv dO rfl rfl (.inr rfl) ?_)));refine V1 ?_;by_cases hx:x=l.getD i 0
  ·refine lu rfl (ai hx) ?_;refine J2 ?_;refine jt ?_;refine kJ rfl rfl ?_;exact⟨⟨_,rfl,⟨λ_=>by rw[hx];exact kO l i 0 hlt,λ_=>oO⟩⟩,rfl⟩
  ·refine lH rfl (ae hx) ?_;refine V2 ?_;exact⟨i+1,_,rfl,⟨hlt,by rw[ht,bN,aO];exact λg=>g.elim hn hx,h0,h1,h7,vi rfl oO,rfl⟩,oO⟩
 ·refine J1 ?_;refine jt ?_;obtain rfl:i=l.length:=oO;rw[bO]at hn;refine J1 ?_;refine jt ?_;refine kJ rfl rfl ?_;exact⟨⟨_,rfl,⟨λh=>oO,λh=>absurd h hn⟩⟩,rfl⟩
theorem F1 (v:Value) (l:List Int) (x:Int) (w:World) (hv:Sl tv 1 w v l):
  mb Tryz.prog 139 #[v,.int .i64 x] w λr w'=>r= .bool (decide (x∈l))/\w'=w:=by
 refine enter Tryz.func139 rfl Tryz.ntmps139 rfl ?_;refine J3 ?_;refine jh (kf Tryz.call172 rfl (Nd v l x _ hv) ?_);rintro r w3 ⟨⟨k,rfl,hk⟩,rfl⟩;refine J2 ?_;refine jt ?_;refine kJ rfl rfl ?_;exact⟨bB Value.bool (dJ.2 hk),rfl⟩
theorem O2 {P:List Nat} {f:Nat}:(f:Int)∈nI P↔f∈P:=by
 unfold nI;rw[ca];constructor
 ·rintro⟨a,ha,e⟩;rw[<-Int.natCast_inj.1 e];exact ha
 ·intro h;exact⟨f,h,rfl⟩
def Mq (P:List Nat) (n:Nat):List Nat:=(List.range n).filter λf=> !decide (f∈P)
theorem OR (P:List Nat) (n:Nat):Mq P (n+1)=if n∈P then Mq P n else Mq P n++[n]:=by
 unfold Mq;rw[iV,im];by_cases h:n∈P
 ·rw[aj h,List.filter_cons_of_neg (by simp[h])];simp
 ·rw[ah h,List.filter_cons_of_pos (by simp[h])];rfl
def rF (M:Mx) (P:List Nat) (m f:Nat):List RR:=kD m λj=>ki (kv P M f j)
def IL (A:List (List RR)):List (List RR):=if ui A=0 then(Mq (Fs A).P (nu A)).map (rF (Fs A).M (Fs A).P (nu A))else []
def Tv {α:Type} (R:List (Rw α)):Prop:=∀r∈R,r.X.length<=r.cap/\r.cap<=9223372036854775807
theorem Pz {α:Type} {enc:α->List Value} {size:Nat} (hu:∀x,(enc x).length=size) {t tS:TypeId} {R:List (Rw α)} {vo:Value} {LO:List lj} {w0 w:World} (hok:Tv R) (hG:Gl se tS 1 vo (R.map Rw.v) LO) (hS:St w0 w (R.map (Rw.yf enc t)++LO)):
  rB enc size w vo (R.map (·.X)) (R.map Rw.v):=by
 refine⟨by rw[bj,bj],hG.sl hS (λ_=>rfl),λi hi=> ?_⟩;rw[bj]at hi;have hr:=hok _ (kO R i o5 hi);have hk:(R.map (Rw.yf enc t)++LO)[i]?=some ((R.getD i o5).b,t,(R.getD i o5).X.flatMap enc++(R.getD i o5).sp):=by
  rw[cK (by rw[bj];exact hi),jW,aF hi,nQ R o5 hi];rfl
 have h:=hS.Xa hk hu (n:=(R.getD i o5).X.length) (cap:=(R.getD i o5).cap) (aB _) hr.1 hr.2;rw[aU (aB _)]at h;have e1:(R.map Rw.v).getD i undef=(R.getD i o5).v:=by rw[ak,Ce hi];rfl
 have e2:(R.map (·.X)).getD i []=(R.getD i o5).X:=by rw[nQ _ _ (by rw[bj];exact hi),ew,nQ R o5 hi]
 rw[e1,e2];exact h
def PB (P:List Nat) (M:Mx) (f k j:Nat):Rat:=if j=f then 1 else if j∈P.take k then-M (P.idxOf j) f else 0
theorem RT (P:List Nat) (M:Mx) (f j:Nat):PB P M f P.length j=kv P M f j:=by unfold PB kv;rw[bO]
theorem Rg {P:List Nat} {M:Mx} {f k m:Nat} (hi:P.Pairwise (· < ·)) (hf:f∉P) (hk:k<P.length):(kD m λj=>ki (PB P M f k j)).set (P.getD k 0) (ki (-M k f))=kD m λj=>ki (PB P M f (k+1) j):=by
 rw[zW];refine kN λj _=> ?_;congr 1;have ht:=lT P k 0 hk;unfold PB;by_cases h:j=P.getD k 0
 ·have hm:P.getD k 0∈P:=kO P k 0 hk;rw[aj h,h,ah (λe=>hf (by rw[<-e];exact hm)),ht,aj (by simp)];have:P.idxOf (P.getD k 0)=k:=by
   rw[nQ P 0 hk];exact(xX hi).idxOf_getElem k hk
  rw[this]
 ·rw[ah h];by_cases h2:j=f
  ·rw[aj h2,aj h2]
  ·rw[ah h2,ah h2,ht];by_cases h3:j∈P.take k
   ·rw[aj h3,aj (gU _ h3)]
   ·rw[ah h3,ah (λe=>by
     rcases bN.1 e with g|g
     ·exact h3 g
     ·exact h (aO.1 g))]
theorem OP {m f:Nat} (P:List Nat) (M:Mx):(List.replicate m kZ).set f (ki ((1:Int):Rat))=kD m λj=>ki (PB P M f 0 j):=by
 rw[ur,mZ];refine kN λj _=> ?_;unfold PB;by_cases h:j=f
 ·rw[aj h,aj h];rfl
 ·rw[ah h,ah h,ft,ah (by simp),oD];rfl
theorem Ka (v:Value) (A:List (List RR)) (vs:List Value) (K:Nat) (w:World) (hA:rB ke 3 w v A vs) (hB:MA K A) (hK:8*BB K A.length<=MX):
  mb Tryz.prog 102 #[v] w λr w'=>(∃v' vs',r= .tuple #[v',.int .i64 (ui A)]/\rB ke 3 w' v' (IL A) vs')/\Below w.heap.size w w':=by
 have hM:MX=1099511627776:=rfl;have hS:=St.init w;refine enter Tryz.func102 rfl Tryz.ntmps102 rfl ?_;refine J3 ?_;refine jh (kf Tryz.call138 rfl (Jp v A vs K _ (hA.kb hS.kb) hB hK) ?_);rintro r w2 ⟨⟨v',vs',vp,rfl,hm,hp⟩,hB2⟩;replace hS:=hS.kx hB2;refine V9 ?_;by_cases he:ui A≠0
 ·have e1:IL A=[]:=ah he;rw[e1];refine J4 ?_;refine jt ?_;refine rP rfl rfl rfl ?_;exact⟨⟨_,[],rfl,rB.nil _ _ _⟩,hS.kb⟩
 replace he:=fE.1 he;obtain⟨h1,h2,h3,h4,h5⟩:=xM he;have e1:IL A=(Mq (Fs A).P (nu A)).map (rF (Fs A).M (Fs A).P (nu A)):=aj he;have e2:WH A=wN A.length (nu A) (qM (Fs A).M):=aj he;have e3:WD A=(Fs A).P:=aj he;have hI:Ni A.length (nu A) (Fs A):=rinv A.length (RM A) (nu A);have hLs:=(If (n:=A.length) (M:=RM A) (K:=K) (λi hi j hj=>Ns hB hi (by rw[h5 i hi];exact hj)) (nu A) (aB _)).1;have hbk:=hK;have hbm:=BW K hI.len;change∀i,i<A.length->∀j,j<nu A->L ((Fs A).M i j)+1<=BB K (Fs A).P.length at hLs;rw[e1];rw[e2]at hm;rw[e3]at hp;obtain⟨n,hn⟩:=jz A.length;obtain⟨m,hm'⟩:∃m,m=nu A:=⟨_,rfl⟩;obtain⟨s,hs⟩:=jz (Fs A);rw[<-hn,<-hm',<-hs]at hI hm;rw[<-hn,<-hm',<-hs]at hLs;rw[<-hs]at hp hbm;rw[<-hn]at h1 h2 hbk hbm;rw[<-hm']at h3 h4;rw[<-hm',<-hs,he];refine V1 ?_;have hf0:=hm.row 0 (by rw[nl];omega);rw[p9 _ oO]at hf0;have htl0:=kj m (qM s.M 0);have hsl:=hm.sl;have hvl:=hm.len;rw[nl]at hvl;have hS0:=hS;refine J2 ?_;refine jp (ks (i:=0) rfl rfl hsl oO dO lS (jq (kC (i:=0) undef rfl md hsl dO rfl rfl (.inr rfl) (jp (ky rfl hf0 ⟨_,Tryz.underlying34⟩ ?_)))));refine J1 ?_;refine jb ?_;refine kG (λρ w'=>∃vo LO R,ρ 7=vo/\Tv R/\R.map (·.X)=(Mq s.P m).map (rF s.M s.P m)/\Gl se 34 1 vo (R.map Rw.v) LO/\St w2 w' (R.map (Rw.yf ke 32)++LO)) ?_ ?_
 ·refine ja ?_;refine kF (σ:=Nat) (λf ρ w'=>f<=m/\ρ 4=v'/\ρ 5=vp/\ρ 24=iB m/\ρ 25=iB f/\∃vo LO R,ρ 7=vo/\Tv R/\R.map (·.X)=(Mq s.P f).map (rF s.M s.P m)/\Gl se 34 1 vo (R.map Rw.v) LO/\St w2 w' (R.map (Rw.yf ke 32)++LO)) (λf=>m-f) 0
   ⟨aw _,rfl,rfl,vi rfl oO,rfl,_,[],[],rfl,(λ_ h=>by cases h),rfl,Gl.nil _ _ _,St.init w2⟩ ?_
  rintro f ρ w3 ⟨hf,h4',h5',h24,h25,vo,LO,R,h7,hok,hRX,hG,hT⟩;clear hS;have hS:=hT;clear hT;refine V1 ?_;by_cases hlt:f<m
  ·refine J5 ?_;refine jh (kf Tryz.call139 rfl (F1 vp (nI s.P) f _ (hp.kb hS.kb)) ?_);rintro _ wq1 ⟨rfl,hq1⟩;replace hq1:=hq1.symm;subst hq1;refine ja ?_;have hfs:=OR s.P f;by_cases hfP:f∈s.P
   ·rw[aj hfP]at hfs;refine lu rfl (ai (O2.2 hfP)) ?_;refine V2 ?_;exact⟨f+1,_,rfl,⟨hlt,jY,jY,jY,vi rfl oO,vo,LO,R,jY,hok,by rw[hfs];exact hRX,hG,hS⟩,oO⟩
   ·rw[ah hfP]at hfs;refine lH rfl (ae (λh=>hfP (O2.1 h))) ?_;refine ja ?_;have hnl:=sn s.P;refine J1 ?_;refine jp (ks (i:=0) rfl rfl (hsl.kb hS.kb) oO dO lS (jq (kC (i:=0) undef rfl md (hsl.kb hS.kb) dO rfl rfl (.inr rfl) (jp (ky rfl (hf0.kb hS.kb) ⟨_,Tryz.underlying34⟩ (jh (mq (enc:=ke) (n:=m) kZ rfl rfl kW rfl oO oO oO oO hS ?_)))))));intro b35 wz2 hS hBz2;refine J3 ?_;refine jh (kf Tryz.call33 rfl (mY 1 _ dD dD) ?_);rintro _ wc3 ⟨rfl,hBc3⟩;replace hS:=hS.kx hBc3;refine jp (kM (i:=f) rfl rfl oO dO kW ?_);refine jh (Aa (k:=0) (i:=f) (enc:=ke) (ki ((1:Int):Rat)) (λ_=>rfl) rfl rfl kt hS rfl (by first|omega|simp) dO rfl rfl ?_);intro wz4 hS;refine ja ?_;replace hS:St w2 _ ((b35,32,((List.replicate m kZ).set f (ki ((1:Int):Rat))).flatMap ke)::(R.map (Rw.yf ke 32)++LO)):=hS;rw[OP s.P s.M]at hS;refine J1 ?_;refine jp (ky rfl (hp.kb hS.kb) ⟨_,Tryz.underlying46⟩ ?_);refine J1 ?_;refine jb ?_;refine kG (λρ w'=>ρ 4=v'/\ρ 5=vp/\ρ 7=vo/\ρ 9= .slice (some ⟨b35,0,none⟩) m m/\ρ 24=iB m/\ρ 25=iB f/\St w2 w' ((b35,32,(rF s.M s.P m f).flatMap ke)::(R.map (Rw.yf ke 32)++LO))) ?_ ?_
    ·refine ja ?_;refine kF (σ:=Nat) (λk ρ w'=>k<=s.P.length/\ρ 4=v'/\ρ 5=vp/\ρ 7=vo/\ρ 8=iB f/\ρ 9= .slice (some ⟨b35,0,none⟩) m m/\ρ 24=iB m/\ρ 25=iB f/\ρ 40=vp/\ρ 41=iB s.P.length/\ρ 42=iB k/\St w2 w' ((b35,32,(kD m λj=>ki (PB s.P s.M f k j)).flatMap ke)::(R.map (Rw.yf ke 32)++LO))) (λk=>s.P.length-k) 0
      ⟨aw _,jY,jY,jY,rfl,rfl,jY,jY,rfl,vi rfl oO,rfl,hS⟩ ?_
     clear hS;rintro k ρ w4 ⟨hk,h4',h5',h7,h8,h9,h24,h25,h40,h41,h42,hS⟩;have htl:=kj m λj=>ki (PB s.P s.M f k j);refine V1 ?_;by_cases hkl:k<s.P.length
     ·refine V1 ?_;have hrk:=hm.row k (by rw[nl];have:=hI.len;omega);have hkn:k<n:=by have:=hI.len;omega
      rw[p9 _ hkn]at hrk;have htk:=kj m (qM s.M k);have hgk:(kD m (qM s.M k)).getD f kZ=ki (s.M k f):=kB _ _ hlt;have hpk:s.P.getD k 0<m:=hI.lt _ (kO _ _ _ hkl);have hpv:(nI s.P).getD k 0=((s.P.getD k 0:Nat):Int):=by
       unfold nI;rw[nQ _ _ (by rw[bj];exact hkl),ew,nQ s.P 0 hkl]
      have hLk:=hLs k hkn f hlt;have hneg:=λw=>yz (ki (s.M k f)) w (by rw[Lr_ofQ];omega);rw[toQ_ofQ]at hneg;refine J1 ?_;refine jp (ks (i:=k) h40 h42 (hp.kb hS.kb) oO dO p7 (jq (kC (i:=k) 0 rfl mR (hp.kb hS.kb) dO rfl rfl (.inr rfl) ?_)));refine V2 ?_;rw[hpv];refine J4 ?_;refine jp (ks (i:=k) rfl rfl (hsl.kb hS.kb) oO dO lS (jq (kC (i:=k) undef rfl md (hsl.kb hS.kb) dO rfl rfl (.inr rfl) ?_)));refine J1 ?_;refine jp (ks (i:=f) rfl rfl (hrk.kb hS.kb) oO dO kW (jq (kC (i:=f) kZ rfl kt (hrk.kb hS.kb) dO rfl rfl (.inl rfl) ?_)));rw[hgk];refine jh (kf Tryz.call105 rfl (hneg _) ?_);rintro _ wc5 ⟨rfl,hBc5⟩;replace hS:=hS.kx hBc5;refine jp (kM (i:=(s.P.getD k 0)) rfl rfl oO dO kW ?_);refine jh (Aa (k:=0) (i:=(s.P.getD k 0)) (enc:=ke) (ki (-s.M k f)) (λ_=>rfl) rfl rfl kt hS rfl (by first|omega|simp) dO rfl rfl ?_);intro wz6 hS;refine ja ?_;replace hS:St w2 _ ((b35,32,((kD m λj=>ki (PB s.P s.M f k j)).set (s.P.getD k 0) (ki (-s.M k f))).flatMap ke)::(R.map (Rw.yf ke 32)++LO)):=hS;rw[Rg hI.inc hfP hkl]at hS;refine V2 ?_;exact⟨k+1,_,rfl,⟨hkl,jY,jY,jY,jY,jY,jY,jY,jY,jY,vi rfl oO,hS⟩,oO⟩
     ·refine J1 ?_;refine jt ?_;obtain rfl:k=s.P.length:=oO;have ek:(kD m λj=>ki (PB s.P s.M f s.P.length j))=rF s.M s.P m f:=kN λj _=>by rw[RT]
      rw[ek]at hS;exact⟨_,rfl,h4',h5',h7,h9,h24,h25,hS⟩
    clear hS;rintro ρ w4 ⟨h4',h5',h7,h9,h24,h25,hS⟩;have hkl:=kj m λj=>ki (kv s.P s.M f j);have hvn:(R.map Rw.v).length=R.length:=bj _;have hRl:R.length<=f:=by
     have:=bB List.length hRX;rw[bj,bj]at this;have h2:=i4 (λf=> !decide (f∈s.P)) (List.range f);rw[dE]at h2;unfold Mq at this;omega
    refine ja ?_;rw[<-bY]at hS;refine J2 ?_;refine jh (np (vs:=[.slice (some ⟨b35,0,none⟩) m m]) rfl lS rfl dD dD dD (by simp[Value.cells]) rfl hS ?_);intro b7 wz8 hS hBz8;refine jh (mO [Value.slice (some ⟨b35,0,none⟩) m m] rfl rfl lS dD hG hS rfl rfl (λ_=>rfl) (λu hu=>by rw[aO.1 (show u∈[Value.slice (some ⟨b35,0,none⟩) m m]from hu)];rfl) dL dL ?_);intro va9 La9 wa9 hG hS hga9;refine V3 ?_;obtain⟨nr,hnr⟩:∃nr:Rw RR,nr=⟨b35,m,rF s.M s.P m f,[]⟩:=⟨_,rfl⟩;have evv:R.map Rw.v++[Value.slice (some ⟨b35,0,none⟩) m m]=(R++[nr]).map Rw.v:=by
     rw[bS,hnr];show _=R.map Rw.v++[Value.slice (some ⟨b35,0,none⟩) (rF s.M s.P m f).length m];unfold rF;rw[hkl]
    have eb:∀T:List lj,((b35,32,(rF s.M s.P m f).flatMap ke)::R.map (Rw.yf ke 32)++T).Perm ((R++[nr]).map (Rw.yf ke 32)++T):=by
     intro T;have:List.map (Rw.yf ke 32) [nr]=[(b35,32,(rF s.M s.P m f).flatMap ke)]:=by
      rw[hnr];show [(b35,32,(rF s.M s.P m f).flatMap ke++[])]=_;rw[aK]
     rw[bS,this];exact bQ _ (eG _ _).symm
    rw[evv]at hG;have hS2:=hS.perm (eb _);refine⟨f+1,_,rfl,⟨hlt,jY,jY,jY,vi rfl oO,_,_,R++[nr],rfl,?_,?_,hG,hS2⟩,oO⟩
    ·intro r hr;rcases bN.1 hr with g|g
     ·exact hok r g
     ·rw[aO.1 g,hnr];exact⟨by show(rF s.M s.P m f).length<=m;unfold rF;omega,by show m<=_;omega⟩
    ·rw[hfs,bS,bS,hRX,hnr];rfl
  ·refine J1 ?_;refine jt ?_;obtain rfl:f=m:=oO;exact⟨_,rfl,vo,LO,R,h7,hok,hRX,hG,hS⟩
 clear hS;rintro ρ w3 ⟨vo,LO,R,h7,hok,hRX,hG,hS⟩;refine ja ?_;have hmt:=Pz (size:=3) kA hok hG hS;rw[hRX]at hmt;refine J3 ?_;refine jt ?_;refine rP rfl rfl rfl ?_;exact⟨⟨vo,_,rfl,hmt⟩,hS0.kb.trans (hS.kb.mono hS0.kb.size)⟩
structure ZZ where
 neg:Bool
 mag:Nat
def mV (z:ZZ):List Value:=[.bool z.neg,.string (kQ z.mag)]
def DU (z:ZZ):Value:= .agg #[.bool z.neg,.string (kQ z.mag)]
def AB:ZZ:=⟨false,0⟩
theorem nj:∀z,(mV z).length=2:=λ_=>rfl
theorem AU:mV AB=[.bool false,.string ⟨#[]⟩]:=by
 have:kQ 0=⟨#[]⟩:=oA.2 rfl;show [Value.bool false,.string (kQ 0)]=_;rw[this]
def zv (z:ZZ):Int:=sg z.neg z.mag
def yl (z:ZZ):Nat:=(kQ z.mag).size
def tz (a b:ZZ):ZZ:=⟨a.neg !=b.neg,a.mag*b.mag⟩
def tj (a b:ZZ):ZZ:=if a.neg≠b.neg then⟨a.neg,a.mag+b.mag⟩else if b.mag<=a.mag then⟨a.neg,a.mag-b.mag⟩else⟨!a.neg,b.mag-a.mag⟩
def Ii (a b:ZZ):ZZ:=⟨a.neg !=b.neg,a.mag/b.mag⟩
theorem HU (a b:ZZ):zv (tz a b)=zv a*zv b:=by
 obtain⟨x,m⟩:=a;obtain⟨y,n⟩:=b;unfold zv tz sg;cases x<;>cases y<;>simp[j2,Int.mul_neg]
theorem Ox (a b:ZZ):zv (tj a b)=zv a-zv b:=by
 obtain⟨x,m⟩:=a;obtain⟨y,n⟩:=b;unfold zv tj sg;by_cases h:n<=m
 ·cases x<;>cases y<;>simp[h]<;>omega
 ·cases x<;>cases y<;>simp[h]<;>omega
theorem Rb (a b:ZZ):zv (Ii a b)=(zv a).tdiv (zv b):=by
 obtain⟨x,m⟩:=a;obtain⟨y,n⟩:=b;unfold zv Ii sg;cases x<;>cases y<;>simp[Int.neg_tdiv,Int.tdiv_neg]
theorem NL {z:ZZ}:zv z=0↔z.mag=0:=by
 unfold zv sg;split<;>omega
theorem xK (a b:ZZ):yl (tz a b)<=yl a+yl b:=lY _ _
theorem Ek (a b:ZZ):yl (tj a b)<=max (yl a) (yl b)+1:=by
 unfold tj yl;split
 ·exact uz _ _
 ·split
  ·have:=me (Nat.sub_le a.mag b.mag);show(kQ (a.mag-b.mag)).size<=_;omega
  ·have:=me (Nat.sub_le b.mag a.mag);show(kQ (b.mag-a.mag)).size<=_;omega
theorem PP (a b:ZZ):yl (Ii a b)<=yl a:=me (dx _ _)
theorem O0:yl AB=0:=by
 show(kQ 0).size=0;rw[oA.2 rfl];rfl
theorem wo (b:Bool) (s:ByteArray):Tryz.prog.built 223 [(0,.bool b),(1,.string s)]=some #[.bool b,.string s]:=by kernel_rfl
theorem E4 (a b:ZZ) (w:World) (ha:yl a<=4398046511104) (hb:yl b<=4398046511104):
  mb Tryz.prog 174 #[DU a,DU b] w λv w'=>v=DU (tz a b)/\Below w.heap.size w w':=by
 have hS:=St.init w;refine enter Tryz.func174 rfl Tryz.ntmps174 rfl ?_;refine jr ?_;refine jh (lx (new:=mV a) rfl rfl hS ?_);intro b1 wz2 hS hBz2;refine jh (lx (new:=mV b) rfl rfl hS ?_);intro b3 wz4 hS hBz4;refine J1 ?_;intro b5 wz6 hS hBz6;refine ja ?_;refine kK [jo 0,ju 1,jo 2,ju 3,jo 4,jo 5,ju 6,jo 7,ju 8,jv 9,jo 10,jw 11] kR kR hS ?_;intro wz7 hS hBz7;refine J4 ?_;refine jl rfl (Dg rfl rfl Tryz.underlying4 ?_);refine J4 ?_;refine jn rfl (kf Tryz.call30 rfl (wK a.mag b.mag _ ha hb) ?_);rintro _ wc8 ⟨rfl,hBc8⟩;replace hS:=hS.kx hBc8;refine⟨hBc8,?_⟩;refine jl rfl (lr rfl (wo _ _) ?_);refine J1 ?_;intro wz9 hS;refine jt ?_;refine mA (k:=0) rfl rfl pu hS rfl rfl ?_;exact⟨rfl,hS.kb⟩
theorem Nw (a b:ZZ) (w:World) (ha:yl a<=4398046511104) (hb:yl b<=4398046511104):
  mb Tryz.prog 175 #[DU a,DU b] w λv w'=>v=DU (tj a b)/\Below w.heap.size w w':=by
 have hS:=St.init w;refine enter Tryz.func175 rfl Tryz.ntmps175 rfl ?_;refine jr ?_;refine jh (lx (new:=mV a) rfl rfl hS ?_);intro b1 wz2 hS hBz2;refine jh (lx (new:=mV b) rfl rfl hS ?_);intro b3 wz4 hS hBz4;refine J1 ?_;intro b5 wz6 hS hBz6;refine J4 ?_;refine jp (Dg rfl rfl Tryz.underlying4 ?_);refine ja ?_;by_cases hn:a.neg≠b.neg
 ·have e:tj a b=⟨a.neg,a.mag+b.mag⟩:=aj hn;rw[e];refine lu rfl (by simpa using hn) ?_;refine ja ?_;refine kK [jo 0,ju 1,jo 2,ju 3,jo 4,ju 5,jv 6,jo 7,jw 8] kR kR hS ?_;intro wz7 hS hBz7;refine J6 ?_;refine jn rfl (kf Tryz.call74 rfl (Te a.mag b.mag _ ha hb) ?_);rintro _ wc8 ⟨rfl,hBc8⟩;replace hS:=hS.kx hBc8;refine⟨hBc8,?_⟩;refine jl rfl (lr rfl (wo _ _) ?_);refine J1 ?_;intro wz9 hS;refine jt ?_;refine mA (k:=0) rfl rfl pu hS rfl rfl ?_;exact⟨rfl,hS.kb⟩
 refine lH rfl (by simpa using hn) ?_;refine J4 ?_;by_cases hle:b.mag<=a.mag
 ·have e:tj a b=⟨a.neg,a.mag-b.mag⟩:=by unfold tj;rw[ah hn,aj hle]
  rw[e];refine jh (kf Tryz.call75 rfl (KK a.mag b.mag _ ha hb hle) ?_);rintro _ wc10 ⟨rfl,hBc10⟩;replace hS:=hS.kx hBc10;refine V6 ?_;refine lu rfl (rfl) ?_;refine J3 ?_;refine jp (lr rfl (wo _ _) ?_);refine J1 ?_;intro wz11 hS;refine jt ?_;refine mA (k:=0) rfl rfl pu hS rfl rfl ?_;exact⟨rfl,hS.kb⟩
 ·have e:tj a b=⟨!a.neg,b.mag-a.mag⟩:=by unfold tj;rw[ah hn,ah hle]
  rw[e];refine jh (kf Tryz.call75 rfl (Ib a.mag b.mag _ ha hb oO) ?_);rintro _ wc12 ⟨rfl,hBc12⟩;replace hS:=hS.kx hBc12;refine V6 ?_;refine lH rfl (rfl) ?_;refine J4 ?_;refine jh (kf Tryz.call75 rfl (KK b.mag a.mag _ hb ha oO) ?_);rintro _ wc13 ⟨rfl,hBc13⟩;replace hS:=hS.kx hBc13;refine J9 ?_;refine jp (lr rfl (wo _ _) ?_);refine J1 ?_;intro wz14 hS;refine jt ?_;refine mA (k:=0) rfl rfl pu hS rfl rfl ?_;exact⟨rfl,hS.kb⟩
theorem Ob (a b:ZZ) (w:World) (ha:yl a<=4398046511104) (hb:yl b<=4398046511104) (h0:b.mag≠0):
  mb Tryz.prog 176 #[DU a,DU b] w λv w'=>v=DU (Ii a b)/\Below w.heap.size w w':=by
 have hS:=St.init w;refine enter Tryz.func176 rfl Tryz.ntmps176 rfl ?_;refine jr ?_;refine jh (lx (new:=mV a) rfl rfl hS ?_);intro b1 wz2 hS hBz2;refine jh (lx (new:=mV b) rfl rfl hS ?_);intro b3 wz4 hS hBz4;refine J1 ?_;intro b5 wz6 hS hBz6;refine J4 ?_;refine jh (kf Tryz.call68 rfl (HT a.mag b.mag _ ha hb h0) ?_);rintro _ wc7 ⟨rfl,hBc7⟩;replace hS:=hS.kx hBc7;refine Xp ?_;refine jp (Dg rfl rfl Tryz.underlying4 ?_);refine J1 ?_;refine jp (lr rfl (wo _ _) ?_);refine J1 ?_;intro wz8 hS;refine jt ?_;refine mA (k:=0) rfl rfl pu hS rfl rfl ?_;exact⟨rfl,hS.kb⟩
theorem xt (q:Rat) (w:World):
  mb Tryz.prog 173 #[lC (ki q)] w λv w'=>v= .string (kQ q.den)/\Below w.heap.size w w':=by
 have hS:=St.init w;refine enter Tryz.func173 rfl Tryz.ntmps173 rfl ?_;refine jr ?_;refine jh (lx (new:=ke (ki q)) rfl rfl hS ?_);intro b1 wz2 hS hBz2;refine J3 ?_;refine jp (qk rfl rfl ?_);refine ja ?_;by_cases h:q.den=1
 ·refine lu rfl (ai (by show(if q.den=1 then(⟨#[]⟩:ByteArray)else kQ q.den)=_;rw[aj h])) ?_;refine jr ?_;refine jh (kf Tryz.call113 rfl (sW 1 _ dD) ?_);rintro _ wc3 ⟨rfl,hBc3⟩;replace hS:=hS.kx hBc3;refine J1 ?_;refine jt ?_;refine kJ rfl rfl ?_;exact⟨by rw[h];rfl,hS.kb⟩
 ·have hd:(ki q).den=kQ q.den:=ah h;refine lH rfl (ae (by rw[hd];exact λg=>q.den_nz (oA.1 g))) ?_;refine J3 ?_;refine jt ?_;refine kJ rfl rfl ?_;exact⟨bB Value.string hd,hS.kb⟩
def vw (q:Nat->Rat):Nat->Nat
 |0=>1
 |j+1=>vw q j*((q j).den/Nat.gcd (vw q j) (q j).den)
theorem BM (q:Nat->Rat):∀j,0<vw q j
 |0=>Nat.one_pos
 |j+1=>dH (BM q j) (iy (Nat.le_of_dvd (q j).den_pos (fB _ _)) (Nat.gcd_pos_of_pos_left _ (BM q j)))
theorem RY (q:Nat->Rat) (j:Nat):vw q j∣vw q (j+1):=⟨_,rfl⟩
theorem RU (q:Nat->Rat) (j:Nat):(q j).den∣vw q (j+1):=by
 obtain⟨a,ha⟩:=iK (vw q j) (q j).den;have hg:Nat.gcd (vw q j) (q j).den*((q j).den/Nat.gcd (vw q j) (q j).den)=(q j).den:=jC (fB _ _);refine⟨a,?_⟩;show vw q j*((q j).den/Nat.gcd (vw q j) (q j).den)=_;conv=>lhs;lhs;rw[ha]
 conv=>rhs;lhs;rw[<-hg]
 rw[ba,ba,bF a]
theorem Ha (q:Nat->Rat) {i:Nat}:∀ {j:Nat},i<=j->vw q i∣vw q j
 |0,h=>by obtain rfl:i=0:=oO;exact Nat.dvd_refl _
 |j+1,h=>by
  by_cases e:i=j+1
  ·rw[e];exact Nat.dvd_refl _
  ·exact eC (Ha q oO) (RY q j)
theorem QY (q:Nat->Rat) {j m:Nat} (h:j<m):(q j).den∣vw q m:=eC (RU q j) (Ha q h)
def Ug (q:Nat->Rat) (j:Nat):Nat:=(kQ (vw q j)).size
theorem JK {q:Nat->Rat} {K m:Nat} (h:∀j,j<m->L (q j)<=K):∀j,j<=m->Ug q j<=1+j*K
 |0,_=>by show(kQ 1).size<=_;rw[qd];omega
 |j+1,hj=>by
  have ih:=JK h j oO;have h1:=lY (vw q j) ((q j).den/Nat.gcd (vw q j) (q j).den);have h2:=me (dx (q j).den (Nat.gcd (vw q j) (q j).den));have h3:=tB (q j);have h4:=h j oO;show(kQ (vw q j*((q j).den/Nat.gcd (vw q j) (q j).den))).size<=_;unfold Ug at ih;rw[bn];omega
def IJ (q:Nat->Rat) (m j:Nat):ZZ:=⟨decide ((q j).num<0),(q j).num.natAbs*(vw q m/(q j).den)⟩
theorem Q2 (b:Bool) (x y:Nat):sg b (x*y)=sg b x*(y:Int):=by
 unfold sg;cases b<;>simp[j2]
theorem R6 (q:Nat->Rat) {m j:Nat} (h:j<m):((zv (IJ q m j):Int):Rat)=((vw q m:Int):Rat)*q j:=by
 obtain⟨c,hc⟩:=QY q h;have hd:=(q j).den_pos;have e:vw q m/(q j).den=c:=by rw[hc];exact Nat.mul_div_cancel_left _ hd
 unfold zv IJ;rw[e,Q2,C3,hc];have hq:q j=((q j).num:Rat)/(((q j).den:Int):Rat):=by
  conv=>lhs;rw[<-eE (q j),fh]
  rfl
 have hd0:((((q j).den:Nat):Int):Rat)≠0:=λe=>by
  have:=gW.1 (show(((q j).den:Int):Rat)=((0:Int):Rat)from e);omega
 conv=>rhs;rhs;rw[hq]
 rw[gZ,eJ,eJ,bT];have:=bW _ hd0;grind
theorem Qh {q:Nat->Rat} {K m j:Nat} (h:∀j,j<m->L (q j)<=K) (hj:j<m):yl (IJ q m j)<=K+Ug q m:=by
 have h1:=lY (q j).num.natAbs (vw q m/(q j).den);have h2:=me (dx (vw q m) (q j).den);have h3:=uf (q j);have h4:=h j hj;unfold yl Ug;show(kQ ((q j).num.natAbs*(vw q m/(q j).den))).size<=_;omega
theorem WJ (n:Nat):rep n [Value.bool false,.string ⟨#[]⟩]=(List.replicate n AB).flatMap mV:=by
 rw[<-AU,Ir]
def Bp (q:Nat->Rat) (m i j:Nat):ZZ:=if j<i then IJ q m j else AB
theorem M5 (q:Nat->Rat) (m i:Nat):(kD m (Bp q m i)).set i (IJ q m i)=kD m (Bp q m (i+1)):=by
 rw[mZ];refine kN λj _=> ?_;unfold Bp;by_cases h:j=i
 ·rw[aj h,aj oO,h]
 ·rw[ah h];by_cases h2:j<i
  ·rw[aj h2,aj oO]
  ·rw[ah h2,ah oO]
theorem Fj (v:Value) (q:Nat->Rat) (m K:Nat) (w:World) (hv:Sl ke 3 w v (kD m λj=>ki (q j))) (hm:m<=1000) (hL:∀j,j<m->L (q j)<=K) (hK:2000*K+2000<=MX):
  mb Tryz.prog 142 #[v] w λr w'=>(∃b,r= .slice (some ⟨b,0,none⟩) m m/\St w w' [(b,223,(kD m (IJ q m)).flatMap mV)])/\Below w.heap.size w w':=by
 have hM:MX=1099511627776:=rfl;have htl:=kj m λj=>ki (q j);have hget:∀j,j<m->(kD m λj=>ki (q j)).getD j kZ=ki (q j):=λj hj=>kB _ _ hj;have hC:∀j,j<=m->Ug q j<=1+1000*K:=λj hj=>cQ (JK hL j hj) (Nat.add_le_add_left (aI _ oO) _);have hS:=St.init w;refine enter Tryz.func142 rfl Tryz.ntmps142 rfl ?_;refine Y1 ?_;refine jh (kf Tryz.call113 rfl (sW 1 _ dD) ?_);rintro _ wc1 ⟨rfl,hBc1⟩;replace hS:=hS.kx hBc1;refine J2 ?_;refine jp (ky rfl (hv.kb hS.kb) ⟨_,Tryz.underlying34⟩ ?_);refine J1 ?_;refine jb ?_;refine kG (λρ w'=>ρ 0=v/\ρ 3= .string (kQ (vw q m))/\St w w' []) ?_ ?_
 ·refine ja ?_;refine kF (σ:=Nat) (λi ρ w'=>i<=m/\ρ 0=v/\ρ 3= .string (kQ (vw q i))/\ρ 17=v/\ρ 18=iB m/\ρ 19=iB i/\St w w' []) (λi=>m-i) 0
   ⟨aw _,rfl,rfl,rfl,vi rfl oO,rfl,hS⟩ ?_
  clear hS;rintro i ρ w2 ⟨hi,h0,h3,h17,h18,h19,hS⟩;refine V1 ?_;by_cases hlt:i<m
  ·refine V1 ?_;have hCi:=hC i oO;have hLi:=hL i hlt;have hLd:=tB (q i);unfold Ug at hCi;have hgz:=me (Nat.le_of_dvd (q i).den_pos (fB (vw q i) (q i).den));have hdz:=me (dx (q i).den (Nat.gcd (vw q i) (q i).den));have hg0:Nat.gcd (vw q i) (q i).den≠0:=Nat.pos_iff_ne_zero.1 (Nat.gcd_pos_of_pos_left _ (BM q i));refine jr ?_;refine jp (ks (i:=i) h17 h19 (hv.kb hS.kb) oO dO kW (jq (kC (i:=i) kZ rfl kt (hv.kb hS.kb) dO rfl rfl (.inl rfl) ?_)));refine J1 ?_;intro b5 wz2 hS hBz2;refine J1 ?_;intro wz3 hS;refine ja ?_;rw[hget i hlt]at hS;refine J1 ?_;refine jh (kf Tryz.call173 rfl (xt (q i) _) ?_);rintro _ wc4 ⟨rfl,hBc4⟩;replace hS:=hS.kx hBc4;refine J4 ?_;refine jh (kf Tryz.call67 rfl (SQ _ _ _ oO oO) ?_);rintro _ wc5 ⟨rfl,hBc5⟩;replace hS:=hS.kx hBc5;refine jh (kf Tryz.call68 rfl (HT _ _ _ oO oO hg0) ?_);rintro _ wc6 ⟨rfl,hBc6⟩;replace hS:=hS.kx hBc6;refine J9 ?_;refine jh (kf Tryz.call30 rfl (wK _ _ _ oO oO) ?_);rintro _ wc7 ⟨rfl,hBc7⟩;replace hS:=hS.kx hBc7;refine V3 ?_;exact⟨i+1,_,rfl,⟨hlt,jY,rfl,jY,jY,vi rfl oO,hS.drop (gO _)⟩,oO⟩
  ·refine J1 ?_;refine jt ?_;obtain rfl:i=m:=oO;exact⟨_,rfl,h0,h3,hS⟩
 clear hS;rintro ρ w2 ⟨h0,h3,hS⟩;refine J1 ?_;refine jp (ky rfl (hv.kb hS.kb) ⟨_,Tryz.underlying34⟩ (jh (Ao (n:=m) rfl rfl r5 oO oO oO oO hS ?_)));intro b40 wz8 hS hBz8;refine V1 ?_;replace hS:St w _ [(b40,223,rep m [Value.bool false,.string ⟨#[]⟩])]:=hS;rw[WJ,ur,show(kD m λ_=>AB)=kD m (Bp q m 0)from kN λj _=>by unfold Bp;rw[ah (aS _)]]at hS;refine J1 ?_;refine jp (ky rfl (hv.kb hS.kb) ⟨_,Tryz.underlying34⟩ ?_);refine J1 ?_;refine jb ?_;refine kG (λρ w'=>ρ 10= .slice (some ⟨b40,0,none⟩) m m/\St w w' [(b40,223,(kD m (IJ q m)).flatMap mV)]) ?_ ?_
 ·refine ja ?_;refine kF (σ:=Nat) (λi ρ w'=>i<=m/\ρ 3= .string (kQ (vw q m))/\ρ 10= .slice (some ⟨b40,0,none⟩) m m/\ρ 41=v/\ρ 42=iB m/\ρ 43=iB i/\St w w' [(b40,223,(kD m (Bp q m i)).flatMap mV)]) (λi=>m-i) 0
   ⟨aw _,h3,rfl,rfl,vi rfl oO,rfl,hS⟩ ?_
  clear hS;rintro i ρ w3 ⟨hi,h3,h10,h41,h42,h43,hS⟩;have htf:=kj m (Bp q m i);refine V1 ?_;by_cases hlt:i<m
  ·refine V1 ?_;have hCi:=hC m (aB _);have hLi:=hL i hlt;have hLd:=tB (q i);have hLn:=uf (q i);unfold Ug at hCi;have hdz:=me (dx (vw q m) (q i).den);refine J1 ?_;refine jp (ks (i:=i) h41 h43 (hv.kb hS.kb) oO dO kW (jq (kC (i:=i) kZ rfl kt (hv.kb hS.kb) dO rfl rfl (.inl rfl) ?_)));refine J1 ?_;intro b12 wz9 hS hBz9;refine J2 ?_;intro wz10 hS;refine ja ?_;rw[hget i hlt]at hS;refine J2 ?_;refine jh (kf Tryz.call173 rfl (xt (q i) _) ?_);rintro _ wc11 ⟨rfl,hBc11⟩;replace hS:=hS.kx hBc11;refine jh (kf Tryz.call68 rfl (HT _ _ _ oO oO (q i).den_nz) ?_);rintro _ wc12 ⟨rfl,hBc12⟩;replace hS:=hS.kx hBc12;refine V7 ?_;refine kK [jo 0,jo 1,jo 2,ju 3,jo 4,ju 5,jo 6,jv 7,jo 8,jo 9,jw 10] kR kR hS ?_;intro wz13 hS hBz13;refine J7 ?_;refine jn rfl (kf Tryz.call30 rfl (wK _ _ _ (by show(kQ _).size<=_;omega) oO) ?_);rintro _ wc14 ⟨rfl,hBc14⟩;replace hS:=hS.kx hBc14;refine⟨hBc14,?_⟩;refine jl rfl (lr rfl (wo _ _) (jl rfl (kM (i:=i) rfl rfl oO dO r5 ?_)));refine jx rfl (Aa (k:=1) (i:=i) (enc:=mV) (IJ q m i) (λ_=>rfl) rfl rfl pu hS rfl (by first|omega|simp) dO rfl rfl ?_);intro wz15 hS;refine ja ?_;replace hS:=hS.drop (ab _ _);rw[M5]at hS;refine V2 ?_;exact⟨i+1,_,rfl,⟨hlt,jY,jY,jY,jY,vi rfl oO,hS⟩,oO⟩
  ·refine J1 ?_;refine jt ?_;obtain rfl:i=m:=oO;rw[show kD i (Bp q i i)=kD i (IJ q i)from kN λj hj=>aj hj]at hS;exact⟨_,rfl,h10,hS⟩
 clear hS;rintro ρ w3 ⟨h10,hS⟩;refine J2 ?_;refine jt ?_;refine kJ rfl rfl ?_;exact⟨⟨_,rfl,hS⟩,hS.kb⟩
abbrev MZ:=Nat->Nat->ZZ
def Jb (f:MZ) (k:Nat) (last:ZZ) (i j:Nat):ZZ:=Ii (tj (tz (f k k) (f i j)) (tz (f i k) (f k j))) last
def u4 (f:MZ) (k:Nat) (last:ZZ):MZ:=λi j=>if i=k then f k j else if j=k then AB else Jb f k last i j
def xA (f:MZ) (k:Nat) (last:ZZ) (i:Nat):MZ:=λa b=>if a<i then u4 f k last a b else f a b
def Bs (f:MZ) (k:Nat) (last:ZZ) (i j:Nat):MZ:=λa b=>if a=i/\b<j/\b≠k then Jb f k last i b else xA f k last i a b
theorem NC {f:MZ} {n m S:Nat} (h:∀i,i<n->∀j,j<m->yl (f i j)<=S) {k i j:Nat} (last:ZZ) (hk:k<n) (hkm:k<m) (hi:i<n) (hj:j<m):yl (Jb f k last i j)<=2*S+1:=by
 have h1:=PP (tj (tz (f k k) (f i j)) (tz (f i k) (f k j))) last;have h2:=Ek (tz (f k k) (f i j)) (tz (f i k) (f k j));have h3:=xK (f k k) (f i j);have h4:=xK (f i k) (f k j);have:=h k hk k hkm;have:=h i hi j hj;have:=h i hi k hkm;have:=h k hk j hj;unfold Jb;omega
theorem IU {f:MZ} {n m S:Nat} (h:∀i,i<n->∀j,j<m->yl (f i j)<=S) {k:Nat} (last:ZZ) (hk:k<n) (hkm:k<m):∀i,i<n->∀j,j<m->yl (u4 f k last i j)<=2*S+1:=by
 intro i hi j hj;unfold u4;split
 ·have:=h k hk j hj;omega
 ·split
  ·rw[O0];omega
  ·exact NC h last hk hkm hi hj
theorem Ee {R0:List (Rw ZZ)} {n m:Nat} {f:MZ} {w0:World} {bo:Nat} {H:List lj} (k:Nat) (last:ZZ) (S:Nat) (w:World) (hR0:mN R0 n m f) (hn:n<=1000) (hm:m<=1000) (hk:k<n) (hkm:k<m) (hf:∀i,i<n->∀j,j<m->yl (f i j)<=S) (hls:yl last<=S) (hl0:last.mag≠0) (hK:2*S+2<=MX) (hS:St w0 w (mB mV 223 220 bo R0 H)):
  mb Tryz.prog 145 #[.slice (some ⟨bo,0,none⟩) n n,.int .i64 k,DU last] w λv w'=>v= .tuple #[]/\∃R',mN R' n m (u4 f k last)/\St w0 w' (mB mV 223 220 bo R' H):=by
 have hM:MX=1099511627776:=rfl;have hlk0:k<R0.length:=by rw[hR0.len];exact hk
 have hxk0:=hR0.x9 hk;have hg0:(R0.getD k o5).X.getD k AB=f k k:=hR0.get hk hkm _;refine enter Tryz.func145 rfl Tryz.ntmps145 rfl ?_;refine jr ?_;refine jh (lx (new:=mV last) rfl rfl hS ?_);intro b5 wz1 hS hBz1;refine ja ?_;replace hS:St w0 _ ([(b5,223,mV last)]++mB mV 223 220 bo R0 H):=hS;refine J2 ?_;refine jp (kM (i:=k) rfl rfl oO dO rZ (jq (nD [_] rfl sk hS oO hlk0 ?_)));refine J1 ?_;refine jp (kM (i:=k) rfl rfl oO dO r5 (jq (rY [_] (i:=k) (j:=k) AB nj rfl pu hS rfl hlk0 oO oO rfl (.inl rfl) ?_)));refine J1 ?_;intro b6 wz2 hS hBz2;refine J1 ?_;intro wz3 hS;refine ja ?_;rw[hg0]at hS;replace hS:St w0 _ ([(b6,223,mV (f k k)),(b5,223,mV last)]++mB mV 223 220 bo R0 H):=hS;refine ja ?_;refine nk (λρ'=>ρ' 0= .slice (some ⟨bo,0,none⟩) n n/\ρ' 1= .int .i64 k/\ρ' 5= .pointer (some ⟨b5,0,none⟩)/\ρ' 6= .pointer (some ⟨b6,0,none⟩)/\True) ⟨rfl,rfl,rfl,rfl,trivial⟩ ?_;rintro ρk4 ⟨hk4_0,hk4_1,hk4_5,hk4_6,-⟩;refine J3 ?_;refine jb ?_;refine kG (λρ w'=>∃R,mN R n m (xA f k last n)/\St w0 w' ([(b6,223,mV (f k k)),(b5,223,mV last)]++mB mV 223 220 bo R H)) ?_ ?_
 ·refine ja ?_;refine kF (σ:=Nat) (λi ρ w'=>i<=n/\ρ 0= .slice (some ⟨bo,0,none⟩) n n/\ρ 1=iB k/\ρ 5=pB b5/\ρ 6=pB b6/\ρ 18= .slice (some ⟨bo,0,none⟩) n n/\ρ 19=iB n/\ρ 20=iB i/\
   ∃R,mN R n m (xA f k last i)/\St w0 w' ([(b6,223,mV (f k k)),(b5,223,mV last)]++mB mV 223 220 bo R H)) (λi=>n-i) 0
   ⟨aw _,jY,jY,jY,jY,rfl,rfl,rfl,R0,hR0.congr λa _ b _=>(ah (aS _)).symm,hS⟩ ?_
  clear hS hlk0 hxk0 hg0;rintro i ρ w2 ⟨hi,h0,h1,h5,h6,h18,h19,h20,R,hR,hS⟩;refine V1 ?_;by_cases hlt:i<n
  ·refine V1 ?_;have hli:i<R.length:=by rw[hR.len];exact hlt
   have hlk:k<R.length:=by rw[hR.len];exact hk
   have hxi:=hR.x9 hlt;have hrow:∀b,b<m->xA f k last i i b=f i b:=λb _=>ah (dt _);have hrowk:∀b,b<m->xA f k last i k b=f k b:=λb _=>by
    unfold xA u4;split
    ·rw[aj rfl]
    ·rfl
   refine J1 ?_;refine jp (kM (i:=i) h18 h20 oO dO rZ (jq (nD [_,_] rfl sk hS oO hli ?_)));refine V5 ?_;by_cases hik:i=k
   ·refine V3 ?_;refine⟨i+1,_,rfl,⟨hlt,jY,jY,jY,jY,jY,jY,vi rfl oO,R,hR.congr λa _ b hb=> ?_,hS⟩,oO⟩;by_cases e:a=i
    ·rw[e,hrow b hb];unfold xA u4;rw[aj oO,aj hik,hik]
    ·unfold xA;by_cases e2:a<i
     ·rw[aj e2,aj oO]
     ·rw[ah e2,ah oO]
   ·refine V1 ?_;have hgi:(R.getD i o5).X.getD k AB=f i k:=by rw[hR.get hlt hkm];exact hrow k hkm
    refine J2 ?_;refine jp (kM (i:=k) rfl rfl oO dO r5 (jq (rY [_,_] (i:=i) (j:=k) AB nj rfl pu hS rfl hli oO oO rfl (.inl rfl) ?_)));refine J1 ?_;intro b9 wz5 hS hBz5;refine J1 ?_;intro wz6 hS;refine ja ?_;rw[hgi]at hS;replace hS:St w0 _ ([(b9,223,mV (f i k)),(b6,223,mV (f k k)),(b5,223,mV last)]++mB mV 223 220 bo R H):=hS;obtain⟨bi,hbi⟩:=jz ((R.getD i o5).b);obtain⟨ci,hci⟩:=jz ((R.getD i o5).cap);have hvi:=hR.v hlt;rw[<-hbi,<-hci]at hvi;rw[hvi];refine ja ?_;refine nk (λρ'=>ρ' 0= .slice (some ⟨bo,0,none⟩) n n/\ρ' 1= .int .i64 k/\ρ' 5= .pointer (some ⟨b5,0,none⟩)/\ρ' 6= .pointer (some ⟨b6,0,none⟩)/\ρ' 8= .slice (some ⟨bi,0,none⟩) m ci/\ρ' 9= .pointer (some ⟨b9,0,none⟩)/\ρ' 18= .slice (some ⟨bo,0,none⟩) n n/\ρ' 19= .int .i64 n/\ρ' 20= .int .i64 i/\True) ⟨h0,h1,h5,h6,rfl,rfl,h18,h19,h20,trivial⟩ ?_;rintro ρk7 ⟨hk7_0,hk7_1,hk7_5,hk7_6,hk7_8,hk7_9,hk7_18,hk7_19,hk7_20,-⟩;refine J3 ?_;refine jb ?_;refine kG (λρ w'=>ρ 0= .slice (some ⟨bo,0,none⟩) n n/\ρ 1=iB k/\ρ 5=pB b5/\ρ 6=pB b6/\ρ 8= .slice (some ⟨bi,0,none⟩) m ci/\ρ 18= .slice (some ⟨bo,0,none⟩) n n/\ρ 19=iB n/\ρ 20=iB i/\
     ∃R,(R.getD i o5).b=bi/\mN R n m (Bs f k last i m)/\St w0 w' ([(b6,223,mV (f k k)),(b5,223,mV last)]++mB mV 223 220 bo R H)) ?_ ?_
    ·refine ja ?_;refine kF (σ:=Nat) (λj ρ w'=>j<=m/\ρ 0= .slice (some ⟨bo,0,none⟩) n n/\ρ 1=iB k/\ρ 5=pB b5/\ρ 6=pB b6/\ρ 8= .slice (some ⟨bi,0,none⟩) m ci/\ρ 9=pB b9/\ρ 18= .slice (some ⟨bo,0,none⟩) n n/\ρ 19=iB n/\ρ 20=iB i/\ρ 33=iB m/\ρ 34=iB j/\
      ∃R,(R.getD i o5).b=bi/\mN R n m (Bs f k last i j)/\St w0 w' ([(b9,223,mV (f i k)),(b6,223,mV (f k k)),(b5,223,mV last)]++mB mV 223 220 bo R H)) (λj=>m-j) 0
      ⟨aw _,jY,jY,jY,jY,jY,jY,jY,jY,jY,rfl,rfl,R,hbi.symm,hR.congr λa _ b _=>(ah oO).symm,hS⟩ ?_
     clear hS hli hlk hxi hgi hbi hci hvi hR;rintro j ρ w3 ⟨hj,h0,h1,h5,h6,h8,h9,h18,h19,h20,h33,h34,R,hb,hR,hS⟩;have hli:i<R.length:=by rw[hR.len];exact hlt
     have hlk:k<R.length:=by rw[hR.len];exact hk
     have hxi:=hR.x9 hlt;have hxk:=hR.x9 hk;refine V1 ?_;by_cases hjl:j<m
     ·refine V6 ?_;by_cases hjk:j=k
      ·refine V3 ?_;refine⟨j+1,_,rfl,⟨hjl,jY,jY,jY,jY,jY,jY,jY,jY,jY,jY,vi rfl oO,R,hb,hR.congr λa _ b _=> ?_,hS⟩,oO⟩;unfold Bs;by_cases e:a=i/\b<j/\b≠k
       ·rw[aj e,aj oO]
       ·rw[ah e,ah oO]
      ·refine V1 ?_;have hgi:(R.getD i o5).X.getD j AB=f i j:=by
        rw[hR.get hlt hjl];unfold Bs;rw[ah oO];exact hrow j hjl
       have hgk:(R.getD k o5).X.getD j AB=f k j:=by
        rw[hR.get hk hjl];unfold Bs;rw[ah oO];exact hrowk j hjl
       have q1:=hf k hk k hkm;have q2:=hf i hlt j hjl;have q3:=hf i hlt k hkm;have q4:=hf k hk j hjl;have t1:=xK (f k k) (f i j);have t2:=xK (f i k) (f k j);have t3:=Ek (tz (f k k) (f i j)) (tz (f i k) (f k j));refine ja ?_;refine kK [jo 0,jo 1,ju 2,jo 3,jo 4,jo 5,ju 6,ju 8,jo 9,jo 10,jo 11,ju 12,jo 13,jo 14,ju 15,ju 18,jv 7,jv 16,jv 17,jv 19,jo 20,jw 21] kR kR hS ?_;intro wz8 hS hBz8;refine J5 ?_;refine jl rfl (kM (i:=j) rfl rfl oO dO r5 (jm rfl (rY [_,_,_] (i:=i) (j:=j) AB nj rfl pu hS hb hli oO oO rfl (.inl rfl) ?_)));refine J3 ?_;refine jl rfl (kM (i:=k) rfl rfl oO dO rZ (jm rfl (nD [_,_,_] rfl sk hS oO hlk ?_)));refine J1 ?_;refine jl rfl (kM (i:=j) rfl rfl oO dO r5 (jm rfl (rY [_,_,_] (i:=k) (j:=j) AB nj rfl pu hS rfl hlk oO oO rfl (.inl rfl) ?_)));refine J1 ?_;rw[hgi,hgk];refine jn rfl (kf Tryz.call174 rfl (E4 (f k k) (f i j) _ oO oO) ?_);rintro _ wc9 ⟨rfl,hBc9⟩;replace hS:=hS.kx hBc9;refine⟨hBc9,?_⟩;refine jn rfl (kf Tryz.call174 rfl (E4 (f i k) (f k j) _ oO oO) ?_);rintro _ wc10 ⟨rfl,hBc10⟩;replace hS:=hS.kx hBc10;refine⟨hBc10,?_⟩;refine jn rfl (kf Tryz.call175 rfl (Nw _ _ _ oO oO) ?_);rintro _ wc11 ⟨rfl,hBc11⟩;replace hS:=hS.kx hBc11;refine⟨hBc11,?_⟩;refine jn rfl (kf Tryz.call176 rfl (Ob _ last _ oO oO hl0) ?_);rintro _ wc12 ⟨rfl,hBc12⟩;replace hS:=hS.kx hBc12;refine⟨hBc12,?_⟩;refine jl rfl (kM (i:=j) rfl rfl oO dO r5 (jx rfl (yN [_,_,_] (i:=i) (j:=j) (Jb f k last i j) nj rfl rfl pu hS hb hli oO oO rfl rfl ?_)));intro wz13 hS;refine V2 ?_;refine⟨j+1,_,rfl,⟨hjl,jY,jY,jY,jY,jY,jY,jY,jY,jY,jY,vi rfl oO,_,?_,(hR.put hlt j (Jb f k last i j)).congr λa _ b _=> ?_,hS⟩,oO⟩
       ·rw[ni _ _ _ hli,aj rfl];exact hb
       ·unfold Bs;by_cases e:a=i/\b=j
        ·rw[aj e,aj oO,e.2]
        ·rw[ah e];by_cases e2:a=i/\b<j/\b≠k
         ·rw[aj e2,aj oO]
         ·rw[ah e2,ah oO]
     ·refine J1 ?_;refine jt ?_;obtain rfl:j=m:=oO;exact⟨_,rfl,h0,h1,h5,h6,h8,h18,h19,h20,R,hb,hR,hS.drop (ab _ _)⟩
    clear hS hli hlk hxi hgi hbi hci hvi hR;rintro ρ w3 ⟨h0,h1,h5,h6,h8,h18,h19,h20,R,hb,hR,hS⟩;have hli:i<R.length:=by rw[hR.len];exact hlt
    have hxi:=hR.x9 hlt;refine J2 ?_;refine jp (lr rfl UX (jp (kM (i:=k) rfl rfl oO dO r5 (jh (yN [_,_] (i:=i) (j:=k) AB nj rfl rfl pu hS hb hli oO oO (by rw[AU];rfl) (by rw[AU];rfl) ?_)))));intro wz14 hS;refine V2 ?_;refine⟨i+1,_,rfl,⟨hlt,jY,jY,jY,jY,jY,jY,vi rfl oO,_,(hR.put hlt k AB).congr λa _ b hb'=> ?_,hS⟩,oO⟩;by_cases e:a=i
    ·by_cases e2:b=k
     ·rw[aj ⟨e,e2⟩];unfold xA u4;rw[aj oO,ah oO,aj e2]
     ·rw[ah (λq=>e2 q.2)];unfold Bs xA u4;rw[aj ⟨e,hb',e2⟩,aj oO,ah oO,ah e2,e]
    ·rw[ah (λq=>e q.1)];unfold Bs xA;rw[ah (λq=>e q.1)];by_cases e2:a<i
     ·rw[aj e2,aj oO]
     ·rw[ah e2,ah oO]
  ·refine J1 ?_;refine jt ?_;obtain rfl:i=n:=oO;exact⟨_,rfl,R,hR,hS⟩
 clear hS;rintro ρ w2 ⟨R,hR,hS⟩;refine ja ?_;exact qv rfl ⟨rfl,R,hR.congr λa ha b _=>aj ha,(hS.drop (ab _ _)).drop (ab _ _)⟩
def Eb (A:List (List RR)) (B:List RR):Mx:=λi j=>if j<A.length then RM A i j else if j=A.length then VX B i else 0
def NF (A:List (List RR)) (B:List RR):Rd:=lR A.length (Eb A B) A.length
def K7 (A:List (List RR)) (B:List RR):Int:=if O3 A≠0 then O3 A else if B.length≠A.length then 4 else if(NF A B).P.length=A.length then 0 else 5
def Q5 (A:List (List RR)) (B:List RR):List RR:=if K7 A B=0 then kD A.length λi=>ki ((NF A B).M i A.length)else []
def Va (q:Nat->Nat->Rat) (m:Nat):MZ:=λi j=>IJ (q i) m j
def NI (q:Nat->Nat->Rat) (m:Nat):Mx:=λi j=>if j<m then((zv (Va q m i j):Int):Rat)else 0
theorem Nt (q:Nat->Nat->Rat) (m:Nat):vZ (NI q m):=λi j=>by
 unfold NI;split
 ·exact⟨_,rfl⟩
 ·exact⟨0,rfl⟩
theorem KB (q:Nat->Rat) (m:Nat):((vw q m:Int):Rat)≠0:=λe=>by
 have h:=BM q m;have:(vw q m:Int)=0:=gW.1 e;omega
theorem Aw {q:Nat->Nat->Rat} {m:Nat} (h0:∀i j,m<=j->q i j=0) (i j:Nat):NI q m i j=((vw (q i) m:Int):Rat)*q i j:=by
 unfold NI;by_cases h:j<m
 ·rw[aj h];exact R6 (q i) h
 ·rw[ah h,h0 i j oO,eg]
theorem Q7 (A:List (List RR)) (B:List RR):∀i j,A.length+1<=j->Eb A B i j=0:=λi j h=>by
 unfold Eb;rw[ah oO,ah oO]
theorem OQ {n m:Nat} {q:Mx} (h0:∀i j,m<=j->q i j=0) (k:Nat):(lR n (NI q m) k).P.length=k↔(lR n q k).P.length=k:=by
 constructor
 ·intro h;refine(wn (A:=NI q m) (B:=q) (c:=λi=>((vw (q i) m:Int):Rat)⁻¹) (λi _ e=> ?_) (λi _ j=> ?_) k h).1
  ·have:=bW _ (KB (q i) m);rw[e,eg]at this;exact absurd this dD
  ·have:=bW _ (KB (q i) m);rw[Aw h0];grind
 ·intro h;exact(wn (A:=q) (B:=NI q m) (c:=λi=>((vw (q i) m:Int):Rat)) (λi _=>KB (q i) m) (λi _ j=>Aw h0 i j) k h).1
theorem ND {n m:Nat} {q:Mx} (h0:∀i j,m<=j->q i j=0) (h:(lR n q n).P.length=n):∀i,i<n->∀j,(lR n (NI q m) n).M i j=(lR n q n).M i j:=by
 obtain⟨_,c',_,e⟩:=wn (A:=q) (B:=NI q m) (c:=λi=>((vw (q i) m:Int):Rat)) (λi _=>KB (q i) m) (λi _ j=>Aw h0 i j) n h;intro i hi j;rw[e i hi j,aj hi,dZ]
theorem EC {n:Nat} {A:Mx}:∀d k,k+d=n->(lR n A n).P.length=n->(lR n A k).P.length=k
 |0,k,h,hf=>by obtain rfl:k=n:=oO;exact hf
 |d+1,k,h,hf=>(xz (EC d (k+1) oO hf)).1
theorem Nz {n k:Nat} {A:Mx} (hk:k<n) (hp:¬pv (lR n A k).M k n k<n):(lR n A n).P.length≠n:=λhf=>hp (xz (EC (n-(k+1)) (k+1) oO hf)).2
theorem Sh {x y:Bool} {a b:Nat} (hb:b≠0):mkRat (sg (x !=y) a) b=((sg x a:Int):Rat)/((sg y b:Int):Rat):=by
 have h0:((b:Int):Rat)≠0:=λe=>hb (by have:=gW.1 (show((b:Int):Rat)=((0:Int):Rat)from e);omega);have hi:=bW _ h0;have hn:(-((b:Int):Rat))≠0:=λe=>h0 (by grind);have hi2:=bW _ hn;have he:(-((b:Int):Rat))⁻¹ = -((b:Int):Rat)⁻¹ :=by grind
 rw[fh];have hbb:((b:Nat):Rat)=((b:Int):Rat):=rfl;unfold sg;rw[hbb];cases x<;>cases y<;>simp only[bne_self_eq_false,jL,jN,g9,Bool.bne_false,Bool.bne_true,Bool.not_false,Rat.intCast_neg,bT,he]<;>grind
theorem ME (p k:Nat) (vr:Value) (l:List ZZ) (w:World) (hp:At w ⟨p,0,none⟩ [.int .i64 k]) (hr:Sl mV 2 w vr l) (hk:k<l.length):
  mb Tryz.prog 144 #[vr,.pointer (some ⟨p,0,none⟩)] w λv w'=>v= .bool (decide ((l.getD k AB).mag≠0))/\Below w.heap.size w w':=by
 have hS:=St.init w;refine enter Tryz.func144 rfl Tryz.ntmps144 rfl ?_;refine J2 ?_;refine jq (oW (cs:=[.int .i64 k]) rfl mR (hp.kb hS.kb) rfl rfl (.inr rfl) (jp (ks (i:=k) rfl rfl (hr.kb hS.kb) oO dO r5 ?_)));refine jp (lU rfl (lG (hr.kb hS.kb) (λ_=>rfl) dD dO) wZ ?_);refine jq (lV (i:=k) (off:=1) AB rfl qQ (hr.kb hS.kb) (λ_=>rfl) dD dO rfl rfl (.inr rfl) ?_);refine jp (rR rfl rfl ?_);refine J1 ?_;refine jt ?_;refine kJ rfl rfl ?_;exact⟨bB Value.bool (dJ.2 (not_congr oA)),hS.kb⟩
def DS (pr:Nat->Bool):Nat->Nat->Int
 |0,_=> -1
 |d+1,i=>if pr i=true then i else DS pr d (i+1)
theorem Nx (p k n m:Nat) (v:Value) (vs:List Value) (f:MZ) (w:World) (hp:At w ⟨p,0,none⟩ [.int .i64 k]) (hv:Sl se 1 w v vs) (hn:vs.length=n) (hr:∀i,i<n->Sl mV 2 w (vs.getD i undef) (kD m (f i))) (hk:k<m):
  mb Tryz.prog 143 #[v,.func (.func 144) #[] #[.pointer (some ⟨p,0,none⟩)]] w λr w'=>r= .int .i64 (DS (λi=>decide ((f i k).mag≠0)) n 0)/\Below w.heap.size w w':=by
 have hmx:=hv.maxLen;have hS:=St.init w;refine enter Tryz.func143 rfl Tryz.ntmps143 rfl ?_;refine J2 ?_;refine jp (ky rfl (hv.kb hS.kb) ⟨_,Tryz.underlying218⟩ ?_);refine J1 ?_;refine jb ?_;refine kG (λρ w'=>DS (λi=>decide ((f i k).mag≠0)) n 0= -1/\St w w' []) ?_ ?_
 ·refine ja ?_;refine kF (σ:=Nat) (λi ρ w'=>i<=n/\DS (λi=>decide ((f i k).mag≠0)) n 0=DS (λi=>decide ((f i k).mag≠0)) (n-i) i/\ρ 0=v/\ρ 1= .func (.func 144) #[] #[.pointer (some ⟨p,0,none⟩)]/\ρ 7=iB n/\ρ 8=iB i/\St w w' []) (λi=>n-i) 0
   ⟨aw _,rfl,rfl,rfl,vi rfl oO,rfl,hS⟩ ?_
  clear hS;rintro i ρ w2 ⟨hi,hf,h0,h1,h7,h8,hS⟩;refine V1 ?_;by_cases hlt:i<n
  ·refine V1 ?_;obtain⟨d,hd⟩:∃d,n-i=d+1:=⟨n-i-1,oO⟩;have hg:(kD m (f i)).getD k AB=f i k:=kB _ _ hk;refine J5 ?_;refine jp (ks (i:=i) rfl rfl (hv.kb hS.kb) oO dO rZ (jq (kC (i:=i) undef rfl sk (hv.kb hS.kb) dO rfl rfl (.inr rfl) (jh (zm Tryz.call144 rfl rfl (ME p k _ (kD m (f i)) _ (hp.kb hS.kb) ((hr i hlt).kb hS.kb) (by rw[kj];exact hk)) ?_)))));rintro r w3 ⟨rfl,hB3⟩;replace hS:=hS.kx hB3;rw[hg];refine ja ?_;by_cases hne:(f i k).mag≠0
   ·refine lu rfl (ai hne) ?_;refine ja ?_;have e:DS (λi=>decide ((f i k).mag≠0)) n 0=i:=by
     rw[hf,hd];show(if decide ((f i k).mag≠0)=true then(i:Int)else _)=i;rw[aj (ai hne)]
    rw[e];refine J2 ?_;refine jt ?_;refine kJ rfl rfl ?_;exact⟨rfl,hS.kb⟩
   ·refine lH rfl (ae hne) ?_;refine V2 ?_;refine⟨i+1,_,rfl,⟨hlt,?_,jY,jY,jY,vi rfl oO,hS⟩,oO⟩;rw[hf,hd];show(if decide ((f i k).mag≠0)=true then(i:Int)else DS _ d (i+1))=_;rw[ah (by rw[ae hne];decide),show n-(i+1)=d by omega]
  ·refine J1 ?_;refine jt ?_;obtain rfl:n=i:=oO;rw[dU]at hf;exact⟨_,rfl,hf,hS⟩
 clear hS;rintro ρ w2 ⟨he,hS⟩;refine ja ?_;rw[he];refine J1 ?_;refine jt ?_;refine kJ rfl rfl ?_;exact⟨rfl,hS.kb⟩
theorem pE {P:Program} {N:Nat} {ρ:Nat->Value} {w:World} {o:Oper} {K:Value->World->Prop} (h:rD P N ρ w o λv=>Below w.heap.size w w/\K v w):pL P N ρ w o λv w'=>Below w.heap.size w w'/\K v w':=by
 obtain⟨v,hr,hk⟩:=h;exact ow (hr w (Below.refl _ _)) hk
theorem TC {A:List (List RR)} {B:List RR} {i:Nat}:RM [kD A.length (qM (RM A) i)++[B.getD i kZ]] 0=λj=>if j<A.length then RM A i j else if j=A.length then VX B i else 0:=by
 funext j;have htl:=kj A.length (qM (RM A) i);show toQ ((kD A.length (qM (RM A) i)++[B.getD i kZ]).getD j kZ)=_;by_cases h:j<A.length
 ·rw[aj h,ak,cK oO,<-ak,kB _ _ h];exact toQ_ofQ _
 ·rw[ah h,ak,cH oO,htl];by_cases h2:j=A.length
  ·rw[aj h2,h2,dU];rfl
  ·rw[ah h2,dj (by simp;omega)];exact Sk
theorem RH (A:List (List RR)) (B:List RR) (i:Nat):Eb A B i=RM [kD A.length (qM (RM A) i)++[B.getD i kZ]] 0:=TC.symm
theorem Wn {A:List (List RR)} {B:List RR} {K i:Nat} (hB:MA K A) (hBB:RB K B) (hi:i<A.length) (hiB:i<B.length) (hev:(A.getD i []).length=A.length):∀j,j<A.length+1->L (Eb A B i j)<=K:=by
 intro j hj;unfold Eb;by_cases h:j<A.length
 ·rw[aj h];exact Ns hB hi oO
 ·rw[ah h,aj oO];exact cQ (uM _) (hBB _ (kO B i kZ hiB))
def SS (S:Nat):Nat->Nat
 |0=>S
 |k+1=>2*SS S k+1
theorem SG (S:Nat):∀k,SS S k+1=2^k*(S+1)
 |0=>by show S+1=_;rw[cU,dG]
 |k+1=>by
  have ih:=SG S k;show 2*SS S k+1+1=_;rw[bC,bF (2^k) 2,ba,<-ih];omega
theorem Vg {S k:Nat} (hk:k<=16):SS S k+1<=65536*(S+1):=by
 rw[SG];exact aI _ (cQ (bJ dD hk) dD)
theorem Uy {n m k:Nat} {B:Mx} {f:MZ} (h:GW n m B k λi j=>zv (f i j)) (hk:(lR n B k).P.length=k) (hkm:k<m) (i:Nat) (hi:i<n):(f i k).mag≠0↔(lR n B k).M i k≠0:=by
 have e:=Om h hk hi hkm;exact not_congr (NL.symm.trans e)
theorem Kt (g:MZ) (k:Nat) (last:ZZ) (i j:Nat):zv (u4 g k last i j)=EA (λi j=>zv (g i j)) k (zv last) i j:=by
 unfold u4 EA Jb;by_cases h:i=k
 ·rw[aj h,aj h]
 ·rw[ah h,ah h];by_cases h2:j=k
  ·rw[aj h2,aj h2];rfl
  ·rw[ah h2,ah h2,Rb,Ox,HU,HU]
def HV (f:MZ) (k p:Nat):MZ:=λi j=>if i=p then f k j else if i=k then f p j else f i j
theorem TM (f:MZ) (k p:Nat):(λi j=>zv (HV f k p i j))=JF (λi j=>zv (f i j)) k p:=by
 funext i j;unfold HV JF;by_cases h:i=p
 ·rw[aj h];by_cases h2:i=k
  ·rw[aj h2,<-h2,h]
  ·rw[ah h2,aj h]
 ·rw[ah h];by_cases h2:i=k
  ·rw[aj h2,aj h2]
  ·rw[ah h2,ah h2,ah h]
theorem M6 {f:MZ} {n m S k p:Nat} (hk:k<n) (hp:p<n) (h:∀i,i<n->∀j,j<m->yl (f i j)<=S):∀i,i<n->∀j,j<m->yl (HV f k p i j)<=S:=by
 intro i hi j hj;unfold HV;split
 ·exact h k hk j hj
 ·split
  ·exact h p hp j hj
  ·exact h i hi j hj
def oF (g:Nat->Rat) (i a:Nat):Rat:=if a<i then g a else 0
theorem Uc (g:Nat->Rat) (n i:Nat):(kD n λa=>ki (oF g i a)).set i (ki (g i))=kD n λa=>ki (oF g (i+1) a):=by
 rw[zW];refine kN λa _=> ?_;unfold oF;by_cases h:a=i
 ·rw[aj h,aj oO,h]
 ·rw[ah h];by_cases h2:a<i
  ·rw[aj h2,aj oO]
  ·rw[ah h2,ah oO]
theorem Sq (g:Nat->Rat) (n:Nat):List.replicate n kZ=kD n λa=>ki (oF g 0 a):=by
 rw[ur];refine kN λa _=> ?_;unfold oF;rw[ah (aS _),oD];rfl
theorem Re {α:Type} (z a b:α) (L D:List α):(z::a::b::(L++D)).Perm (a::b::(L++[z]++D)):=by
 have h1:(z::a::b::(L++D)).Perm (a::b::z::(L++D)):=(List.Perm.swap a z _).trans (List.Perm.cons _ (List.Perm.swap b z _));refine h1.trans (List.Perm.cons _ (List.Perm.cons _ ?_));rw[aG];exact List.perm_middle.symm
theorem N0 {α:Type} (z a b:α) (L D:List α):(a::b::(L++z::D)).Perm (a::b::(L++D)++[z]):=by
 refine List.Perm.cons _ (List.Perm.cons _ ?_);exact List.perm_middle.trans (eG _ _).symm
theorem Sr {R:List (Rw RR)} {n m:Nat} {f:Nat->Nat->RR} (hR:mN R n m f) (hF:F7 R) {i:Nat} (hi:i<n) (t:TypeId):Gl ke t 3 (R.getD i o5).v (kD m (f i)) [(R.getD i o5).yf ke t]:=by
 have hl:i<R.length:=by rw[hR.len];exact hi
 have hf:=hF _ (kO R i o5 hl);obtain⟨hc1,hc2⟩:=hR.cap i hi;have hr:=hR.row i hi;have htl:=kj m (f i);refine⟨lO kA _,.inr ⟨(R.getD i o5).b,(R.getD i o5).cap,(R.getD i o5).sp,?_,?_,?_,?_,?_⟩⟩
 ·rw[hR.v hi,htl]
 ·rw[<-hr];rfl
 ·rw[htl];exact hc1
 ·unfold Go.maxLen;omega
 ·rw[<-hr];exact hf
theorem Mw (v vb_:Value) (A:List (List RR)) (vs:List Value) (B:List RR) (K:Nat) (w:World) (hA:rB ke 3 w v A vs) (hBv:Sl ke 3 w vb_ B) (hB:MA K A) (hBB:RB K B) (hK:200000000*K+300000000<=MX):
  mb Tryz.prog 106 #[v,vb_] w λr w'=>(∃v',r= .tuple #[v',.int .i64 (K7 A B)]/\Sl ke 3 w' v' (Q5 A B))/\Below w.heap.size w w':=by
 have hM:MX=1099511627776:=rfl;have hno:K7 A B≠0->Q5 A B=[]:=λh=>ah h;have hS:=St.init w;have hlen:=hA.len;have hmx:=hBv.maxLen;refine enter Tryz.func106 rfl Tryz.ntmps106 rfl ?_;refine J3 ?_;refine jh (kf Tryz.call140 rfl (JV v A vs _ (hA.kb hS.kb)) ?_);rintro _ wc1 ⟨rfl,hBc1⟩;replace hS:=hS.kx hBc1;refine V3 ?_;by_cases he:O3 A≠0
 ·have e1:K7 A B=O3 A:=aj he;refine J4 ?_;refine jt ?_;refine rP rfl rfl rfl ?_;refine⟨⟨_,by rw[e1];rfl,?_⟩,hS.kb⟩;rw[hno (by rw[e1];exact he)];exact Sl.nil _ _ _
 replace he:=fE.1 he;obtain⟨hs0,hsq⟩:=OL he;obtain⟨h1,h2,h3,h4,h5⟩:=xM hs0;refine J2 ?_;refine jp (ky rfl (hA.sl.kb hS.kb) ⟨_,Tryz.underlying35⟩ ?_);refine J2 ?_;refine jp (ky rfl (hBv.kb hS.kb) ⟨_,Tryz.underlying34⟩ ?_);refine V2 ?_;by_cases hx:B.length≠A.length
 ·have e1:K7 A B=4:=by unfold K7;rw[ah oO,aj hx]
  refine J3 ?_;refine jt ?_;refine rP rfl rfl rfl ?_;refine⟨⟨_,by rw[e1];rfl,?_⟩,hS.kb⟩;rw[hno (by rw[e1];decide)];exact Sl.nil _ _ _
 replace hx:=fE.1 hx;refine V1 ?_;rw[hlen];have e1:K7 A B=if(NF A B).P.length=A.length then 0 else 5:=by unfold K7;rw[ah oO,ah oO]
 obtain⟨n,hn⟩:=jz A.length;rw[<-hn]at h1 h2 h5 hx e1 hsq⊢;rw[<-hsq]at h5;have hAL:∀i,i<n->∀j,j<n+1->L (Eb A B i j)<=K:=λi hi=>by
  rw[hn];exact Wn hB hBB oO oO (by rw[h5 i hi,hn])
 have haug:∀i,Eb A B i=RM [kD n (qM (RM A) i)++[B.getD i kZ]] 0:=λi=>by rw[hn];exact RH A B i
 have hout:∀i j,n+1<=j->Eb A B i j=0:=by rw[hn];exact Q7 A B
 have hslD:NF A B=lR n (Eb A B) n:=by rw[hn];rfl
 have hslL:K7 A B=0->Q5 A B=kD n λi=>ki ((lR n (Eb A B) n).M i n):=λh=>by rw[hn];exact aj h
 rw[hslD]at e1;obtain⟨q,hq⟩:=jz (Eb A B);rw[<-hq]at hAL haug hout e1 hslL;refine J1 ?_;refine jh (Ao (n:=n) rfl rfl rZ oO oO oO oO hS ?_);intro bw wz2 hS hBz2;refine V1 ?_;replace hS:St w _ [(bw,220,rep n [kp])]:=hS;rw[FV]at hS;refine ja ?_;refine nk (λρ'=>ρ' 0=v/\ρ' 1=vb_/\ρ' 7= .int .i64 n/\ρ' 8= .slice (some ⟨bw,0,none⟩) n n/\True) ⟨rfl,rfl,rfl,rfl,trivial⟩ ?_;rintro ρk3 ⟨hk3_0,hk3_1,hk3_7,hk3_8,-⟩;refine J1 ?_;refine jh (kf Tryz.call141 rfl (AO v A vs n K _ (hA.kb hS.kb) oO oO h1 oO (by rw[<-hn];exact h5) hB oO) ?_);rintro r w2 ⟨⟨bc,RC,rfl,hRC,hFC,hS2⟩,hB2⟩;rw[<-hn]at hRC⊢;replace hS:=hS.join hS2;clear hS2;rw[GI]at hS;refine J2 ?_;refine jb ?_;replace hS:St w _ ((bc,34,RC.map Rw.v)::(bw,220,([]:List (Rw ZZ)).map Rw.v++List.replicate (n-0) kp)::(([]:List (Rw ZZ)).map (Rw.yf mV 223)++(RC.drop 0).map (Rw.yf ke 32))):=hS.perm (List.Perm.cons _ (eG _ _));refine kG (λρ w'=>ρ 7=iB n/\ρ 8= .slice (some ⟨bw,0,none⟩) n n/\∃RW,mN RW n (n+1) (Va q (n+1))/\St w w' (mB mV 223 220 bw RW [])) ?_ ?_
 ·refine ja ?_;refine kF (σ:=Nat) (λi ρ w'=>i<=n/\ρ 1=vb_/\ρ 7=iB n/\ρ 8= .slice (some ⟨bw,0,none⟩) n n/\ρ 31= .slice (some ⟨bc,0,none⟩) n n/\ρ 32=iB n/\ρ 33=iB i/\
   ∃RW,mN RW i (n+1) (Va q (n+1))/\St w w' ((bc,34,RC.map Rw.v)::(bw,220,RW.map Rw.v++List.replicate (n-i) kp)::(RW.map (Rw.yf mV 223)++(RC.drop i).map (Rw.yf ke 32)))) (λi=>n-i) 0
   ⟨aw _,jY,jY,jY,rfl,rfl,rfl,[],⟨rfl,λi hi=>absurd hi (aS _),λi hi=>absurd hi (aS _)⟩,hS⟩ ?_
  clear hS;rintro i ρ w3 ⟨hi,h1',h7,h8,h31,h32,h33,RW,hRW,hS⟩;refine V1 ?_;by_cases hlt:i<n
  ·refine V1 ?_;have hlc:i<RC.length:=by rw[hRC.len];exact hlt
   obtain⟨d,hd⟩:∃d,n-i=d+1:=⟨n-i-1,oO⟩;have hdrop:RC.drop i=RC.getD i o5::RC.drop (i+1):=by rw[nQ RC o5 hlc];exact dX hlc
   have hG:=Sr hRC hFC hlt 32;have htl:=kj n (qM (RM A) i);have hLb:=hBB _ (kO B i kZ oO);rw[hdrop,cJ,hd,fW]at hS;replace hS:=hS.perm (N0 _ _ _ _ _);refine J1 ?_;refine jp (kM (i:=i) h31 h33 oO dO lS (jq (Kq (k:=0) rfl md hS rfl (by rw[bX,eN];exact Ce hlc) ?_)));refine J7 ?_;refine jp (ks (i:=i) rfl rfl (hBv.kb hS.kb) oO dO kW (jq (kC (i:=i) kZ rfl kt (hBv.kb hS.kb) dO rfl rfl (.inl rfl) (jh (np (vs:=[lC (B.getD i kZ)]) rfl kW rfl dD dD dD (by simp[Value.cells,lC]) rfl hS ?_)))));intro b45 wz4 hS hBz4;refine jh (mO [B.getD i kZ] rfl rfl kW dD hG hS rfl rfl kA (uZ [B.getD i kZ]) dL dL ?_);intro va5 La5 wa5 hG hS hga5;obtain⟨aq,cq,rfl⟩:=hG.len;refine jh (np (vs:=[.slice aq (kD n (qM (RM A) i)++[B.getD i kZ]).length cq]) rfl lS rfl dD dD dD (by simp[Value.cells]) rfl hS ?_);intro b47 wz6 hS hBz6;have hX:=hS.drop ((ap ((bc,34,RC.map Rw.v)::(bw,220,RW.map Rw.v++kp::List.replicate d kp)::(RW.map (Rw.yf mV 223)++(RC.drop (i+1)).map (Rw.yf ke 32))) _).trans (ab _ _));have hsl1:=hS.sle (k:=0) (enc:=se) (L:=[.slice aq (kD n (qM (RM A) i)++[B.getD i kZ]).length cq]) (n:=1) (cap:=1) rfl (λ_=>rfl) (aB _) (aB _) oO;have hslr:=hG.sl (H:=(b47,34,[Value.slice aq (kD n (qM (RM A) i)++[B.getD i kZ]).length cq])::(bc,34,RC.map Rw.v)::(bw,220,RW.map Rw.v++kp::List.replicate d kp)::(RW.map (Rw.yf mV 223)++(RC.drop (i+1)).map (Rw.yf ke 32))) hS kA;have hx1:(kD n (qM (RM A) i)++[B.getD i kZ]).length=n+1:=by rw[ax,htl];rfl
   have hmts:rB ke 3 _ (.slice (some ⟨b47,0,none⟩) 1 1) [kD n (qM (RM A) i)++[B.getD i kZ]] [.slice aq (kD n (qM (RM A) i)++[B.getD i kZ]).length cq]:=⟨rfl,hsl1,λa ha=>by
    obtain rfl:a=0:=Nat.lt_one_iff.1 ha;exact hslr⟩
   have hBM:MA K [kD n (qM (RM A) i)++[B.getD i kZ]]:=λa ha r hr=>by
    rw[aO.1 ha]at hr;rcases bN.1 hr with g|g
    ·obtain⟨j,hj,rfl⟩:=tG g;rw[Lr_ofQ];exact Ns hB oO (by rw[h5 i hlt];exact hj)
    ·rw[aO.1 g];exact hLb
   refine jh (kf Tryz.call141 rfl (AO _ [kD n (qM (RM A) i)++[B.getD i kZ]] _ (n+1) K _ hmts (aB _) dM oO oO (λa ha=>by obtain rfl:a=0:=Nat.lt_one_iff.1 ha;exact hx1) hBM oO) ?_);rintro r w4 ⟨⟨b1,R1,rfl,hR1,-,hT⟩,hB4⟩;replace hX:=hX.kx hB4;have hl1:0<R1.length:=by rw[hR1.len];exact Nat.one_pos
   have hrow1:=hR1.sl hT kA (i:=0) Nat.one_pos;rw[show qM (RM [kD n (qM (RM A) i)++[B.getD i kZ]]) 0=λj=>ki (q i j) by rw[haug i]]at hrow1;refine jp (kM (i:=0) rfl rfl oO dO lS (jq (nD [] rfl md hT oO hl1 (jh (kf Tryz.call142 rfl (Fj _ (q i) (n+1) K _ hrow1 oO (hAL i hlt) oO) ?_)))));rintro r w5 ⟨⟨bz,rfl,hZ⟩,-⟩;have hlenR:(RW.map Rw.v).length=i:=by rw[bj,hRW.len]
   have hfit:i<(RW.map Rw.v++kp::List.replicate d kp).length:=by rw[ax,hlenR,aZ];omega
   clear hS;have hS:=hX.join hZ;clear hX hZ;refine jp (kM (i:=i) rfl rfl oO dO rZ (jh (oX (k:=2) rfl rfl sk hS rfl (by rw[bX,eN];exact hfit) rfl ?_)));intro wz7 hS;refine ja ?_;replace hS:St w _ ((bz,223,(kD (n+1) (IJ (q i) (n+1))).flatMap mV)::(bc,34,RC.map Rw.v)::(bw,220,(RW.map Rw.v++kp::List.replicate d kp).set (0+i*1) (.slice (some ⟨bz,0,none⟩) (n+1) (n+1)))::(RW.map (Rw.yf mV 223)++(RC.drop (i+1)).map (Rw.yf ke 32))):=hS;rw[bX,eN,B5 _ _ _ _ hlenR]at hS;replace hS:=hS.perm (Re _ _ _ _ _);obtain⟨nr,hnr⟩:∃nr:Rw ZZ,nr=⟨bz,n+1,kD (n+1) (IJ (q i) (n+1)),[]⟩:=⟨_,rfl⟩;have hnX:nr.X=kD (n+1) (Va q (n+1) i):=by rw[hnr];rfl
   have hnc:nr.cap=n+1:=by rw[hnr]
   have hvz:nr.v= .slice (some ⟨bz,0,none⟩) (n+1) (n+1):=by
    rw[hnr];show Value.slice _ (kD (n+1) (IJ (q i) (n+1))).length _=_;rw[kj]
   have hbz:nr.yf mV 223=(bz,223,(kD (n+1) (IJ (q i) (n+1))).flatMap mV):=by
    rw[hnr];show(bz,223,(kD (n+1) (IJ (q i) (n+1))).flatMap mV++[])=_;rw[aK]
   rw[<-hbz,<-hvz]at hS;refine V2 ?_;refine⟨i+1,_,rfl,⟨hlt,jY,jY,jY,jY,jY,vi rfl oO,RW++[nr],AK hRW hnX ⟨oO,oO⟩,?_⟩,oO⟩;rw[bS,bS,show n-(i+1)=d by omega,aG];exact hS
  ·refine J1 ?_;refine jt ?_;obtain rfl:n=i:=oO;rw[dU,jE,aK,ff (by rw[hRC.len];exact aB _),jV]at hS;exact⟨_,rfl,h7,h8,RW,hRW,hS.drop (ab _ _)⟩
 clear hS;rintro ρ w3 ⟨h7,h8,RW,hRW,hS⟩;obtain⟨S0,hS0⟩:=jz (1001*K+1);have hSS:∀k,k<=n->SS S0 k+1<=65536*(S0+1):=λk hk=>Vg oO;have hsz0:∀i,i<n->∀j,j<n+1->yl (Va q (n+1) i j)<=S0:=by
  intro i hi j hj;have g1:=Qh (hAL i hi) hj;have g2:=JK (hAL i hi) (n+1) (aB _);have g3:(n+1)*K<=1000*K:=aI _ oO;show yl (IJ (q i) (n+1) j)<=S0;omega
 obtain⟨Bm,hBm⟩:=jz (NI q (n+1));have hWh:vZ Bm:=by rw[hBm];exact Nt _ _
 have hfi:=λk=>OQ (n:=n) hout k;have hfs:=ND (n:=n) hout;rw[<-hBm]at hfi hfs;have hrep0:GW n (n+1) Bm 0 λi j=>zv (Va q (n+1) i j):=by
  intro i hi j hj;rw[hBm];show _=1*NI q (n+1) i j;unfold NI;rw[aj hj,dZ]
 refine jr ?_;refine jh (kf Tryz.call113 rfl (sW 1 _ dD) ?_);rintro _ wc8 ⟨rfl,hBc8⟩;replace hS:=hS.kx hBc8;refine jp (lr rfl (wo _ _) ?_);refine J1 ?_;intro b11 wz9 hS hBz9;refine J1 ?_;intro wz10 hS;refine ja ?_;replace hS:St w _ ([(b11,223,mV ⟨false,1⟩)]++mB mV 223 220 bw RW []):=hS;refine J2 ?_;refine jb ?_;refine kG (λρ w'=>(lR n Bm n).P.length=n/\ρ 7=iB n/\ρ 8= .slice (some ⟨bw,0,none⟩) n n/\∃RW f,mN RW n (n+1) f/\GW n (n+1) Bm n (λi j=>zv (f i j))/\(∀i,i<n->∀j,j<n+1->yl (f i j)<=SS S0 n)/\St w w' (mB mV 223 220 bw RW [])) ?_ ?_
 ·refine ja ?_;refine kF (σ:=Nat) (λk ρ w'=>k<=n/\(lR n Bm k).P.length=k/\ρ 7=iB n/\ρ 8= .slice (some ⟨bw,0,none⟩) n n/\ρ 11=pB b11/\ρ 56=iB n/\ρ 57=iB k/\∃RW f last,mN RW n (n+1) f/\GW n (n+1) Bm k (λi j=>zv (f i j))/\(∀i,i<n->∀j,j<n+1->yl (f i j)<=SS S0 k)/\((zv last:Int):Rat)=dd n Bm k/\yl last<=SS S0 k/\
   St w w' ([(b11,223,mV last)]++mB mV 223 220 bw RW [])) (λk=>n-k) 0
   ⟨aw _,rfl,jY,jY,rfl,rfl,rfl,RW,_,⟨false,1⟩,hRW,hrep0,hsz0,rfl,(by show(kQ 1).size<=S0;rw[qd];omega),hS⟩ ?_
  clear hS hRW hrep0 hsz0;rintro k ρ w4 ⟨hk,hkP,h7,h8,h11,h56,h57,RW,f,last,hRW,hrep,hsz,hlv,hlz,hS⟩;have hSk:=hSS k hk;refine V1 ?_;by_cases hkn:k<n
  ·refine V1 ?_;have hlk:k<RW.length:=by rw[hRW.len];exact hkn
   refine J2 ?_;intro b12 wz11 hS hBz11;refine jh (oX (k:=0) rfl rfl mR hS rfl dM rfl ?_);intro wz12 hS;refine ja ?_;have hmB:=hS.drop (ao [(b12,3,[Value.int .i64 k]),(b11,223,mV last)] (mB mV 223 220 bw RW []));have hO:=hRW.outer hmB (aB n) oO;have hmap:(RW.map Rw.v).length=n:=by rw[bj,hRW.len]
   have hp:At _ ⟨b12,0,none⟩ [.int .i64 k]:=hS.at (k:=0) rfl 0 1;have hO2:=hO.sub (λ_=>rfl) dD (lo:=k) (hi:=(RW.map Rw.v).length) oO (aB _);rw[aU (by rw[fk];exact aB _)]at hO2;have hrows:∀i,i<n-k->Sl mV 2 _ (((RW.map Rw.v).drop k).getD i undef) (kD (n+1) (f (k+i))):=λi hi=>by
    have:=hRW.sl hmB nj (i:=k+i) oO;have e:((RW.map Rw.v).drop k).getD i undef=(RW.getD (k+i) o5).v:=by
     rw[ak,List.getElem?_drop,Ce (by rw[hRW.len];omega)];rfl
    rw[e];exact this
   refine jr ?_;refine jp (kw h8 (jq (kP (k:=0) rfl mR hS rfl rfl rfl (.inr rfl) (jp (So rfl rfl hO rfl oO rZ (jp (Qj rfl ?_)))))));refine jh (kf Tryz.call143 rfl (Nx b12 k (n-k) (n+1) _ _ (λi j=>f (k+i) j) _ hp hO2 (by rw[fk,hmap]) hrows oO) ?_);rintro r w5 ⟨rfl,hB5⟩;replace hS:=hS.kx hB5;have hpr:=Uy hrep hkP (by omega:k<n+1);obtain⟨p,hpp⟩:=jz (pv (lR n Bm k).M k n k);have hps:=pU (lR n Bm k).M k (n:=n) (r:=k) oO;rw[<-hpp]at hps;obtain⟨hkp,_,_,_⟩:=hps;have hfst:DS (λi=>decide ((f (k+i) k).mag≠0)) (n-k) 0=if p<n then((p-k:Nat):Int)else-1:=by
    have hpf:NH (lR n Bm k).M k (n-k) k=p:=hpp.symm;have hcong:∀d i,i+d=n-k->DS (λi=>decide ((f (k+i) k).mag≠0)) d i=if NH (lR n Bm k).M k d (k+i)<k+i+d then((NH (lR n Bm k).M k d (k+i)-k:Nat):Int)else-1:=by
     intro d;induction d with
     |zero=>
      intro i _;show(-1:Int)=if k+i<k+i+0 then _ else-1
      rw[ah oO]
     |succ d ih=>
      intro i hid;have hi:=hpr (k+i) oO;show(if decide ((f (k+i) k).mag≠0)=true then(i:Int)else DS _ d (i+1))=_;unfold NH;by_cases e:(lR n Bm k).M (k+i) k=0
      ·rw[ah (λq=>hi.1 (gB q) e),aj e,ih (i+1) oO];rw[show k+(i+1)=k+i+1 by omega,show k+i+1+d=k+i+(d+1) by omega]
      ·rw[aj (ai (hi.2 e)),ah e,aj oO,show k+i-k=i by omega]
    have:=hcong (n-k) 0 oO;rw[eh,hpf,show k+(n-k)=n by omega]at this;exact this
   rw[hfst];refine V3 ?_;by_cases hpn:¬p<n
   ·rw[ah hpn];refine lu rfl (ai dD) ?_;refine ja ?_;have hnf:(lR n q n).P.length≠n:=λg=>Nz hkn (by rw[<-hpp];exact hpn) ((hfi n).2 g);have e5:K7 A B=5:=by rw[e1,ah hnf]
    refine J2 ?_;refine jt ?_;refine rP rfl rfl rfl ?_;refine⟨⟨_,by rw[e5];rfl,?_⟩,hS.kb⟩;rw[hno (by rw[e5];decide)];exact Sl.nil _ _ _
   replace hpn:=fE.1 hpn;rw[aj hpn];refine V1 ?_;have hlp:p<RW.length:=by rw[hRW.len];exact hpn
   replace hS:St w _ ([(b12,3,[Value.int .i64 k]),(b11,223,mV last)]++mB mV 223 220 bw RW []):=hS;refine kG (λρ w'=>ρ 7=iB n/\ρ 8= .slice (some ⟨bw,0,none⟩) n n/\ρ 11=pB b11/\ρ 12=pB b12/\ρ 56=iB n/\ρ 57=iB k/\St w w' ([(b12,3,[Value.int .i64 k]),(b11,223,mV last)]++mB mV 223 220 bw (CL RW k p) [])) ?_ ?_
   ·refine ja ?_;refine A0 20 [jo 0,ju 1,jo 2,jv 3,jo 4,jo 5,jo 6,ju 7,jo 8,jo 9,jo 10,ju 11,jo 12,ju 13,jo 14,ju 15,jo 16,jw 17,jo 18,jw 19] kR kR hS ?_;intro wz13 hS hBz13;refine kU (i:=0) (U':=[ju 1,jo 2,jv 3,jo 4,jo 5,jo 6,ju 7,jo 8,jo 9,jo 10,ju 11,jo 12,ju 13,jo 14,ju 15,jo 16,jw 17,jo 18,jw 19]) kR kR rfl rfl (kw h8 (pq (i:=1) (U':=[jo 2,jv 3,jo 4,jo 5,jo 6,ju 7,jo 8,jo 9,jo 10,ju 11,jo 12,ju 13,jo 14,ju 15,jo 16,jw 17,jo 18,jw 19]) kR kR rfl rfl (kP (k:=0) rfl mR hS rfl rfl rfl (.inr rfl) (kU (i:=2) (U':=[jv 3,jo 4,jo 5,jo 6,ju 7,jo 8,jo 9,jo 10,ju 11,jo 12,ju 13,jo 14,ju 15,jo 16,jw 17,jo 18,jw 19]) kR kR rfl rfl (kw h8 (kU (i:=4) (U':=[jv 3,jo 5,jo 6,ju 7,jo 8,jo 9,jo 10,ju 11,jo 12,ju 13,jo 14,ju 15,jo 16,jw 17,jo 18,jw 19]) kR kR rfl rfl (kw rfl (kU (i:=6) (U':=[jv 3,jo 5,ju 7,jo 8,jo 9,jo 10,ju 11,jo 12,ju 13,jo 14,ju 15,jo 16,jw 17,jo 18,jw 19]) kR kR rfl rfl (kw h8 (pq (i:=7) (U':=[jv 3,jo 5,jo 8,jo 9,jo 10,ju 11,jo 12,ju 13,jo 14,ju 15,jo 16,jw 17,jo 18,jw 19]) kR kR rfl rfl (kP (k:=0) rfl mR hS rfl rfl rfl (.inr rfl) (kU (i:=8) (U':=[jv 3,jo 5,jo 9,jo 10,ju 11,jo 12,ju 13,jo 14,ju 15,jo 16,jw 17,jo 18,jw 19]) kR kR rfl rfl (kw rfl (kU (i:=9) (U':=[jv 3,jo 5,jo 10,ju 11,jo 12,ju 13,jo 14,ju 15,jo 16,jw 17,jo 18,jw 19]) kR kR rfl rfl (py rfl rfl (ct _ oO) (kU (i:=10) (U':=[jv 3,jo 5,ju 11,jo 12,ju 13,jo 14,ju 15,jo 16,jw 17,jo 18,jw 19]) kR kR rfl rfl (kM (i:=p) rfl rfl oO dO rZ (pq (i:=11) (U':=[jv 3,jo 5,jo 12,ju 13,jo 14,ju 15,jo 16,jw 17,jo 18,jw 19]) kR kR rfl rfl (nD [_,_] rfl sk hS oO hlp (kU (i:=12) (U':=[jv 3,jo 5,ju 13,jo 14,ju 15,jo 16,jw 17,jo 18,jw 19]) kR kR rfl rfl (kw h8 (pq (i:=13) (U':=[jv 3,jo 5,jo 14,ju 15,jo 16,jw 17,jo 18,jw 19]) kR kR rfl rfl (kP (k:=0) rfl mR hS rfl rfl rfl (.inr rfl) (kU (i:=14) (U':=[jv 3,jo 5,ju 15,jo 16,jw 17,jo 18,jw 19]) kR kR rfl rfl (kM (i:=k) rfl rfl oO dO rZ (pq (i:=15) (U':=[jv 3,jo 5,jo 16,jw 17,jo 18,jw 19]) kR kR rfl rfl (nD [_,_] rfl sk hS oO hlk ?_)))))))))))))))))))))))))));refine kU (i:=16) (U':=[jv 3,jo 5,jw 17,jo 18,jw 19]) kR kR rfl rfl (kM (i:=k) rfl rfl oO dO rZ ?_);refine qK (x:=jv 3) (y:=jw 17) (U':=[jo 5,jw 17,jo 18,jw 19]) (U'':=[jv 3,jo 5,jo 18,jw 19]) kR kR kR ?_ ?_
    ·refine kX rfl rfl (pE (kP (k:=0) rfl mR hS rfl rfl rfl (.inr rfl) ?_));refine⟨Below.refl _ _,?_⟩;refine kU (i:=5) (U':=[jw 17,jo 18,jw 19]) kR kR rfl rfl (py rfl rfl (ct _ oO) (li (x:=jw 17) (U':=[jo 18,jw 19]) kR kR (lB rfl rfl (sv [_,_] (i:=k) rfl rfl sk hS oO (by rw[bj];exact hlk) (AG _) ?_))));intro wz14 hS;refine kU (i:=18) (U':=[jw 19]) kR kR rfl rfl (kM (i:=p) rfl rfl oO dO rZ (li (x:=jw 19) (U':=[]) kR kR (lB rfl rfl (sv [_,_] (i:=p) rfl rfl sk hS oO (by rw[bG,bj];exact hlp) (AG _) ?_))));intro wz15 hS;refine nw ?_;refine ja ?_;exact⟨_,rfl,jY,jY,jY,rfl,jY,jY,Gz [_,_] hlk hlp hS⟩
    ·refine lB rfl rfl (sv [_,_] (i:=k) rfl rfl sk hS oO (by rw[bj];exact hlk) (AG _) ?_);intro wz16 hS;refine li (x:=jv 3) (U':=[jo 5,jo 18,jw 19]) kR kR (kX rfl rfl (pE (kP (k:=0) rfl mR hS rfl rfl rfl (.inr rfl) ?_)));refine⟨Below.refl _ _,?_⟩;refine kU (i:=5) (U':=[jo 18,jw 19]) kR kR rfl rfl (py rfl rfl (ct _ oO) (kU (i:=18) (U':=[jw 19]) kR kR rfl rfl (kM (i:=p) rfl rfl oO dO rZ (li (x:=jw 19) (U':=[]) kR kR (lB rfl rfl (sv [_,_] (i:=p) rfl rfl sk hS oO (by rw[bG,bj];exact hlp) (AG _) ?_))))));intro wz17 hS;refine nw ?_;refine ja ?_;exact⟨_,rfl,jY,jY,jY,rfl,jY,jY,Gz [_,_] hlk hlp hS⟩
   clear hS;rintro ρ wsw ⟨h7,h8,h11,h12,h56,h57,hS⟩;refine ja ?_;have hR2:mN (CL RW k p) n (n+1) (HV f k p):=hRW.GN hkn hpn;have hsz2:=M6 hkn hpn hsz;have hl0:last.mag≠0:=λg=>IC k hkP (by rw[<-hlv,NL.2 g];rfl);have hrs:=PD hWh hrep hkP oO (by rw[<-hpp];exact hpn) hlv;rw[<-hpp,<-TM]at hrs;have hnx:=(xm hkP (by rw[<-hpp];exact hpn)).1;have hel:=λwx h=>Ee (H:=[(b12,3,[Value.int .i64 k]),(b11,223,mV last)]++[]) (w0:=w) (bo:=bw) k last (SS S0 k) wx hR2 oO oO hkn oO hsz2 hlz hl0 oO h;refine J3 ?_;refine jh (kf Tryz.call145 rfl (hel _ (hS.perm (B0 _ _))) ?_);rintro u w6 ⟨rfl,R',hR',hS'⟩;clear hS;have hS:=hS'.perm (B0 _ _).symm;clear hS';have hlk':k<R'.length:=by rw[hR'.len];exact hkn
   have hxk':=hR'.x9 hkn;have hgk':(R'.getD k o5).X.getD k AB=u4 (HV f k p) k last k k:=hR'.get hkn oO _;have hsz3:=IU hsz2 last hkn (by omega:k<n+1);refine ja ?_;refine kK [jo 0,ju 1,jo 2,ju 3,ju 4,jo 5,ju 6,jw 7] kR kR hS ?_;intro wz18 hS hBz18;refine J2 ?_;refine jl rfl (kM (i:=k) rfl rfl oO dO rZ (jm rfl (nD [_,_] rfl sk hS oO hlk' ?_)));refine J1 ?_;refine jl rfl (kM (i:=k) rfl rfl oO dO r5 (jm rfl (rY [_,_] (i:=k) (j:=k) AB nj rfl pu hS rfl hlk' oO oO (bB _ (bB _ hgk')) (.inl rfl) ?_)));refine J1 ?_;intro wz19 hS;refine ja ?_;replace hS:St w _ ([(b12,3,[Value.int .i64 k]),(b11,223,mV (u4 (HV f k p) k last k k))]++mB mV 223 220 bw R' []):=hS;refine V2 ?_;refine⟨k+1,_,rfl,⟨hkn,hnx,jY,jY,jY,jY,vi rfl oO,R',_,_,hR',?_,hsz3,?_,hsz3 k hkn k oO,hS.drop (ab _ _)⟩,oO⟩
   ·intro i hi j hj;show((zv (u4 (HV f k p) k last i j):Int):Rat)=_;rw[Kt];exact hrs.1 i hi j hj
   ·rw[Kt];exact hrs.2
  ·refine J1 ?_;refine jt ?_;obtain rfl:n=k:=oO;exact⟨_,rfl,hkP,h7,h8,RW,f,hRW,hrep,hsz,hS.drop (ab _ _)⟩
 clear hS hRW;rintro ρ w4 ⟨hfull,h7,h8,RW,f,hRW,hrep,hsz,hS⟩;have hqf:=(hfi n).1 hfull;have hIn:=rinv n Bm n;have hdn:=IC n hfull;have hSn:=hSS n (aB _);have e0:K7 A B=0:=by rw[e1,aj hqf]
 rw[hslL e0,e0];have hval:∀i,i<n->(f i i).mag≠0/\((zv (f i n):Int):Rat)/((zv (f i i):Int):Rat)=(lR n q n).M i n:=by
  intro i hi;have g1:((zv (f i i):Int):Rat)=dd n Bm n*(lR n Bm n).M i i:=hrep i hi i oO;have g2:((zv (f i n):Int):Rat)=dd n Bm n*(lR n Bm n).M i n:=hrep i hi n oO;rw[AS hIn hfull hi hi,xc,fg]at g1;rw[hfs hqf i hi n]at g2;refine⟨λg=>hdn (by rw[<-g1,NL.2 g];rfl),?_⟩;rw[g1,g2,bT];have:=bW _ hdn;grind
 obtain⟨gM,hgM⟩:∃gM:Nat->Rat,gM=λi=>(lR n q n).M i n:=⟨_,rfl⟩;rw[show(kD n λi=>ki ((lR n q n).M i n))=kD n λi=>ki (gM i) by rw[hgM]];replace hval:∀i,i<n->(f i i).mag≠0/\((zv (f i n):Int):Rat)/((zv (f i i):Int):Rat)=gM i:=by rw[hgM];exact hval
 refine J1 ?_;refine jh (mq (enc:=ke) (n:=n) kZ rfl rfl kW rfl oO oO oO oO hS ?_);intro b98 wz20 hS hBz20;refine V1 ?_;replace hS:St w _ ([(b98,32,(List.replicate n kZ).flatMap ke)]++mB mV 223 220 bw RW []):=hS;rw[Sq gM]at hS;refine J3 ?_;refine jb ?_;refine kG (λρ w'=>ρ 14= .slice (some ⟨b98,0,none⟩) n n/\St w w' ([(b98,32,(kD n λa=>ki (oF gM n a)).flatMap ke)]++mB mV 223 220 bw RW [])) ?_ ?_
 ·refine ja ?_;refine kF (σ:=Nat) (λi ρ w'=>i<=n/\ρ 7=iB n/\ρ 14= .slice (some ⟨b98,0,none⟩) n n/\ρ 99= .slice (some ⟨bw,0,none⟩) n n/\ρ 100=iB n/\ρ 101=iB i/\St w w' ([(b98,32,(kD n λa=>ki (oF gM i a)).flatMap ke)]++mB mV 223 220 bw RW [])) (λi=>n-i) 0
   ⟨aw _,jY,rfl,rfl,rfl,rfl,hS⟩ ?_
  clear hS;rintro i ρ w5 ⟨hi,h7,h14,h99,h100,h101,hS⟩;have hto:=kj n λa=>ki (oF gM i a);refine V1 ?_;by_cases hlt:i<n
  ·refine V1 ?_;have hli:i<RW.length:=by rw[hRW.len];exact hlt
   have htr:=kj (n+1) (f i);have hgn:(kD (n+1) (f i)).getD n AB=f i n:=kB _ _ oO;have hgi:(kD (n+1) (f i)).getD i AB=f i i:=kB _ _ oO;have q1:=hsz i hlt n oO;have q2:=hsz i hlt i oO;unfold yl at q1 q2;obtain⟨hm0,hqv⟩:=hval i hlt;have hmk:=λw=>Iv ((f i n).neg !=(f i i).neg) (kQ (f i n).mag) (kQ (f i i).mag) w oO oO (by rw[lF];exact hm0);rw[lF,lF,Sh hm0]at hmk;have hmk2:((sg (f i n).neg (f i n).mag:Int):Rat)/((sg (f i i).neg (f i i).mag:Int):Rat)=gM i:=hqv;rw[hmk2]at hmk;refine J1 ?_;refine jp (kM (i:=i) h99 h101 oO dO rZ (jq (nD [_] rfl sk hS oO hli ?_)));refine V2 ?_;have hrow:=hRW.sl (hS.drop (ab _ _)) nj hlt;refine ja ?_;refine kK [jo 0,jo 1,jo 2,jo 3,jo 4,jo 5,ju 6,jo 7,jo 8,jo 9,jo 10,ju 11,jo 12,jo 13,jo 14,jo 15,jo 16,ju 17,jo 18,jo 19,jo 20,jo 21,ju 22,jv 23,jo 24,jo 25,jo 26,jo 27,jw 28] kR kR hS ?_;intro wz21 hS hBz21;refine J4 ?_;refine jl rfl (ks (i:=n) rfl rfl (hRW.sl (hS.drop (ab _ _)) nj hlt) oO dO r5 ?_);refine jl rfl (lU rfl (lG (hRW.sl (hS.drop (ab _ _)) nj hlt) (λ_=>rfl) dD dO) yY ?_);refine jm rfl (lV (i:=n) (off:=0) AB rfl qB (hRW.sl (hS.drop (ab _ _)) nj hlt) (λ_=>rfl) dD dO rfl rfl (.inr rfl) ?_);refine J2 ?_;refine jl rfl (ks (i:=i) rfl rfl (hRW.sl (hS.drop (ab _ _)) nj hlt) oO dO r5 ?_);refine jl rfl (lU rfl (lG (hRW.sl (hS.drop (ab _ _)) nj hlt) (λ_=>rfl) dD dO) yY ?_);refine jm rfl (lV (i:=i) (off:=0) AB rfl qB (hRW.sl (hS.drop (ab _ _)) nj hlt) (λ_=>rfl) dD dO rfl rfl (.inr rfl) ?_);refine jl rfl (Dg rfl rfl Tryz.underlying4 ?_);refine J2 ?_;refine jl rfl (ks (i:=n) rfl rfl (hRW.sl (hS.drop (ab _ _)) nj hlt) oO dO r5 ?_);refine jl rfl (lU rfl (lG (hRW.sl (hS.drop (ab _ _)) nj hlt) (λ_=>rfl) dD dO) wZ ?_);refine jm rfl (lV (i:=n) (off:=1) AB rfl qQ (hRW.sl (hS.drop (ab _ _)) nj hlt) (λ_=>rfl) dD dO rfl rfl (.inr rfl) ?_);refine J2 ?_;refine jl rfl (ks (i:=i) rfl rfl (hRW.sl (hS.drop (ab _ _)) nj hlt) oO dO r5 ?_);refine jl rfl (lU rfl (lG (hRW.sl (hS.drop (ab _ _)) nj hlt) (λ_=>rfl) dD dO) wZ ?_);refine jm rfl (lV (i:=i) (off:=1) AB rfl qQ (hRW.sl (hS.drop (ab _ _)) nj hlt) (λ_=>rfl) dD dO rfl rfl (.inr rfl) ?_);rw[hgn,hgi];refine jn rfl (kf Tryz.call146 rfl (hmk _) ?_);rintro _ wc22 ⟨rfl,hBc22⟩;replace hS:=hS.kx hBc22;refine⟨hBc22,?_⟩;refine J3 ?_;refine jl rfl (kM (i:=i) rfl rfl oO dO kW ?_);refine jx rfl (Aa (k:=0) (i:=i) (enc:=ke) (ki (gM i)) (λ_=>rfl) rfl rfl kt hS rfl (by first|omega|simp) dO rfl rfl ?_);intro wz23 hS;refine ja ?_;replace hS:St w _ ([(b98,32,((kD n λa=>ki (oF gM i a)).set i (ki (gM i))).flatMap ke)]++mB mV 223 220 bw RW []):=hS;rw[Uc]at hS;refine V2 ?_;exact⟨i+1,_,rfl,⟨hlt,jY,jY,jY,jY,vi rfl oO,hS⟩,oO⟩
  ·refine J1 ?_;refine jt ?_;obtain rfl:n=i:=oO;exact⟨_,rfl,h14,hS⟩
 clear hS;rintro ρ w5 ⟨h14,hS⟩;have e3:(kD n λa=>ki (oF gM n a))=kD n λi=>ki (gM i):=kN λa ha=>by unfold oF;rw[aj ha]
 rw[e3]at hS;refine V3 ?_;have hTT:=hS.sle (k:=0) (n:=n) (cap:=n) rfl kA (by rw[kj];omega) oO oO;rw[aU (by rw[kj];omega)]at hTT;refine jt ?_;refine rP rfl rfl rfl ?_;exact⟨⟨_,rfl,hTT⟩,hS.kb⟩
structure Pa where
 c:Int
 q:Rat
structure Tr where
 ps:List Pa
 sm:Rat
def Tx:Pa:=⟨0,0⟩
def sw:Tr:=⟨[],0⟩
def pP (p:Pa):List Value:= .int .i64 p.c::ke (ki p.q)
def nB (p:Tr×Value):List Value:=p.2::ke (ki p.1.sm)
theorem Ew:∀p,(pP p).length=4:=λ_=>rfl
theorem su:∀p,(nB p).length=4:=λ_=>rfl
theorem M0 (xs:List Pa):∀u∈xs.flatMap pP,u.oneCell'=true:=by
 intro u hu;obtain⟨x,_,hx⟩:=dK.1 hu;simp only[pP,ke,bM,cG,fS]at hx;rcases hx with rfl|rfl|rfl|rfl<;>rfl
def Tj (p:Pa):Value:= .agg #[.int .i64 p.c,.bool (ki p.q).neg,.string (ki p.q).num,.string (ki p.q).den]
def za (t:Tr) (v:Value):Value:= .agg #[v,.bool (ki t.sm).neg,.string (ki t.sm).num,.string (ki t.sm).den]
structure II (w:World) (v:Value) (T:List Tr) (vs:List Value):Prop where
 len:vs.length=T.length
 sl:Sl nB 4 w v (T.zip vs)
 ps:∀i,i<T.length->Sl pP 4 w (vs.getD i undef) (T.getD i sw).ps
section
variable {w w' : World} {v : Value} {T : List Tr} {vs : List Value}
theorem II.kb (h:II w v T vs) (hb:Below w.heap.size w w'):II w' v T vs:=⟨h.len,h.sl.kb hb,λi hi=>(h.ps i hi).kb hb⟩
theorem II.PF (h:II w v T vs):(T.zip vs).length=T.length:=by rw[ka,h.len,Nat.min_self]
theorem II.Pr (h:II w v T vs) {i:Nat} (hi:i<T.length):(T.zip vs).getD i (sw,undef)=(T.getD i sw,vs.getD i undef):=by
 have h1:i<vs.length:=by rw[h.len];exact hi
 rw[nQ _ _ (by rw[h.PF];exact hi),List.getElem_zip,nQ T sw hi,nQ vs undef h1]
end
def sU (T:List Tr) (k:Nat):Rat:=ku (λj=>(T.getD j sw).sm) k
def mD:List Tr->Rat->Nat
 | [],_=>0
 |t::T,m=>if m<t.sm then 0 else mD T (m-t.sm)+1
theorem tJ:∀(T:List Tr) (m:Rat),mD T m<=T.length
 | [],_=>aB _
 |t::T,m=>by
  unfold mD;split
  ·exact aw _
  ·have:=tJ T (m-t.sm);rw[aZ];omega
theorem tQ (t:Tr) (T:List Tr):∀k,sU (t::T) (k+1)=t.sm+sU T k
 |0=>by show(0:Rat)+t.sm=t.sm+0;grind
 |k+1=>by
  show sU (t::T) (k+1)+_=t.sm+(sU T k+_);rw[tQ t T k,Rat.add_assoc];rfl
theorem FC:∀ {T:List Tr} {m:Rat} {k:Nat},k<=T.length->(∀j,j<k->¬m-sU T j<(T.getD j sw).sm)->(k<T.length->m-sU T k<(T.getD k sw).sm)->mD T m=k
 | [],_,k,hk,_,_=>by
  obtain rfl:k=0:=Nat.le_zero.1 hk;rfl
 |t::T,m,0,_,_,h2=>by
  have:=h2 (iQ _);have e:m-sU (t::T) 0=m:=by show m-0=m;grind
  rw[e]at this;exact aj this
 |t::T,m,k+1,hk,h1,h2=>by
  have e:m-sU (t::T) 0=m:=by show m-0=m;grind
  have h0:¬m<t.sm:=by
   have h0:=h1 0 (iQ _);rw[e]at h0;exact h0
  have e2:∀j,m-sU (t::T) (j+1)=(m-t.sm)-sU T j:=λj=>by rw[tQ];grind
  have ih:=FC (T:=T) (m:=m-t.sm) (k:=k) (by rw[aZ]at hk;omega) (λj hj=>by have:=h1 (j+1) oO;rw[e2]at this;exact this) (λhk'=>by have:=h2 (by rw[aZ];omega);rw[e2]at this;exact this);unfold mD;rw[ah h0,ih]
def r9 (T:List Tr) (m:Rat):Rat:=m-sU T (mD T m)
def yb (T:List Tr):Nat:=(T.map λt=>L t.sm+1).sum
theorem zu (t:Tr) (T:List Tr):yb (t::T)=L t.sm+1+yb T:=by unfold yb;rw[cJ,iF]
theorem Ql:∀(T:List Tr) (k:Nat),k<=T.length->L (sU T k)<=yb T+1
 |_,0,_=>by show L 0<=_;rw[oz];omega
 | [],k+1,h=>absurd h (Nat.not_succ_le_zero _)
 |t::T,k+1,h=>by
  have ih:=Ql T k (by rw[aZ]at h;omega);have:=Bi t.sm (sU T k);rw[tQ,zu];omega
theorem zP:∀(T:List Tr) {k:Nat},k<T.length->L (T.getD k sw).sm+1<=yb T
 | [],_,h=>absurd h (aS _)
 |t::T,0,_=>by rw[zu];exact Nat.le_add_right _ _
 |t::T,k+1,h=>by
  have:=zP T (k:=k) (by rw[aZ]at h;omega);rw[zu];show L (T.getD k sw).sm+1<=_;omega
theorem F8 (T:List Tr) (m:Rat) {k:Nat} (hk:k<=T.length):L (m-sU T k)<=L m+yb T+2:=by
 have:=tC m (sU T k);have:=Ql T k hk;omega
theorem An (v:Value) (T:List Tr) (vs:List Value) (m:Rat) (w:World) (hT:II w v T vs) (hK:2*(L m+yb T+2)<=MX):
  mb Tryz.prog 130 #[v,lC (ki m)] w λr w'=>r= .tuple #[.int .i64 (mD T m),lC (ki (r9 T m))]/\Below w.heap.size w w':=by
 have hzl:=hT.PF;have hmx:=hT.sl.maxLen;rw[hzl]at hmx;have hS:=St.init w;have e0:ki m=ki (m-sU T 0):=by congr 1;show m=m-0;grind
 refine enter Tryz.func130 rfl Tryz.ntmps130 rfl ?_;refine jr ?_;refine jh (lx (new:=ke (ki m)) rfl rfl hS ?_);intro b3 wz1 hS hBz1;refine J2 ?_;intro b5 wz2 hS hBz2;refine J1 ?_;refine jp (ky rfl (hT.sl.kb hS.kb) ⟨_,Tryz.underlying109⟩ ?_);refine V1 ?_;rw[hzl];rw[e0]at hS;refine kF (σ:=Nat) (λk ρ w'=>k<=T.length/\(∀j,j<k->¬m-sU T j<(T.getD j sw).sm)/\ρ 0=v/\ρ 3=pB b3/\ρ 5=pB b5/\ρ 8=v/\ρ 9=iB T.length/\ρ 10=iB k/\
   St w w' [(b5,32,ke kZ),(b3,32,ke (ki (m-sU T k)))]) (λk=>T.length-k) 0
  ⟨aw _,λj hj=>absurd hj (aS _),rfl,rfl,rfl,rfl,rfl,rfl,hS⟩ ?_
 clear hS e0;rintro k ρ w2 ⟨hk,hall,h0,h3,h5,h8,h9,h10,hS⟩;have hLm:=F8 T m hk;refine V1 ?_;by_cases hlt:k<T.length
 ·refine V1 ?_;have hzg:=hT.Pr hlt;have hLk:=zP T hlt;obtain⟨pa,pc,hpe,_⟩:=(hT.ps k hlt).form;rw[hpe]at hzg;obtain⟨pn,hpn⟩:=jz ((T.getD k sw).ps.length);rw[<-hpn]at hzg;refine J1 ?_;refine jp (ks (i:=k) h8 h10 (hT.sl.kb hS.kb) oO dO sG (jq (kC (v:=za (T.getD k sw) (.slice pa pn pc)) (i:=k) (sw,undef) rfl tq (hT.sl.kb hS.kb) oO rfl (by rw[hzg];rfl) (.inl rfl) ?_)));refine J1 ?_;intro b7 wz3 hS hBz3;refine J2 ?_;intro wz4 hS;refine ja ?_;replace hS:St w _ [(b7,157,nB (T.getD k sw,.slice pa pn pc)),(b5,32,ke kZ),(b3,32,ke (ki (m-sU T k)))]:=hS;refine J3 ?_;refine jh (kf Tryz.call50 rfl (pR (ki (m-sU T k)) (ki (T.getD k sw).sm) _ (by rw[Lr_ofQ,Lr_ofQ];omega)) ?_);rintro _ wc5 ⟨rfl,hBc5⟩;replace hS:=hS.kx hBc5;refine V1 ?_;rw[toQ_ofQ,toQ_ofQ];by_cases hc:m-sU T k<(T.getD k sw).sm
  ·have hf:mD T m=k:=FC hk hall λ_=>hc;refine lu rfl (ai (Dm.2 hc)) ?_;refine ja ?_;refine kK [jo 0,ju 1,jo 2,jw 3] kR kR hS ?_;intro wz6 hS hBz6;refine J4 ?_;intro wz7 hS;refine jt ?_;refine tY (k:=1) rfl h5 rfl kt hS rfl rfl ?_;exact⟨by unfold r9;rw[hf];rfl,hS.kb⟩
  ·refine lH rfl (ae (λg=>hc (Dm.1 g))) ?_;refine J3 ?_;refine jh (kf Tryz.call16 rfl (mI (ki (m-sU T k)) (ki (T.getD k sw).sm) _ (by rw[Lr_ofQ,Lr_ofQ];omega)) ?_);rintro r w3 ⟨rfl,hB3⟩;have e1:m-sU T k-(T.getD k sw).sm=m-sU T (k+1):=by show _=m-(sU T k+(T.getD k sw).sm);grind
   rw[toQ_ofQ,toQ_ofQ,e1];replace hS:=hS.kx hB3;refine J1 ?_;intro wz8 hS;refine ja ?_;replace hS:St w _ [(b7,157,nB (T.getD k sw,.slice pa pn pc)),(b5,32,ke kZ),(b3,32,ke (ki (m-sU T (k+1))))]:=hS;refine V2 ?_;refine⟨k+1,_,rfl,⟨hlt,λj hj=> ?_,h0,h3,h5,h8,h9,vi rfl oO,hS.drop (ab _ _)⟩,oO⟩;by_cases e:j=k
   ·rw[e];exact hc
   ·exact hall j oO
 ·refine J1 ?_;refine jt ?_;have hf:mD T m=k:=FC hk hall λh=>absurd h hlt;obtain rfl:k=T.length:=oO;refine ja ?_;refine kK [jo 0,jo 1,ju 2,jo 3,jw 4] kR kR hS ?_;intro wz9 hS hBz9;refine J1 ?_;refine jl rfl (ky rfl (hT.sl.kb hS.kb) ⟨_,Tryz.underlying109⟩ ?_);refine J3 ?_;intro wz10 hS;refine ja ?_;rw[hzl];refine jt ?_;refine tY (k:=0) rfl h5 rfl kt hS rfl rfl ?_;exact⟨by unfold r9;rw[hf];rfl,hS.kb⟩
end Go.Proofs.YtoeiejliehgopaaGreatDoor
