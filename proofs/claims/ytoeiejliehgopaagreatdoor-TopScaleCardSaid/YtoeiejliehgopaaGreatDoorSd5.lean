import Derived.Test.YtoeiejliehgopaaGreatDoorSd4
set_option maxRecDepth 20000
set_option maxHeartbeats 8000000
namespace Go.Proofs.YtoeiejliehgopaaGreatDoor
open Go Go.RowKit Go.Sx
def nI (L:List Nat):List Int:=L.map λi:Nat=>(i:Int)
theorem rT (L:List Nat):(nI L).length=L.length:=aS _
theorem K0 (L:List Nat) (c:Nat):nI (L++[c])=nI L++[(c:Int)]:=by unfold nI;rw[bH];rfl
def BB (K r:Nat):Nat:=4^r*(K+1)
theorem LH (K r:Nat):BB K (r+1)=4*BB K r:=by unfold BB;rw[bC];rw[bF (4^r) 4,bk]
theorem Bn (K:Nat) {r s:Nat} (h:r<=s):BB K r<=BB K s:=aO _ (bM dD h)
theorem Sz {M:Mx} {n m r p b:Nat} (hp:p<n) (hr:r<n) (h:∀i,i<n->∀j,j<m->L (M i j)<=b):∀i,i<n->∀j,j<m->L (ou M r p i j)<=b:=by
 intro i hi j hj;unfold ou;split
 ·exact h _ hp j hj
 ·split
  ·exact h _ hr j hj
  ·exact h _ hi j hj
theorem GT {n m:Nat} {M:Mx} {K:Nat} (h:∀i,i<n->∀j,j<m->L (M i j)<=K):∀c,c<=m->(∀i,i<n->∀j,j<m->L ((lD n M c).M i j)+1<=BB K (lD n M c).P.length)/\L (lD n M c).d<=BB K (lD n M c).P.length
 |0,_=>by
  refine⟨λi hi j hj=> ?_,?_⟩
  ·have:=h i hi j hj;show L (M i j)+1<=BB K 0;unfold BB;omega
  ·show L 1<=BB K 0;have:L (((1:Int):Rat))<=1:=Vi 1 dD dD;unfold BB;have e:((1:Int):Rat)=1:=rfl;rw[e]at this;omega
 |c+1,hc=>by
  obtain⟨h1,h2⟩:=GT h c oO;show(∀i,i<n->∀j,j<m->L ((sH n c (lD n M c)).M i j)+1<=BB K (sH n c (lD n M c)).P.length)/\L (sH n c (lD n M c)).d<=BB K (sH n c (lD n M c)).P.length;have hlen:=(rinv n M c).len;generalize lD n M c=s at*;obtain⟨q1,_,_,_⟩:=po s.M c hlen;unfold sH;by_cases g:pv s.M c n s.P.length<n
  ·rw[aj g];generalize pv s.M c n s.P.length=p at*;dsimp only;rw[aG,eO,LH];have hs:=Sz (M:=s.M) (m:=m) (r:=s.P.length) (b:=BB K s.P.length-1) g oO (λi hi j hj=>by have:=h1 i hi j hj;omega);have hap:=h1 p g c oO;refine⟨λi hi j hj=> ?_,?_⟩
   ·have hr:=hs s.P.length oO j hj;have hd:=zw (ou s.M s.P.length p s.P.length j) (s.M p c);by_cases e:i=s.P.length
    ·rw[e,tq];omega
    ·rw[qX _ e];have hi':=hs i hi j hj;have hc':=hs i hi c oO;have hm:=zM (ou s.M s.P.length p i c) (ou s.M s.P.length p s.P.length j/s.M p c);have hsb:=s8 (ou s.M s.P.length p i j) (ou s.M s.P.length p i c*(ou s.M s.P.length p s.P.length j/s.M p c));omega
   ·split
    ·have:=zM s.d (s.M p c);omega
    ·have:=zM (-s.d) (s.M p c);have:=BO s.d;omega
  ·rw[ah g];exact⟨h1,h2⟩
def B8 (X:Mx) (r:Nat) (a:Rat) (k:Nat):Mx:=λi j=>if i=r/\j<k then X r j/a else X i j
def zO (X:Mx) (r c:Nat) (a:Rat) (k:Nat):Mx:=λi j=>if i=r then X r j/a else if i<k then X i j-X i c*(X r j/a)else X i j
theorem OP (X:Mx) (r c:Nat) (a:Rat) {n i:Nat} (hi:i<n) (j:Nat):zO X r c a n i j=elim X r a (λi=>X i c) i j:=by
 unfold zO;by_cases e:i=r
 ·rw[aj e,e,tq]
 ·rw[ah e,aj hi,qX _ e]
theorem QC (M:Mx) (r p a b:Nat):(if a=p then M r b else if a=r then M p b else M a b)=ou M r p a b:=by
 by_cases h2:a=p
 ·rw[aj h2,h2,sE]
 ·rw[ah h2];by_cases h1:a=r
  ·rw[aj h1,h1,pO]
  ·rw[ah h1,tX M h1 h2]
theorem Bv {α:Type} {enc:α->List Value} {tR tS:TypeId} {bo:Nat} {R:List (Rw α)} (pre H:List kU):(pre++mB enc tR tS bo R H).Perm (mB enc tR tS bo R (pre++H)):=by
 unfold mB;refine List.perm_middle.trans (List.Perm.cons _ ?_);rw[<-aI,<-aI];exact bU _ aF
theorem JK {n c:Nat} {M:Mx} (h:¬pv (lD n M c).M c n (lD n M c).P.length<n):lD n M (c+1)=lD n M c:=by
 show sH n c (lD n M c)=_;unfold sH;rw[ah h]
theorem HE {n c:Nat} {M:Mx} (h:pv (lD n M c).M c n (lD n M c).P.length<n):lD n M (c+1)=⟨elim (ou (lD n M c).M (lD n M c).P.length (pv (lD n M c).M c n (lD n M c).P.length)) (lD n M c).P.length ((lD n M c).M (pv (lD n M c).M c n (lD n M c).P.length) c) λi=>ou (lD n M c).M (lD n M c).P.length (pv (lD n M c).M c n (lD n M c).P.length) i c,(lD n M c).P++[c],
  (if pv (lD n M c).M c n (lD n M c).P.length=(lD n M c).P.length then(lD n M c).d else-(lD n M c).d)*(lD n M c).M (pv (lD n M c).M c n (lD n M c).P.length) c⟩:=by
 show sH n c (lD n M c)=_;unfold sH;rw[aj h]
theorem IV {R0:List (Rw RR)} {n m:Nat} {M:Mx} {w0:World} {bo:Nat} {H:List kU} (cols K:Nat) (w:World) (hR0:mx R0 n m (qM M)) (hn:n<=1000) (hm:m<=1000) (hcm:cols<=m) (hL:∀i,i<n->∀j,j<m->L (M i j)<=K) (hK:8*BB K n<=MX) (hS:St w0 w (mB j5 32 34 bo R0 H)):
  lU Tryz.prog 171 #[.slice (some ⟨bo,0,none⟩) n n,.int .i64 cols] w λv w'=>∃vp LP R',v= .tuple #[vp,kW (j8 (lD n M cols).d)]/\Gl sK 3 1 vp (nI (lD n M cols).P) LP/\mx R' n m (qM (lD n M cols).M)/\St w0 w' (mB j5 32 34 bo R' (H++LP)):=by
 have hM:MX=1099511627776:=rfl;refine enter Tryz.func171 rfl Tryz.ntmps171 rfl ?_;refine J2 ?_;intro b5 wz1 hS hBz1;refine Y1 ?_;refine jh (j6 Tryz.call33 rfl (mI 1 _ dD dD) ?_);rintro _ wc2 ⟨rfl,hBc2⟩;replace hS:=hS.km hBc2;refine J1 ?_;intro b7 wz3 hS hBz3;refine J1 ?_;intro wz4 hS;refine J1 ?_;refine jb ?_;rw[<-aU H]at hS;refine kx (λρ w'=>ρ 5=pB b5/\ρ 7=pB b7/\∃vp LP R,ρ 6=vp/\Gl sK 3 1 vp (nI (lD n M cols).P) LP/\mx R n m (qM (lD n M cols).M)/\St w0 w' ([(b7,32,j5 (j8 (lD n M cols).d)),(b5,32,j5 kP)]++mB j5 32 34 bo R (H++LP))) ?_ ?_
 ·refine ja ?_;refine ku (σ:=Nat) (λc ρ w'=>c<=cols/\ρ 0= .slice (some ⟨bo,0,none⟩) n n/\ρ 1=iB cols/\ρ 5=pB b5/\ρ 7=pB b7/\ρ 8=iB c/\
    ∃vp LP R,ρ 6=vp/\Gl sK 3 1 vp (nI (lD n M c).P) LP/\mx R n m (qM (lD n M c).M)/\St w0 w' ([(b7,32,j5 (j8 (lD n M c).d)),(b5,32,j5 kP)]++mB j5 32 34 bo R (H++LP))) (λc=>cols-c) 0
   ⟨aB _,rfl,rfl,rfl,rfl,rfl,_,[],R0,rfl,Gl.nil _ _ _,hR0,hS⟩ ?_
  clear hS;rintro c ρ w2 ⟨hc,h0,h1,h5,h7,h8,vp,LP,R,h6,hG,hR,hS⟩;have hlen:=(rinv n M c).len;obtain⟨hB1,hB2⟩:=GT hL c oO;obtain⟨av,cv,hvp⟩:=hG.len;rw[rT]at hvp;obtain⟨r,hr⟩:=jz ((lD n M c).P.length);rw[<-hr]at hlen hB1 hB2 hvp;subst hvp;refine ja ?_;by_cases hcl:c<cols
  ·by_cases hrn:r<n
   ·refine J4 ?_;refine ke (j7 18 kR rfl dT) (ko h6 (ke (j7 18 kR rfl dT) (oc rfl ⟨_,Tryz.underlying46⟩ (ke (j7 18 kR rfl dT) (ko h0 (ke (j7 18 kR rfl dT) (oc rfl ⟨_,Tryz.underlying35⟩ (ke (j7 18 kR rfl dT) (wm rfl rfl (jp (kA (vb rfl dT) rfl ?_)))))))))));refine V1 ?_;have hmts:=hR.Lc (hS.drop (ai _ _)) ks (cap:=n) (aH _) oO;refine J6 ?_;refine jh (j6 Tryz.call196 rfl (LJ _ _ n m (lD n M c).M r c _ hmts oO oO) ?_);rintro _ wc5 ⟨rfl,hBc5⟩;replace hS:=hS.km hBc5;refine V3 ?_;obtain⟨p,hp⟩:=jz (pv (lD n M c).M c n r);have hpI:UL (lD n M c).M c n r=if p<n then(p:Int)else-1:=by rw[hp];rfl
    by_cases hpn:p<n
    ·rw[aj hpn]at hpI;refine lx rfl (ae (by rw[hpI];omega)) ?_;refine ja ?_;have hp3:=po (lD n M c).M c (n:=n) (r:=r) oO;rw[<-hp]at hp3;obtain⟨hrp,_,_,ha⟩:=hp3;replace ha:=ha hpn;have hyes:=HE (n:=n) (c:=c) (M:=M) (by rw[<-hr,<-hp];exact hpn);rw[<-hr,<-hp]at hyes;obtain⟨s,hs⟩:=jz (lD n M c);rw[<-hs]at hyes hB1 hB2 hR hS hG ha hr;obtain⟨a,ha'⟩:∃a,a=s.M p c:=⟨_,rfl⟩;obtain⟨X,hX⟩:=jz (ou s.M r p);obtain⟨d1,hd1⟩:∃d1:Rat,d1=if p=r then s.d else-s.d:=⟨_,rfl⟩
     rw[<-ha',<-hX,<-hd1]at hyes;rw[<-ha']at ha;have hbm:=Bn K (r:=r+1) (s:=n) hrn;rw[LH]at hbm;obtain⟨b,hb⟩:=jz (BB K r);rw[<-hb]at hB1 hB2 hbm;have hLs:∀i,i<n->∀j,j<m->L (s.M i j)<=b-1:=λi hi j hj=>by have:=hB1 i hi j hj;omega
     have hLX:∀i,i<n->∀j,j<m->L (X i j)<=b-1:=by rw[hX];exact Sz hpn hrn hLs
     have hLa:L a<=b-1:=by rw[ha'];exact hLs p hpn c oO
     have hb1:1<=b:=by have:=hB1 p hpn c oO;omega
     have hLd:L d1<=b:=by
      rw[hd1];split
      ·exact hB2
      ·rw[BO];exact hB2
     have hXa:X r c=a:=by rw[hX,ha',pO]
     rw[hpI];refine V3 ?_;refine kx (λρ w'=>ρ 0= .slice (some ⟨bo,0,none⟩) n n/\ρ 1=iB cols/\ρ 5=pB b5/\ρ 6= .slice av r cv/\ρ 7=pB b7/\ρ 8=iB c/\ρ 9=iB r/\
      ∃R,mx R n m (qM X)/\St w0 w' ([(b7,32,j5 (j8 d1)),(b5,32,j5 kP)]++mB j5 32 34 bo R (H++LP))) ?_ ?_
     ·have hlr:r<R.length:=by rw[hR.len];exact hrn
      have hlp:p<R.length:=by rw[hR.len];exact hpn
      by_cases hpr:p=r
      ·have eX:X=s.M:=by rw[hX,hpr,DO]
       have ed:d1=s.d:=by rw[hd1,aj hpr]
       refine V1 ?_;rw[eX,ed];exact⟨_,rfl,jY,jY,jY,jY,jY,jY,rfl,R,hR,hS⟩
      ·have ed:d1= -s.d:=by rw[hd1,ah hpr]
       have hR2:=(hR.Gh hrn hpn).congr (g:=qM X) λi _ j _=>by
        rw[hX];show(if i=p then j8 (s.M r j)else if i=r then j8 (s.M p j)else j8 (s.M i j))=j8 (ou s.M r p i j);rw[<-QC];split
        ·rfl
        ·split<;>rfl
       have hneg:=λw=>yq (j8 s.d) w (by rw[Lr_ofQ];omega);rw[toQ_ofQ]at hneg;refine V1 ?_;refine kC [jo 0,jo 1,jo 2,jo 3,jo 4,jo 5,jo 6,ju 7,jo 8,jo 9,jo 10,ju 11,jo 12,jw 13,jo 14,jw 15] kR kR hS ?_;intro wz6 hS hBz6;refine J6 ?_;refine jl rfl (kD (i:=r) rfl rfl oO dO lH (jm rfl (nh [_,_] rfl lQ hS oO hlr ?_)));refine J2 ?_;refine jl rfl (kD (i:=p) rfl rfl oO dO lH (jm rfl (nh [_,_] rfl lQ hS oO hlp (jl rfl (kD (i:=p) rfl rfl oO dO lH (jx rfl (rY [_,_] (i:=p) rfl rfl lQ hS oO (by rw[aS];exact hlp) (Aq _) ?_)))))));intro wz7 hS;refine jl rfl (kD (i:=r) rfl rfl oO dO lH (jx rfl (rY [_,_] (i:=r) rfl rfl lQ hS oO (by rw[ce,aS];exact hlr) (Aq _) ?_)));intro wz8 hS;refine ja ?_;rw[List.set_comm _ _ hpr]at hS;have hS2:=Fg [_,_] hlr hlp hS;clear hS;rename _=>hS
       refine J1 ?_;refine jh (j6 Tryz.call105 rfl (hneg _) ?_);rintro _ wc9 ⟨rfl,hBc9⟩;replace hS:=hS.km hBc9;refine J1 ?_;intro wz10 hS;refine ja ?_;rw[ed];exact⟨_,rfl,jY,jY,jY,jY,jY,jY,rfl,_,hR2,hS⟩
     clear hS hR;rintro ρ w3 ⟨h0,h1,h5,h6,h7,h8,h9,R,hR,hS⟩;have hlr:r<R.length:=by rw[hR.len];exact hrn
     have hxr:=hR.xQ hrn;have hgr:(R.getD r ov).X.getD c kP=j8 a:=by rw[hR.get hrn oO];show j8 (X r c)=_;rw[hXa]
     refine J2 ?_;refine jp (kD (i:=r) rfl rfl oO dO lH (jq (nh [_,_] rfl lQ hS oO hlr ?_)));refine J1 ?_;refine jp (kD (i:=c) rfl rfl oO dO kK (jq (qW [_,_] (i:=r) (j:=c) kP ks rfl kf hS rfl hlr oO oO rfl (.inl rfl) ?_)));refine J1 ?_;intro b11 wz11 hS hBz11;refine J1 ?_;intro wz12 hS;refine ja ?_;rw[hgr]at hS;have hmul:=λw=>pu (j8 d1) (j8 a) w (by rw[Lr_ofQ,Lr_ofQ];omega);rw[toQ_ofQ,toQ_ofQ]at hmul;refine J2 ?_;refine jh (j6 Tryz.call11 rfl (hmul _) ?_);rintro _ wc13 ⟨rfl,hBc13⟩;replace hS:=hS.km hBc13;refine J1 ?_;intro wz14 hS;refine ja ?_;refine nc (λρ'=>ρ' 0= .slice (some ⟨bo,0,none⟩) n n/\ρ' 1= .int .i64 cols/\ρ' 5= .pointer (some ⟨b5,0,none⟩)/\ρ' 6= .slice av r cv/\ρ' 7= .pointer (some ⟨b7,0,none⟩)/\ρ' 8= .int .i64 c/\ρ' 9= .int .i64 r/\ρ' 11= .pointer (some ⟨b11,0,none⟩)/\True) ⟨h0,h1,h5,h6,h7,h8,h9,rfl,trivial⟩ ?_;rintro ρk15 ⟨hk15_0,hk15_1,hk15_5,hk15_6,hk15_7,hk15_8,hk15_9,hk15_11,-⟩;refine J2 ?_;refine jp (kD (i:=r) rfl rfl oO dO lH (jq (nh [_,_,_] rfl lQ hS oO hlr ?_)));refine J2 ?_;refine jb ?_;refine kx (λρ w'=>ρ 0= .slice (some ⟨bo,0,none⟩) n n/\ρ 1=iB cols/\ρ 5=pB b5/\ρ 6= .slice av r cv/\ρ 7=pB b7/\ρ 8=iB c/\ρ 9=iB r/\
      ∃R,mx R n m (qM (B8 X r a m))/\St w0 w' ([(b11,32,j5 (j8 a)),(b7,32,j5 (j8 (d1*a))),(b5,32,j5 kP)]++mB j5 32 34 bo R (H++LP))) ?_ ?_
     ·refine ja ?_;refine ku (σ:=Nat) (λk ρ w'=>k<=m/\ρ 0= .slice (some ⟨bo,0,none⟩) n n/\ρ 1=iB cols/\ρ 5=pB b5/\ρ 6= .slice av r cv/\ρ 7=pB b7/\ρ 8=iB c/\ρ 9=iB r/\ρ 11=pB b11/\ρ 68=iB m/\ρ 69=iB k/\
       ∃R,mx R n m (qM (B8 X r a k))/\St w0 w' ([(b11,32,j5 (j8 a)),(b7,32,j5 (j8 (d1*a))),(b5,32,j5 kP)]++mB j5 32 34 bo R (H++LP))) (λk=>m-k) 0
       ⟨aB _,jY,jY,jY,jY,jY,jY,jY,jY,vi rfl oO,rfl,R,hR.congr λi _ j _=>by show j8 (X i j)=j8 (B8 X r a 0 i j);unfold B8;rw[ah oO],hS⟩ ?_
      clear hS hR hlr hxr hgr;rintro k ρ w4 ⟨hk,h0,h1,h5,h6,h7,h8,h9,h11,h68,h69,R,hR,hS⟩;have hlr:r<R.length:=by rw[hR.len];exact hrn
      have hxr:=hR.xQ hrn;refine V1 ?_;by_cases hkl:k<m
      ·refine V1 ?_;have hgr:(R.getD r ov).X.getD k kP=j8 (X r k):=by rw[hR.get hrn hkl];show j8 (B8 X r a k r k)=_;unfold B8;rw[ah oO]
       have hLk:=hLX r hrn k hkl;have hdiv:=λw=>vw (j8 (X r k)) (j8 a) w (by rw[Lr_ofQ,Lr_ofQ];omega) (by rw[toQ_ofQ];exact ha);rw[toQ_ofQ,toQ_ofQ]at hdiv;refine V2 ?_;refine kC [jo 0,jo 1,jo 2,ju 3,jo 4,jo 5,jo 6,jo 7,ju 8,jo 9,jo 10,ju 11,ju 12,jv 13,jo 14,jo 15,jo 16,jo 17,jw 18] kR kR hS ?_;intro wz16 hS hBz16;refine J2 ?_;refine jl rfl (kD (i:=r) rfl rfl oO dO lH (jm rfl (nh [_,_,_] rfl lQ hS oO hlr ?_)));refine J3 ?_;refine jl rfl (kD (i:=r) rfl rfl oO dO lH (jm rfl (nh [_,_,_] rfl lQ hS oO hlr ?_)));refine J1 ?_;refine jl rfl (kD (i:=k) rfl rfl oO dO kK (jm rfl (qW [_,_,_] (i:=r) (j:=k) kP ks rfl kf hS rfl hlr oO oO rfl (.inl rfl) ?_)));refine J1 ?_;rw[hgr];refine jn rfl (j6 Tryz.call108 rfl (hdiv _) ?_);rintro _ wc17 ⟨rfl,hBc17⟩;replace hS:=hS.km hBc17;refine⟨hBc17,?_⟩;refine J3 ?_;refine jl rfl (kD (i:=k) rfl rfl oO dO kK (jx rfl (x9 [_,_,_] (i:=r) (j:=k) (j8 (X r k/a)) ks rfl rfl kf hS rfl hlr oO oO rfl rfl ?_)));intro wz18 hS;refine V2 ?_;refine⟨k+1,_,rfl,⟨hkl,jY,jY,jY,jY,jY,jY,jY,jY,jY,vi rfl oO,_,(hR.put hrn k (j8 (X r k/a))).congr λi _ j _=> ?_,hS⟩,oO⟩;show(if i=r/\j=k then j8 (X r k/a)else j8 (B8 X r a k i j))=j8 (B8 X r a (k+1) i j);unfold B8;by_cases g:i=r/\j=k
       ·rw[aj g,aj oO,g.2]
       ·rw[ah g];by_cases g2:i=r/\j<k
        ·rw[aj g2,aj oO]
        ·rw[ah g2,ah oO]
      ·refine J1 ?_;refine jt ?_;obtain rfl:k=m:=oO;exact⟨_,rfl,h0,h1,h5,h6,h7,h8,h9,R,hR,hS⟩
     clear hS hR hlr hxr hgr;rintro ρ w4 ⟨h0,h1,h5,h6,h7,h8,h9,R,hR,hS⟩;replace hR:mx R n m (qM (zO X r c a 0)):=hR.congr λi _ j hj=>by
      show j8 (B8 X r a m i j)=j8 (zO X r c a 0 i j);unfold B8 zO;by_cases e:i=r
      ·rw[aj ⟨e,hj⟩,aj e]
      ·rw[ah (λq=>e q.1),ah e,ah (aW _)]
     replace hS:=hS.drop (ab _ _);refine J3 ?_;refine jb ?_;refine kx (λρ w'=>ρ 0= .slice (some ⟨bo,0,none⟩) n n/\ρ 1=iB cols/\ρ 5=pB b5/\ρ 6= .slice av r cv/\ρ 7=pB b7/\ρ 8=iB c/\
      ∃R,mx R n m (qM (zO X r c a n))/\St w0 w' ([(b7,32,j5 (j8 (d1*a))),(b5,32,j5 kP)]++mB j5 32 34 bo R (H++LP))) ?_ ?_
     ·refine ja ?_;refine ku (σ:=Nat) (λi ρ w'=>i<=n/\ρ 0= .slice (some ⟨bo,0,none⟩) n n/\ρ 1=iB cols/\ρ 5=pB b5/\ρ 6= .slice av r cv/\ρ 7=pB b7/\ρ 8=iB c/\ρ 9=iB r/\ρ 92=iB n/\ρ 93=iB i/\
       ∃R,mx R n m (qM (zO X r c a i))/\St w0 w' ([(b7,32,j5 (j8 (d1*a))),(b5,32,j5 kP)]++mB j5 32 34 bo R (H++LP))) (λi=>n-i) 0
       ⟨aB _,jY,jY,jY,jY,jY,jY,jY,rfl,rfl,R,hR,hS⟩ ?_
      clear hS hR;rintro i ρ w4 ⟨hi,h0,h1,h5,h6,h7,h8,h9,h92,h93,R,hR,hS⟩;have hlr:r<R.length:=by rw[hR.len];exact hrn
      refine V1 ?_;by_cases hin:i<n
      ·refine V1 ?_;have hli:i<R.length:=by rw[hR.len];exact hin
       have hxi:=hR.xQ hin;have hstep:∀i',i'<n->∀j,i'≠i->zO X r c a i i' j=zO X r c a (i+1) i' j:=by
        intro i' _ j hne;unfold zO;by_cases e:i'=r
        ·rw[aj e,aj e]
        ·rw[ah e,ah e];by_cases e2:i'<i
         ·rw[aj e2,aj oO]
         ·rw[ah e2,ah oO]
       refine V2 ?_;by_cases hir:i=r
       ·refine J4 ?_;refine kL (ka 99 kR rfl dF) (kL (ka 99 kR rfl dF) (kL (ka 99 kR rfl dF) (kL (ka 99 kR rfl dF) (kL (ka 99 kR rfl dF) (kL (ka 99 kR rfl dF) (kL (ka 99 kR rfl dF) (kL (ka 99 kR rfl dF) (kL (ka 99 kR rfl dF) (jp (kA (vb rfl dF) rfl ?_))))))))));refine ja ?_;refine lx rfl (rfl) ?_;refine V2 ?_;refine⟨i+1,_,rfl,⟨hin,jY,jY,jY,jY,jY,jY,jY,jY,vi rfl oO,R,hR.congr λi' hi' j _=> ?_,hS⟩,oO⟩;show j8 (zO X r c a i i' j)=j8 (zO X r c a (i+1) i' j);by_cases e:i'=i
        ·unfold zO;rw[aj oO,aj oO]
        ·rw[hstep i' hi' j e]
       ·have hgi:(R.getD i ov).X.getD c kP=j8 (X i c):=by rw[hR.get hin oO];show j8 (zO X r c a i i c)=_;unfold zO;rw[ah hir,ah (dH _)]
        refine J4 ?_;refine ke (j7 99 kR rfl dT) (ko h0 (ke (j7 99 kR rfl dT) (ko rfl (ke (j7 99 kR rfl dT) (kD (i:=i) rfl rfl oO dO lH (lj (j7 99 kR rfl dT) (nh [_,_] rfl lQ hS oO hli (ke (j7 99 kR rfl dT) (ko h8 (ke (j7 99 kR rfl dT) (kD (i:=c) rfl rfl oO dO kK (lj (j7 99 kR rfl dT) (qW [_,_] (i:=i) (j:=c) kP ks rfl kf hS rfl hli oO oO rfl (.inl rfl) ?_)))))))))))));rw[hgi];refine pj (j7 99 kR rfl dT) (j6 Tryz.call197 rfl (Am _ _) ?_);rintro r w5 ⟨rfl,hB5⟩;replace hS:=hS.km hB5;refine ke (j7 99 kR rfl dT) (xU rfl (jp (kA (vb rfl dT) rfl ?_)));refine ja ?_;by_cases hz:X i c=0
        ·refine lx rfl (by rw[ao hz];rfl) ?_;refine V2 ?_;refine⟨i+1,_,rfl,⟨hin,jY,jY,jY,jY,jY,jY,jY,jY,vi rfl oO,R,hR.congr λi' hi' j _=> ?_,hS⟩,oO⟩;show j8 (zO X r c a i i' j)=j8 (zO X r c a (i+1) i' j);by_cases e:i'=i
         ·rw[e];unfold zO;rw[ah hir,ah hir,ah (dH _),aj (eo _),hz];congr 1;grind
         ·rw[hstep i' hi' j e]
        ·refine k9 rfl (by rw[ae hz];rfl) ?_;refine ja ?_;have hLe:∀j,j<m->L (zO X r c a i i j)<=2*b/\L (zO X r c a i r j)<=2*b:=by
          intro j hj;have q1:=hLX i hin j hj;have q2:=hLX r hrn j hj;have q3:=zw (X r j) a;constructor
          ·unfold zO;rw[ah hir,ah (dH _)];omega
          ·unfold zO;rw[aj rfl];omega
         have hmin:=λw h=>MC (H:=[(b7,32,j5 (j8 (d1*a))),(b5,32,j5 kP)]++(H++LP)) (w0:=w0) (bo:=bo) i r (X i c) (2*b) w hR hm hin hrn hir hLe (by have:=hLX i hin c oO;omega) oO h;refine ja ?_;refine kC [jo 0,jo 1,jo 2,ju 3,jo 4,jo 5,jo 6,ju 7,jo 8,jo 9,jo 10,ju 11,jo 12,jo 13,ju 14,jw 15] kR kR hS ?_;intro wz19 hS hBz19;refine J2 ?_;refine jl rfl (kD (i:=i) rfl rfl oO dO lH (jm rfl (nh [_,_] rfl lQ hS oO hli ?_)));refine J2 ?_;refine jl rfl (kD (i:=r) rfl rfl oO dO lH (jm rfl (nh [_,_] rfl lQ hS oO hlr ?_)));refine J2 ?_;refine jl rfl (kD (i:=i) rfl rfl oO dO lH (jm rfl (nh [_,_] rfl lQ hS oO hli ?_)));refine J1 ?_;refine jl rfl (kD (i:=c) rfl rfl oO dO kK (jm rfl (qW [_,_] (i:=i) (j:=c) kP ks rfl kf hS rfl hli oO oO rfl (.inl rfl) ?_)));rw[hgi];refine jx rfl (j6 Tryz.call198 rfl (hmin _ (hS.perm (Bv _ _))) ?_);rintro u w6 ⟨rfl,R',hR',hS'⟩;clear hS;have hS:=hS'.perm (Bv _ _).symm;refine V2 ?_;refine⟨i+1,_,rfl,⟨hin,jY,jY,jY,jY,jY,jY,jY,jY,vi rfl oO,R',hR'.congr λi' hi' j _=> ?_,hS⟩,oO⟩;show j8 (if i'=i then zO X r c a i i j-X i c*zO X r c a i r j else zO X r c a i i' j)=j8 (zO X r c a (i+1) i' j);by_cases e:i'=i
         ·rw[aj e,e];unfold zO;rw[ah hir,ah hir,ah (dH _),aj rfl,aj (eo _)]
         ·rw[ah e,hstep i' hi' j e]
      ·refine J1 ?_;refine jt ?_;obtain rfl:n=i:=oO;exact⟨_,rfl,h0,h1,h5,h6,h7,h8,R,hR,hS⟩
     clear hS hR;rintro ρ w4 ⟨h0,h1,h5,h6,h7,h8,R,hR,hS⟩;replace hR:mx R n m (qM (lD n M (c+1)).M):=hR.congr λi hi j _=>by
      show j8 (zO X r c a n i j)=j8 ((lD n M (c+1)).M i j);rw[hyes,OP X r c a hi j]
     replace hS:St w0 w4 ([(b7,32,j5 (j8 (lD n M (c+1)).d)),(b5,32,j5 kP)]++mB j5 32 34 bo R (H++LP)):=by rw[hyes];exact hS
     rw[<-Fs,<-aI]at hS;have hnl:(nI s.P).length=r:=by rw[rT,hr]
     refine J2 ?_;refine jh (mD (vs:=[.int .i64 c]) rfl py rfl dD dD dD (by simp[Value.cells]) rfl hS ?_);intro b20 wz21 hS hBz21;refine jh (mf [(c:Int)] rfl rfl py dD hG hS rfl rfl (λ_=>rfl) (λu hu=>by rw[aZ.1 (show u∈[Value.int .i64 (c:Int)]from hu)];rfl) dL dL ?_);intro va22 La22 wa22 hG hS hga22;refine V1 ?_;rw[<-K0]at hG;rw[aI,Fs]at hS;refine V3 ?_;exact⟨c+1,_,rfl,⟨hcl,jY,jY,jY,jY,vi rfl oO,_,_,R,rfl,by rw[hyes];exact hG,hR,hS⟩,oO⟩
    ·rw[ah hpn]at hpI;refine k9 rfl (ao (by rw[hpI];decide)) ?_;refine V3 ?_;have e:=JK (n:=n) (c:=c) (M:=M) (by rw[<-hr,<-hp];exact hpn);exact⟨c+1,_,rfl,⟨hcl,jY,jY,jY,jY,vi rfl oO,_,LP,R,jY,by rw[e];exact hG,by rw[e];exact hR,by rw[e];exact hS⟩,oO⟩
   ·refine J4 ?_;refine ke (j7 18 kR rfl dT) (ko h6 (ke (j7 18 kR rfl dT) (oc rfl ⟨_,Tryz.underlying46⟩ (ke (j7 18 kR rfl dT) (ko h0 (ke (j7 18 kR rfl dT) (oc rfl ⟨_,Tryz.underlying35⟩ (ke (j7 18 kR rfl dT) (wm rfl rfl (jp (kA (vb rfl dT) rfl ?_)))))))))));refine J1 ?_;refine jt ?_;have e:lD n M cols=lD n M c:=by
     have:=B5 (n:=n) (A:=M) (c:=c) oO (cols-c);rwa[show c+(cols-c)=cols by omega]at this
    rw[e];exact⟨_,rfl,h5,h7,_,LP,R,h6,hG,hR,hS⟩
  ·refine J4 ?_;refine kL (ka 18 kR rfl dF) (kL (ka 18 kR rfl dF) (kL (ka 18 kR rfl dF) (kL (ka 18 kR rfl dF) (kL (ka 18 kR rfl dF) (jp (kA (vb rfl dF) rfl ?_))))));refine ja ?_;refine lx rfl (rfl) ?_;refine jt ?_;obtain rfl:c=cols:=oO;exact⟨_,rfl,h5,h7,_,LP,R,h6,hG,hR,hS⟩
 clear hS;rintro ρ w2 ⟨h5,h7,vp,LP,R,h6,hG,hR,hS⟩;refine ja ?_;refine kC [jo 0,ju 1,jo 2,jw 3] kR kR hS ?_;intro wz23 hS hBz23;refine J4 ?_;intro wz24 hS;refine ja ?_;replace hS:St w0 _ ([(b7,32,j5 (j8 (lD n M cols).d)),(b5,32,j5 (j8 (lD n M cols).d))]++mB j5 32 34 bo R (H++LP)):=hS;refine jt ?_;refine tP (k:=1) rfl h5 rfl kf hS rfl rfl ?_;exact⟨vp,LP,R,rfl,hG,hR,hS.drop (ai _ _)⟩
theorem Wo (K n:Nat):K+1<=BB K n:=by
 have:=Bn K (aB n);unfold BB at this⊢;omega
def FW (A:List (List RR)):Rd:=lD A.length (RM A) (mX A)
def Wg (A:List (List RR)):List (List RR):=if tV A=0 then ws A.length (mX A) (qM (FW A).M)else []
def Wa (A:List (List RR)):List Nat:=if tV A=0 then(FW A).P else []
theorem rJ.nil {α:Type} (enc:α->List Value) (size:Nat) (w:World):rJ enc size w (.slice none 0 0) [] []:=⟨rfl,Sl.nil _ _ _,λ_ h=>absurd h (aW _)⟩
theorem I9 (v:Value) (A:List (List RR)) (vs:List Value) (K:Nat) (w:World) (hA:rJ j5 3 w v A vs) (hB:Ms K A) (hK:8*BB K A.length<=MX):
  lU Tryz.prog 138 #[v] w λr w'=>(∃v' vs' vp,r= .tuple #[v',vp,.int .i64 (tV A)]/\rJ j5 3 w' v' (Wg A) vs'/\Sl sK 1 w' vp (nI (Wa A)))/\Below w.heap.size w w':=by
 have hM:MX=1099511627776:=rfl;have hBK:=Wo K A.length;have hS:=St.init w;have hlen:=hA.len;refine enter Tryz.func138 rfl Tryz.ntmps138 rfl ?_;refine J4 ?_;refine jh (j6 Tryz.call170 rfl (EB v A vs _ (hA.j4 hS.j4)) ?_);rintro _ wc1 ⟨rfl,hBc1⟩;replace hS:=hS.km hBc1;refine V3 ?_;by_cases he:tV A≠0
 ·have e1:Wg A=[]:=ah he;have e2:Wa A=[]:=ah he;rw[e1,e2];refine J5 ?_;refine jt ?_;refine EW rfl rfl rfl rfl ?_;exact⟨⟨_,[],_,rfl,rJ.nil _ _ _,Sl.nil _ _ _⟩,hS.j4⟩
 replace he:=fv.1 he;obtain⟨h1,h2,h3,h4,h5⟩:=xp he;have hr0:=hA.row 0 oO;have hc0:mX A=(A.getD 0 []).length:=rfl;have e1:Wg A=ws A.length (mX A) (qM (FW A).M):=aj he;have e2:Wa A=(FW A).P:=aj he;rw[e1,e2,he];refine J2 ?_;refine jh (j6 Tryz.call141 rfl (zU v A vs (mX A) K _ (hA.j4 hS.j4) h1 oO h3 oO h5 hB oO) ?_);rintro r w2 ⟨⟨bo,R,rfl,hR,-,hS2⟩,hB2⟩;replace hS:=(hS.join hS2).cast (aU _);clear hS2;refine J3 ?_;refine jp (kj (i:=0) rfl rfl (hA.sl.j4 hS.j4) oO dO lH (jq (kt (i:=0) undef rfl lQ (hA.sl.j4 hS.j4) dO rfl rfl (.inr rfl) (jp (ki rfl (hr0.j4 hS.j4) ⟨_,Tryz.underlying34⟩ ?_)))));refine jh (j6 Tryz.call171 rfl (IV (mX A) K _ hR oO oO (aH _) (λi hi j hj=>Mk hB hi (by rw[h5 i hi];exact hj)) hK hS) ?_);rintro r w3 ⟨vp,LP,R',rfl,hG,hR',hS'⟩;clear hS;rename _=>hS
 refine J4 ?_;intro b8 wz2 hS hBz2;refine J2 ?_;intro wz3 hS;refine ja ?_;have hS2:=hS.drop (ab _ _);have hmt:=hR'.Lc hS2 ks (cap:=A.length) (aH _) oO;rw[<-Fs]at hS2;have hsl:=hG.sl hS2 (λ_=>rfl);refine J5 ?_;refine jt ?_;refine EW rfl rfl rfl rfl ?_;exact⟨⟨_,_,_,rfl,hmt,hsl⟩,hS.j4⟩
theorem OZ {A:List (List RR)} (h:OI A=0):tV A=0/\A.length=mX A:=by
 unfold OI at h;split at h
 ·next h1=>exact absurd h h1
 ·next h1=>
  split at h
  ·cases h
  ·next h2=>exact⟨fv.1 h1,fv.1 h2⟩
theorem M1 (v:Value) (l:List Int) (x:Int) (w:World) (hv:Sl sK 1 w v l):
  lU Tryz.prog 172 #[v,.int .i64 x] w λr w'=>(∃k:Int,r= .int .i64 k/\(0<=k↔x∈l))/\w'=w:=by
 have hmax:=hv.maxLen;refine enter Tryz.func172 rfl Tryz.ntmps172 rfl ?_;refine J2 ?_;refine jp (ki rfl hv ⟨_,Tryz.underlying46⟩ ?_);refine V1 ?_;refine ku (σ:=Nat) (λi ρ w'=>i<=l.length/\x∉l.take i/\ρ 0=v/\ρ 1=iB x/\ρ 7=iB l.length/\ρ 8=iB i/\w'=w) (λi=>l.length-i) 0
  ⟨aB _,by simp,rfl,rfl,rfl,rfl,rfl⟩ ?_
 rintro i ρ w2 ⟨hi,hn,h0,h1,h7,h8,rfl⟩;refine V1 ?_;by_cases hlt:i<l.length
 ·refine V1 ?_;have ht:=lE l i 0 hlt;refine J5 ?_;refine jp (kj (i:=i) rfl rfl hv oO dO py (jq (kt (i:=i) 0 rfl nm hv dO rfl rfl (.inr rfl) ?_)));refine V1 ?_;by_cases hx:x=l.getD i 0
  ·refine k9 rfl (ao hx) ?_;refine J2 ?_;refine jt ?_;refine kB rfl rfl ?_;exact⟨⟨_,rfl,⟨λ_=>by rw[hx];exact kE l i 0 hlt,λ_=>oO⟩⟩,rfl⟩
  ·refine lx rfl (ae hx) ?_;refine V2 ?_;exact⟨i+1,_,rfl,⟨hlt,by rw[ht,bO,aZ];exact λg=>g.elim hn hx,h0,h1,h7,vi rfl oO,rfl⟩,oO⟩
 ·refine J1 ?_;refine jt ?_;obtain rfl:i=l.length:=oO;rw[bR]at hn;refine J1 ?_;refine jt ?_;refine kB rfl rfl ?_;exact⟨⟨_,rfl,⟨λh=>oO,λh=>absurd h hn⟩⟩,rfl⟩
theorem FH (v:Value) (l:List Int) (x:Int) (w:World) (hv:Sl sK 1 w v l):
  lU Tryz.prog 139 #[v,.int .i64 x] w λr w'=>r= .bool (decide (x∈l))/\w'=w:=by
 refine enter Tryz.func139 rfl Tryz.ntmps139 rfl ?_;refine J3 ?_;refine jh (j6 Tryz.call172 rfl (M1 v l x _ hv) ?_);rintro r w3 ⟨⟨k,rfl,hk⟩,rfl⟩;refine J2 ?_;refine jt ?_;refine kB rfl rfl ?_;exact⟨bQ Value.bool (en.2 hk),rfl⟩
theorem PA {P:List Nat} {f:Nat}:(f:Int)∈nI P↔f∈P:=by
 unfold nI;rw[bX];constructor
 ·rintro⟨a,ha,e⟩;rw[<-Int.natCast_inj.1 e];exact ha
 ·intro h;exact⟨f,h,rfl⟩
def MH (P:List Nat) (n:Nat):List Nat:=(List.range n).filter λf=> !decide (f∈P)
theorem PF (P:List Nat) (n:Nat):MH P (n+1)=if n∈P then MH P n else MH P n++[n]:=by
 unfold MH;rw[iT,ij];by_cases h:n∈P
 ·rw[aj h,List.filter_cons_of_neg (by simp[h])];simp
 ·rw[ah h,List.filter_cons_of_pos (by simp[h])];rfl
def qG (M:Mx) (P:List Nat) (m f:Nat):List RR:=ky m λj=>j8 (kv P M f j)
def It (A:List (List RR)):List (List RR):=if tV A=0 then(MH (FW A).P (mX A)).map (qG (FW A).M (FW A).P (mX A))else []
def T3 {α:Type} (R:List (Rw α)):Prop:=∀r∈R,r.X.length<=r.cap/\r.cap<=9223372036854775807
theorem P5 {α:Type} {enc:α->List Value} {size:Nat} (hu:∀x,(enc x).length=size) {t tS:TypeId} {R:List (Rw α)} {vo:Value} {LO:List kU} {w0 w:World} (hok:T3 R) (hG:Gl rK tS 1 vo (R.map Rw.v) LO) (hS:St w0 w (R.map (Rw.xO enc t)++LO)):
  rJ enc size w vo (R.map (·.X)) (R.map Rw.v):=by
 refine⟨by rw[aS,aS],hG.sl hS (λ_=>rfl),λi hi=> ?_⟩;rw[aS]at hi;have hr:=hok _ (kE R i ov hi);have hk:(R.map (Rw.xO enc t)++LO)[i]?=some ((R.getD i ov).b,t,(R.getD i ov).X.flatMap enc++(R.getD i ov).sp):=by
  rw[dq (by rw[aS];exact hi),iz,aJ hi,nu R ov hi];rfl
 have h:=hS.WQ hk hu (n:=(R.getD i ov).X.length) (cap:=(R.getD i ov).cap) (aH _) hr.1 hr.2;rw[aV (aH _)]at h;have e1:(R.map Rw.v).getD i undef=(R.getD i ov).v:=by rw[ap,Cb hi];rfl
 have e2:(R.map (·.X)).getD i []=(R.getD i ov).X:=by rw[nu _ _ (by rw[aS];exact hi),ew,nu R ov hi]
 rw[e1,e2];exact h
def PK (P:List Nat) (M:Mx) (f k j:Nat):Rat:=if j=f then 1 else if j∈P.take k then-M (P.idxOf j) f else 0
theorem RL (P:List Nat) (M:Mx) (f j:Nat):PK P M f P.length j=kv P M f j:=by unfold PK kv;rw[bR]
theorem RK {P:List Nat} {M:Mx} {f k m:Nat} (hi:P.Pairwise (· < ·)) (hf:f∉P) (hk:k<P.length):(ky m λj=>j8 (PK P M f k j)).set (P.getD k 0) (j8 (-M k f))=ky m λj=>j8 (PK P M f (k+1) j):=by
 rw[yJ];refine kF λj _=> ?_;congr 1;have ht:=lE P k 0 hk;unfold PK;by_cases h:j=P.getD k 0
 ·have hm:P.getD k 0∈P:=kE P k 0 hk;rw[aj h,h,ah (λe=>hf (by rw[<-e];exact hm)),ht,aj (by simp)];have:P.idxOf (P.getD k 0)=k:=by
   rw[nu P 0 hk];exact(xA hi).idxOf_getElem k hk
  rw[this]
 ·rw[ah h];by_cases h2:j=f
  ·rw[aj h2,aj h2]
  ·rw[ah h2,ah h2,ht];by_cases h3:j∈P.take k
   ·rw[aj h3,aj (gR _ h3)]
   ·rw[ah h3,ah (λe=>by
     rcases bO.1 e with g|g
     ·exact h3 g
     ·exact h (aZ.1 g))]
theorem PD {m f:Nat} (P:List Nat) (M:Mx):(List.replicate m kP).set f (j8 ((1:Int):Rat))=ky m λj=>j8 (PK P M f 0 j):=by
 rw[t9,nt];refine kF λj _=> ?_;unfold PK;by_cases h:j=f
 ·rw[aj h,aj h];rfl
 ·rw[ah h,ah h,fh,ah (by simp),ol];rfl
theorem JA (v:Value) (A:List (List RR)) (vs:List Value) (K:Nat) (w:World) (hA:rJ j5 3 w v A vs) (hB:Ms K A) (hK:8*BB K A.length<=MX):
  lU Tryz.prog 102 #[v] w λr w'=>(∃v' vs',r= .tuple #[v',.int .i64 (tV A)]/\rJ j5 3 w' v' (It A) vs')/\Below w.heap.size w w':=by
 have hM:MX=1099511627776:=rfl;have hS:=St.init w;refine enter Tryz.func102 rfl Tryz.ntmps102 rfl ?_;refine J3 ?_;refine jh (j6 Tryz.call138 rfl (I9 v A vs K _ (hA.j4 hS.j4) hB hK) ?_);rintro r w2 ⟨⟨v',vs',vp,rfl,hm,hp⟩,hB2⟩;replace hS:=hS.km hB2;refine V9 ?_;by_cases he:tV A≠0
 ·have e1:It A=[]:=ah he;rw[e1];refine J4 ?_;refine jt ?_;refine rD rfl rfl rfl ?_;exact⟨⟨_,[],rfl,rJ.nil _ _ _⟩,hS.j4⟩
 replace he:=fv.1 he;obtain⟨h1,h2,h3,h4,h5⟩:=xp he;have e1:It A=(MH (FW A).P (mX A)).map (qG (FW A).M (FW A).P (mX A)):=aj he;have e2:Wg A=ws A.length (mX A) (qM (FW A).M):=aj he;have e3:Wa A=(FW A).P:=aj he;have hI:Mb A.length (mX A) (FW A):=rinv A.length (RM A) (mX A);have hLs:=(GT (n:=A.length) (M:=RM A) (K:=K) (λi hi j hj=>Mk hB hi (by rw[h5 i hi];exact hj)) (mX A) (aH _)).1;have hbk:=hK;have hbm:=Bn K hI.len;change∀i,i<A.length->∀j,j<mX A->L ((FW A).M i j)+1<=BB K (FW A).P.length at hLs;rw[e1];rw[e2]at hm;rw[e3]at hp;obtain⟨n,hn⟩:=jz A.length;obtain⟨m,hm'⟩:∃m,m=mX A:=⟨_,rfl⟩;obtain⟨s,hs⟩:=jz (FW A);rw[<-hn,<-hm',<-hs]at hI hm;rw[<-hn,<-hm',<-hs]at hLs;rw[<-hs]at hp hbm;rw[<-hn]at h1 h2 hbk hbm;rw[<-hm']at h3 h4;rw[<-hm',<-hs,he];refine V1 ?_;have hf0:=hm.row 0 (by rw[mQ];omega);rw[pD _ oO]at hf0;have htl0:=j9 m (qM s.M 0);have hsl:=hm.sl;have hvl:=hm.len;rw[mQ]at hvl;have hS0:=hS;refine J2 ?_;refine jp (kj (i:=0) rfl rfl hsl oO dO lH (jq (kt (i:=0) undef rfl lQ hsl dO rfl rfl (.inr rfl) (jp (ki rfl hf0 ⟨_,Tryz.underlying34⟩ ?_)))));refine J1 ?_;refine jb ?_;refine kx (λρ w'=>∃vo LO R,ρ 7=vo/\T3 R/\R.map (·.X)=(MH s.P m).map (qG s.M s.P m)/\Gl rK 34 1 vo (R.map Rw.v) LO/\St w2 w' (R.map (Rw.xO j5 32)++LO)) ?_ ?_
 ·refine ja ?_;refine ku (σ:=Nat) (λf ρ w'=>f<=m/\ρ 4=v'/\ρ 5=vp/\ρ 24=iB m/\ρ 25=iB f/\∃vo LO R,ρ 7=vo/\T3 R/\R.map (·.X)=(MH s.P f).map (qG s.M s.P m)/\Gl rK 34 1 vo (R.map Rw.v) LO/\St w2 w' (R.map (Rw.xO j5 32)++LO)) (λf=>m-f) 0
   ⟨aB _,rfl,rfl,vi rfl oO,rfl,_,[],[],rfl,(λ_ h=>by cases h),rfl,Gl.nil _ _ _,St.init w2⟩ ?_
  rintro f ρ w3 ⟨hf,h4',h5',h24,h25,vo,LO,R,h7,hok,hRX,hG,hT⟩;clear hS;have hS:=hT;clear hT;refine V1 ?_;by_cases hlt:f<m
  ·refine J5 ?_;refine jh (j6 Tryz.call139 rfl (FH vp (nI s.P) f _ (hp.j4 hS.j4)) ?_);rintro _ wq1 ⟨rfl,hq1⟩;replace hq1:=hq1.symm;subst hq1;refine ja ?_;have hfs:=PF s.P f;by_cases hfP:f∈s.P
   ·rw[aj hfP]at hfs;refine k9 rfl (ao (PA.2 hfP)) ?_;refine V2 ?_;exact⟨f+1,_,rfl,⟨hlt,jY,jY,jY,vi rfl oO,vo,LO,R,jY,hok,by rw[hfs];exact hRX,hG,hS⟩,oO⟩
   ·rw[ah hfP]at hfs;refine lx rfl (ae (λh=>hfP (PA.1 h))) ?_;refine ja ?_;have hnl:=rT s.P;refine J1 ?_;refine jp (kj (i:=0) rfl rfl (hsl.j4 hS.j4) oO dO lH (jq (kt (i:=0) undef rfl lQ (hsl.j4 hS.j4) dO rfl rfl (.inr rfl) (jp (ki rfl (hf0.j4 hS.j4) ⟨_,Tryz.underlying34⟩ (jh (lR (enc:=j5) (n:=m) kP rfl rfl kK rfl oO oO oO oO hS ?_)))))));intro b35 wz2 hS hBz2;refine J3 ?_;refine jh (j6 Tryz.call33 rfl (mI 1 _ dD dD) ?_);rintro _ wc3 ⟨rfl,hBc3⟩;replace hS:=hS.km hBc3;refine jp (kD (i:=f) rfl rfl oO dO kK ?_);refine jh (zp (k:=0) (i:=f) (enc:=j5) (j8 ((1:Int):Rat)) (λ_=>rfl) rfl rfl kf hS rfl (by first|omega|simp) dO rfl rfl ?_);intro wz4 hS;refine ja ?_;replace hS:St w2 _ ((b35,32,((List.replicate m kP).set f (j8 ((1:Int):Rat))).flatMap j5)::(R.map (Rw.xO j5 32)++LO)):=hS;rw[PD s.P s.M]at hS;refine J1 ?_;refine jp (ki rfl (hp.j4 hS.j4) ⟨_,Tryz.underlying46⟩ ?_);refine J1 ?_;refine jb ?_;refine kx (λρ w'=>ρ 4=v'/\ρ 5=vp/\ρ 7=vo/\ρ 9= .slice (some ⟨b35,0,none⟩) m m/\ρ 24=iB m/\ρ 25=iB f/\St w2 w' ((b35,32,(qG s.M s.P m f).flatMap j5)::(R.map (Rw.xO j5 32)++LO))) ?_ ?_
    ·refine ja ?_;refine ku (σ:=Nat) (λk ρ w'=>k<=s.P.length/\ρ 4=v'/\ρ 5=vp/\ρ 7=vo/\ρ 8=iB f/\ρ 9= .slice (some ⟨b35,0,none⟩) m m/\ρ 24=iB m/\ρ 25=iB f/\ρ 40=vp/\ρ 41=iB s.P.length/\ρ 42=iB k/\St w2 w' ((b35,32,(ky m λj=>j8 (PK s.P s.M f k j)).flatMap j5)::(R.map (Rw.xO j5 32)++LO))) (λk=>s.P.length-k) 0
      ⟨aB _,jY,jY,jY,rfl,rfl,jY,jY,rfl,vi rfl oO,rfl,hS⟩ ?_
     clear hS;rintro k ρ w4 ⟨hk,h4',h5',h7,h8,h9,h24,h25,h40,h41,h42,hS⟩;have htl:=j9 m λj=>j8 (PK s.P s.M f k j);refine V1 ?_;by_cases hkl:k<s.P.length
     ·refine V1 ?_;have hrk:=hm.row k (by rw[mQ];have:=hI.len;omega);have hkn:k<n:=by have:=hI.len;omega
      rw[pD _ hkn]at hrk;have htk:=j9 m (qM s.M k);have hgk:(ky m (qM s.M k)).getD f kP=j8 (s.M k f):=kz _ _ hlt;have hpk:s.P.getD k 0<m:=hI.lt _ (kE _ _ _ hkl);have hpv:(nI s.P).getD k 0=((s.P.getD k 0:Nat):Int):=by
       unfold nI;rw[nu _ _ (by rw[aS];exact hkl),ew,nu s.P 0 hkl]
      have hLk:=hLs k hkn f hlt;have hneg:=λw=>yq (j8 (s.M k f)) w (by rw[Lr_ofQ];omega);rw[toQ_ofQ]at hneg;refine J1 ?_;refine jp (kj (i:=k) h40 h42 (hp.j4 hS.j4) oO dO py (jq (kt (i:=k) 0 rfl nm (hp.j4 hS.j4) dO rfl rfl (.inr rfl) ?_)));refine V2 ?_;rw[hpv];refine J4 ?_;refine jp (kj (i:=k) rfl rfl (hsl.j4 hS.j4) oO dO lH (jq (kt (i:=k) undef rfl lQ (hsl.j4 hS.j4) dO rfl rfl (.inr rfl) ?_)));refine J1 ?_;refine jp (kj (i:=f) rfl rfl (hrk.j4 hS.j4) oO dO kK (jq (kt (i:=f) kP rfl kf (hrk.j4 hS.j4) dO rfl rfl (.inl rfl) ?_)));rw[hgk];refine jh (j6 Tryz.call105 rfl (hneg _) ?_);rintro _ wc5 ⟨rfl,hBc5⟩;replace hS:=hS.km hBc5;refine jp (kD (i:=(s.P.getD k 0)) rfl rfl oO dO kK ?_);refine jh (zp (k:=0) (i:=(s.P.getD k 0)) (enc:=j5) (j8 (-s.M k f)) (λ_=>rfl) rfl rfl kf hS rfl (by first|omega|simp) dO rfl rfl ?_);intro wz6 hS;refine ja ?_;replace hS:St w2 _ ((b35,32,((ky m λj=>j8 (PK s.P s.M f k j)).set (s.P.getD k 0) (j8 (-s.M k f))).flatMap j5)::(R.map (Rw.xO j5 32)++LO)):=hS;rw[RK hI.inc hfP hkl]at hS;refine V2 ?_;exact⟨k+1,_,rfl,⟨hkl,jY,jY,jY,jY,jY,jY,jY,jY,jY,vi rfl oO,hS⟩,oO⟩
     ·refine J1 ?_;refine jt ?_;obtain rfl:k=s.P.length:=oO;have ek:(ky m λj=>j8 (PK s.P s.M f s.P.length j))=qG s.M s.P m f:=kF λj _=>by rw[RL]
      rw[ek]at hS;exact⟨_,rfl,h4',h5',h7,h9,h24,h25,hS⟩
    clear hS;rintro ρ w4 ⟨h4',h5',h7,h9,h24,h25,hS⟩;have hkl:=j9 m λj=>j8 (kv s.P s.M f j);have hvn:(R.map Rw.v).length=R.length:=aS _;have hRl:R.length<=f:=by
     have:=bQ List.length hRX;rw[aS,aS]at this;have h2:=iY (λf=> !decide (f∈s.P)) (List.range f);rw[dI]at h2;unfold MH at this;omega
    refine ja ?_;rw[<-bW]at hS;refine J2 ?_;refine jh (mD (vs:=[.slice (some ⟨b35,0,none⟩) m m]) rfl lH rfl dD dD dD (by simp[Value.cells]) rfl hS ?_);intro b7 wz8 hS hBz8;refine jh (mf [Value.slice (some ⟨b35,0,none⟩) m m] rfl rfl lH dD hG hS rfl rfl (λ_=>rfl) (λu hu=>by rw[aZ.1 (show u∈[Value.slice (some ⟨b35,0,none⟩) m m]from hu)];rfl) dL dL ?_);intro va9 La9 wa9 hG hS hga9;refine V3 ?_;obtain⟨nr,hnr⟩:∃nr:Rw RR,nr=⟨b35,m,qG s.M s.P m f,[]⟩:=⟨_,rfl⟩;have evv:R.map Rw.v++[Value.slice (some ⟨b35,0,none⟩) m m]=(R++[nr]).map Rw.v:=by
     rw[bH,hnr];show _=R.map Rw.v++[Value.slice (some ⟨b35,0,none⟩) (qG s.M s.P m f).length m];unfold qG;rw[hkl]
    have eb:∀T:List kU,((b35,32,(qG s.M s.P m f).flatMap j5)::R.map (Rw.xO j5 32)++T).Perm ((R++[nr]).map (Rw.xO j5 32)++T):=by
     intro T;have:List.map (Rw.xO j5 32) [nr]=[(b35,32,(qG s.M s.P m f).flatMap j5)]:=by
      rw[hnr];show [(b35,32,(qG s.M s.P m f).flatMap j5++[])]=_;rw[aU]
     rw[bH,this];exact bU _ (eD _ _).symm
    rw[evv]at hG;have hS2:=hS.perm (eb _);refine⟨f+1,_,rfl,⟨hlt,jY,jY,jY,vi rfl oO,_,_,R++[nr],rfl,?_,?_,hG,hS2⟩,oO⟩
    ·intro r hr;rcases bO.1 hr with g|g
     ·exact hok r g
     ·rw[aZ.1 g,hnr];exact⟨by show(qG s.M s.P m f).length<=m;unfold qG;omega,by show m<=_;omega⟩
    ·rw[hfs,bH,bH,hRX,hnr];rfl
  ·refine J1 ?_;refine jt ?_;obtain rfl:f=m:=oO;exact⟨_,rfl,vo,LO,R,h7,hok,hRX,hG,hS⟩
 clear hS;rintro ρ w3 ⟨vo,LO,R,h7,hok,hRX,hG,hS⟩;refine ja ?_;have hmt:=P5 (size:=3) ks hok hG hS;rw[hRX]at hmt;refine J3 ?_;refine jt ?_;refine rD rfl rfl rfl ?_;exact⟨⟨vo,_,rfl,hmt⟩,hS0.j4.trans (hS.j4.mono hS0.j4.size)⟩
structure ZZ where
 neg:Bool
 mag:Nat
def mH (z:ZZ):List Value:=[.bool z.neg,.string (kG z.mag)]
def Dq (z:ZZ):Value:= .agg #[.bool z.neg,.string (kG z.mag)]
def Ap:ZZ:=⟨false,0⟩
theorem mR:∀z,(mH z).length=2:=λ_=>rfl
theorem Ag:mH Ap=[.bool false,.string ⟨#[]⟩]:=by
 have:kG 0=⟨#[]⟩:=n4.2 rfl;show [Value.bool false,.string (kG 0)]=_;rw[this]
def zv (z:ZZ):Int:=sg z.neg z.mag
def x6 (z:ZZ):Nat:=(kG z.mag).size
def sO (a b:ZZ):ZZ:=⟨a.neg !=b.neg,a.mag*b.mag⟩
def sJ (a b:ZZ):ZZ:=if a.neg≠b.neg then⟨a.neg,a.mag+b.mag⟩else if b.mag<=a.mag then⟨a.neg,a.mag-b.mag⟩else⟨!a.neg,b.mag-a.mag⟩
def HX (a b:ZZ):ZZ:=⟨a.neg !=b.neg,a.mag/b.mag⟩
theorem Hl (a b:ZZ):zv (sO a b)=zv a*zv b:=by
 obtain⟨x,m⟩:=a;obtain⟨y,n⟩:=b;unfold zv sO sg;cases x<;>cases y<;>simp[jV,Int.mul_neg]
theorem PE (a b:ZZ):zv (sJ a b)=zv a-zv b:=by
 obtain⟨x,m⟩:=a;obtain⟨y,n⟩:=b;unfold zv sJ sg;by_cases h:n<=m
 ·cases x<;>cases y<;>simp[h]<;>omega
 ·cases x<;>cases y<;>simp[h]<;>omega
theorem R3 (a b:ZZ):zv (HX a b)=(zv a).tdiv (zv b):=by
 obtain⟨x,m⟩:=a;obtain⟨y,n⟩:=b;unfold zv HX sg;cases x<;>cases y<;>simp[Int.neg_tdiv,Int.tdiv_neg]
theorem O8 {z:ZZ}:zv z=0↔z.mag=0:=by
 unfold zv sg;split<;>omega
theorem xr (a b:ZZ):x6 (sO a b)<=x6 a+x6 b:=lJ _ _
theorem Em (a b:ZZ):x6 (sJ a b)<=max (x6 a) (x6 b)+1:=by
 unfold sJ x6;split
 ·exact uv _ _
 ·split
  ·have:=lP (Nat.sub_le a.mag b.mag);show(kG (a.mag-b.mag)).size<=_;omega
  ·have:=lP (Nat.sub_le b.mag a.mag);show(kG (b.mag-a.mag)).size<=_;omega
theorem N8 (a b:ZZ):x6 (HX a b)<=x6 a:=lP (dE _ _)
theorem N2:x6 Ap=0:=by
 show(kG 0).size=0;rw[n4.2 rfl];rfl
theorem u5 (b:Bool) (s:ByteArray):Tryz.prog.built 223 [(0,.bool b),(1,.string s)]=some #[.bool b,.string s]:=by kernel_rfl
theorem D7 (a b:ZZ) (w:World) (ha:x6 a<=4398046511104) (hb:x6 b<=4398046511104):
  lU Tryz.prog 174 #[Dq a,Dq b] w λv w'=>v=Dq (sO a b)/\Below w.heap.size w w':=by
 have hS:=St.init w;refine enter Tryz.func174 rfl Tryz.ntmps174 rfl ?_;refine jr ?_;refine jh (kZ (new:=mH a) rfl rfl hS ?_);intro b1 wz2 hS hBz2;refine jh (kZ (new:=mH b) rfl rfl hS ?_);intro b3 wz4 hS hBz4;refine J1 ?_;intro b5 wz6 hS hBz6;refine ja ?_;refine kC [jo 0,ju 1,jo 2,ju 3,jo 4,jo 5,ju 6,jo 7,ju 8,jv 9,jo 10,jw 11] kR kR hS ?_;intro wz7 hS hBz7;refine J4 ?_;refine jl rfl (Cd rfl rfl Tryz.underlying4 ?_);refine J4 ?_;refine jn rfl (j6 Tryz.call30 rfl (vZ a.mag b.mag _ ha hb) ?_);rintro _ wc8 ⟨rfl,hBc8⟩;replace hS:=hS.km hBc8;refine⟨hBc8,?_⟩;refine jl rfl (kT rfl (u5 _ _) ?_);refine J1 ?_;intro wz9 hS;refine jt ?_;refine mb (k:=0) rfl rfl oP hS rfl rfl ?_;exact⟨rfl,hS.j4⟩
theorem M9 (a b:ZZ) (w:World) (ha:x6 a<=4398046511104) (hb:x6 b<=4398046511104):
  lU Tryz.prog 175 #[Dq a,Dq b] w λv w'=>v=Dq (sJ a b)/\Below w.heap.size w w':=by
 have hS:=St.init w;refine enter Tryz.func175 rfl Tryz.ntmps175 rfl ?_;refine jr ?_;refine jh (kZ (new:=mH a) rfl rfl hS ?_);intro b1 wz2 hS hBz2;refine jh (kZ (new:=mH b) rfl rfl hS ?_);intro b3 wz4 hS hBz4;refine J1 ?_;intro b5 wz6 hS hBz6;refine J4 ?_;refine jp (Cd rfl rfl Tryz.underlying4 ?_);refine ja ?_;by_cases hn:a.neg≠b.neg
 ·have e:sJ a b=⟨a.neg,a.mag+b.mag⟩:=aj hn;rw[e];refine k9 rfl (by simpa using hn) ?_;refine ja ?_;refine kC [jo 0,ju 1,jo 2,ju 3,jo 4,ju 5,jv 6,jo 7,jw 8] kR kR hS ?_;intro wz7 hS hBz7;refine J6 ?_;refine jn rfl (j6 Tryz.call74 rfl (Sq a.mag b.mag _ ha hb) ?_);rintro _ wc8 ⟨rfl,hBc8⟩;replace hS:=hS.km hBc8;refine⟨hBc8,?_⟩;refine jl rfl (kT rfl (u5 _ _) ?_);refine J1 ?_;intro wz9 hS;refine jt ?_;refine mb (k:=0) rfl rfl oP hS rfl rfl ?_;exact⟨rfl,hS.j4⟩
 refine lx rfl (by simpa using hn) ?_;refine J4 ?_;by_cases hle:b.mag<=a.mag
 ·have e:sJ a b=⟨a.neg,a.mag-b.mag⟩:=by unfold sJ;rw[ah hn,aj hle]
  rw[e];refine jh (j6 Tryz.call75 rfl (Ky a.mag b.mag _ ha hb hle) ?_);rintro _ wc10 ⟨rfl,hBc10⟩;replace hS:=hS.km hBc10;refine V6 ?_;refine k9 rfl (rfl) ?_;refine J3 ?_;refine jp (kT rfl (u5 _ _) ?_);refine J1 ?_;intro wz11 hS;refine jt ?_;refine mb (k:=0) rfl rfl oP hS rfl rfl ?_;exact⟨rfl,hS.j4⟩
 ·have e:sJ a b=⟨!a.neg,b.mag-a.mag⟩:=by unfold sJ;rw[ah hn,ah hle]
  rw[e];refine jh (j6 Tryz.call75 rfl (GA a.mag b.mag _ ha hb oO) ?_);rintro _ wc12 ⟨rfl,hBc12⟩;replace hS:=hS.km hBc12;refine V6 ?_;refine lx rfl (rfl) ?_;refine J4 ?_;refine jh (j6 Tryz.call75 rfl (Ky b.mag a.mag _ hb ha oO) ?_);rintro _ wc13 ⟨rfl,hBc13⟩;replace hS:=hS.km hBc13;refine J9 ?_;refine jp (kT rfl (u5 _ _) ?_);refine J1 ?_;intro wz14 hS;refine jt ?_;refine mb (k:=0) rfl rfl oP hS rfl rfl ?_;exact⟨rfl,hS.j4⟩
theorem PV (a b:ZZ) (w:World) (ha:x6 a<=4398046511104) (hb:x6 b<=4398046511104) (h0:b.mag≠0):
  lU Tryz.prog 176 #[Dq a,Dq b] w λv w'=>v=Dq (HX a b)/\Below w.heap.size w w':=by
 have hS:=St.init w;refine enter Tryz.func176 rfl Tryz.ntmps176 rfl ?_;refine jr ?_;refine jh (kZ (new:=mH a) rfl rfl hS ?_);intro b1 wz2 hS hBz2;refine jh (kZ (new:=mH b) rfl rfl hS ?_);intro b3 wz4 hS hBz4;refine J1 ?_;intro b5 wz6 hS hBz6;refine J4 ?_;refine jh (j6 Tryz.call68 rfl (Hc a.mag b.mag _ ha hb h0) ?_);rintro _ wc7 ⟨rfl,hBc7⟩;replace hS:=hS.km hBc7;refine WW ?_;refine jp (Cd rfl rfl Tryz.underlying4 ?_);refine J1 ?_;refine jp (kT rfl (u5 _ _) ?_);refine J1 ?_;intro wz8 hS;refine jt ?_;refine mb (k:=0) rfl rfl oP hS rfl rfl ?_;exact⟨rfl,hS.j4⟩
theorem xa (q:Rat) (w:World):
  lU Tryz.prog 173 #[kW (j8 q)] w λv w'=>v= .string (kG q.den)/\Below w.heap.size w w':=by
 have hS:=St.init w;refine enter Tryz.func173 rfl Tryz.ntmps173 rfl ?_;refine jr ?_;refine jh (kZ (new:=j5 (j8 q)) rfl rfl hS ?_);intro b1 wz2 hS hBz2;refine J3 ?_;refine jp (sW rfl rfl ?_);refine ja ?_;by_cases h:q.den=1
 ·refine k9 rfl (ao (by show(if q.den=1 then(⟨#[]⟩:ByteArray)else kG q.den)=_;rw[aj h])) ?_;refine jr ?_;refine jh (j6 Tryz.call113 rfl (sj 1 _ dD) ?_);rintro _ wc3 ⟨rfl,hBc3⟩;replace hS:=hS.km hBc3;refine J1 ?_;refine jt ?_;refine kB rfl rfl ?_;exact⟨by rw[h];rfl,hS.j4⟩
 ·have hd:(j8 q).den=kG q.den:=ah h;refine lx rfl (ae (by rw[hd];exact λg=>q.den_nz (n4.1 g))) ?_;refine J3 ?_;refine jt ?_;refine kB rfl rfl ?_;exact⟨bQ Value.string hd,hS.j4⟩
def u9 (q:Nat->Rat):Nat->Nat
 |0=>1
 |j+1=>u9 q j*((q j).den/Nat.gcd (u9 q j) (q j).den)
theorem BF (q:Nat->Rat):∀j,0<u9 q j
 |0=>Nat.one_pos
 |j+1=>dK (BF q j) (ix (Nat.le_of_dvd (q j).den_pos (fq _ _)) (Nat.gcd_pos_of_pos_left _ (BF q j)))
theorem QE (q:Nat->Rat) (j:Nat):u9 q j∣u9 q (j+1):=⟨_,rfl⟩
theorem Rl (q:Nat->Rat) (j:Nat):(q j).den∣u9 q (j+1):=by
 obtain⟨a,ha⟩:=iK (u9 q j) (q j).den;have hg:Nat.gcd (u9 q j) (q j).den*((q j).den/Nat.gcd (u9 q j) (q j).den)=(q j).den:=jj (fq _ _);refine⟨a,?_⟩;show u9 q j*((q j).den/Nat.gcd (u9 q j) (q j).den)=_;conv=>lhs;lhs;rw[ha]
 conv=>rhs;lhs;rw[<-hg]
 rw[bk,bk,bF a]
theorem GH (q:Nat->Rat) {i:Nat}:∀ {j:Nat},i<=j->u9 q i∣u9 q j
 |0,h=>by obtain rfl:i=0:=oO;exact Nat.dvd_refl _
 |j+1,h=>by
  by_cases e:i=j+1
  ·rw[e];exact Nat.dvd_refl _
  ·exact ey (GH q oO) (QE q j)
theorem RU (q:Nat->Rat) {j m:Nat} (h:j<m):(q j).den∣u9 q m:=ey (Rl q j) (GH q h)
def Um (q:Nat->Rat) (j:Nat):Nat:=(kG (u9 q j)).size
theorem I4 {q:Nat->Rat} {K m:Nat} (h:∀j,j<m->L (q j)<=K):∀j,j<=m->Um q j<=1+j*K
 |0,_=>by show(kG 1).size<=_;rw[pH];omega
 |j+1,hj=>by
  have ih:=I4 h j oO;have h1:=lJ (u9 q j) ((q j).den/Nat.gcd (u9 q j) (q j).den);have h2:=lP (dE (q j).den (Nat.gcd (u9 q j) (q j).den));have h3:=s9 (q j);have h4:=h j oO;show(kG (u9 q j*((q j).den/Nat.gcd (u9 q j) (q j).den))).size<=_;unfold Um at ih;rw[bA];omega
def Ip (q:Nat->Rat) (m j:Nat):ZZ:=⟨decide ((q j).num<0),(q j).num.natAbs*(u9 q m/(q j).den)⟩
theorem Q5 (b:Bool) (x y:Nat):sg b (x*y)=sg b x*(y:Int):=by
 unfold sg;cases b<;>simp[jV]
theorem QF (q:Nat->Rat) {m j:Nat} (h:j<m):((zv (Ip q m j):Int):Rat)=((u9 q m:Int):Rat)*q j:=by
 obtain⟨c,hc⟩:=RU q h;have hd:=(q j).den_pos;have e:u9 q m/(q j).den=c:=by rw[hc];exact Nat.mul_div_cancel_left _ hd
 unfold zv Ip;rw[e,Q5,C2,hc];have hq:q j=((q j).num:Rat)/(((q j).den:Int):Rat):=by
  conv=>lhs;rw[<-eC (q j),fB]
  rfl
 have hd0:((((q j).den:Nat):Int):Rat)≠0:=λe=>by
  have:=gT.1 (show(((q j).den:Int):Rat)=((0:Int):Rat)from e);omega
 conv=>rhs;rhs;rw[hq]
 rw[gX,eG,eG,bT];have:=bY _ hd0;grind
theorem Pk {q:Nat->Rat} {K m j:Nat} (h:∀j,j<m->L (q j)<=K) (hj:j<m):x6 (Ip q m j)<=K+Um q m:=by
 have h1:=lJ (q j).num.natAbs (u9 q m/(q j).den);have h2:=lP (dE (u9 q m) (q j).den);have h3:=tG (q j);have h4:=h j hj;unfold x6 Um;show(kG ((q j).num.natAbs*(u9 q m/(q j).den))).size<=_;omega
theorem WD (n:Nat):rep n [Value.bool false,.string ⟨#[]⟩]=(List.replicate n Ap).flatMap mH:=by
 rw[<-Ag,GO]
def AO (q:Nat->Rat) (m i j:Nat):ZZ:=if j<i then Ip q m j else Ap
theorem L5 (q:Nat->Rat) (m i:Nat):(ky m (AO q m i)).set i (Ip q m i)=ky m (AO q m (i+1)):=by
 rw[nt];refine kF λj _=> ?_;unfold AO;by_cases h:j=i
 ·rw[aj h,aj oO,h]
 ·rw[ah h];by_cases h2:j<i
  ·rw[aj h2,aj oO]
  ·rw[ah h2,ah oO]
theorem EZ (v:Value) (q:Nat->Rat) (m K:Nat) (w:World) (hv:Sl j5 3 w v (ky m λj=>j8 (q j))) (hm:m<=1000) (hL:∀j,j<m->L (q j)<=K) (hK:2000*K+2000<=MX):
  lU Tryz.prog 142 #[v] w λr w'=>(∃b,r= .slice (some ⟨b,0,none⟩) m m/\St w w' [(b,223,(ky m (Ip q m)).flatMap mH)])/\Below w.heap.size w w':=by
 have hM:MX=1099511627776:=rfl;have htl:=j9 m λj=>j8 (q j);have hget:∀j,j<m->(ky m λj=>j8 (q j)).getD j kP=j8 (q j):=λj hj=>kz _ _ hj;have hC:∀j,j<=m->Um q j<=1+1000*K:=λj hj=>dx (I4 hL j hj) (Nat.add_le_add_left (aO _ oO) _);have hS:=St.init w;refine enter Tryz.func142 rfl Tryz.ntmps142 rfl ?_;refine Y1 ?_;refine jh (j6 Tryz.call113 rfl (sj 1 _ dD) ?_);rintro _ wc1 ⟨rfl,hBc1⟩;replace hS:=hS.km hBc1;refine J2 ?_;refine jp (ki rfl (hv.j4 hS.j4) ⟨_,Tryz.underlying34⟩ ?_);refine J1 ?_;refine jb ?_;refine kx (λρ w'=>ρ 0=v/\ρ 3= .string (kG (u9 q m))/\St w w' []) ?_ ?_
 ·refine ja ?_;refine ku (σ:=Nat) (λi ρ w'=>i<=m/\ρ 0=v/\ρ 3= .string (kG (u9 q i))/\ρ 17=v/\ρ 18=iB m/\ρ 19=iB i/\St w w' []) (λi=>m-i) 0
   ⟨aB _,rfl,rfl,rfl,vi rfl oO,rfl,hS⟩ ?_
  clear hS;rintro i ρ w2 ⟨hi,h0,h3,h17,h18,h19,hS⟩;refine V1 ?_;by_cases hlt:i<m
  ·refine V1 ?_;have hCi:=hC i oO;have hLi:=hL i hlt;have hLd:=s9 (q i);unfold Um at hCi;have hgz:=lP (Nat.le_of_dvd (q i).den_pos (fq (u9 q i) (q i).den));have hdz:=lP (dE (q i).den (Nat.gcd (u9 q i) (q i).den));have hg0:Nat.gcd (u9 q i) (q i).den≠0:=Nat.pos_iff_ne_zero.1 (Nat.gcd_pos_of_pos_left _ (BF q i));refine jr ?_;refine jp (kj (i:=i) h17 h19 (hv.j4 hS.j4) oO dO kK (jq (kt (i:=i) kP rfl kf (hv.j4 hS.j4) dO rfl rfl (.inl rfl) ?_)));refine J1 ?_;intro b5 wz2 hS hBz2;refine J1 ?_;intro wz3 hS;refine ja ?_;rw[hget i hlt]at hS;refine J1 ?_;refine jh (j6 Tryz.call173 rfl (xa (q i) _) ?_);rintro _ wc4 ⟨rfl,hBc4⟩;replace hS:=hS.km hBc4;refine J4 ?_;refine jh (j6 Tryz.call67 rfl (SH _ _ _ oO oO) ?_);rintro _ wc5 ⟨rfl,hBc5⟩;replace hS:=hS.km hBc5;refine jh (j6 Tryz.call68 rfl (Hc _ _ _ oO oO hg0) ?_);rintro _ wc6 ⟨rfl,hBc6⟩;replace hS:=hS.km hBc6;refine J9 ?_;refine jh (j6 Tryz.call30 rfl (vZ _ _ _ oO oO) ?_);rintro _ wc7 ⟨rfl,hBc7⟩;replace hS:=hS.km hBc7;refine V3 ?_;exact⟨i+1,_,rfl,⟨hlt,jY,rfl,jY,jY,vi rfl oO,hS.drop (gJ _)⟩,oO⟩
  ·refine J1 ?_;refine jt ?_;obtain rfl:i=m:=oO;exact⟨_,rfl,h0,h3,hS⟩
 clear hS;rintro ρ w2 ⟨h0,h3,hS⟩;refine J1 ?_;refine jp (ki rfl (hv.j4 hS.j4) ⟨_,Tryz.underlying34⟩ (jh (Av (n:=m) rfl rfl ru oO oO oO oO hS ?_)));intro b40 wz8 hS hBz8;refine V1 ?_;replace hS:St w _ [(b40,223,rep m [Value.bool false,.string ⟨#[]⟩])]:=hS;rw[WD,t9,show(ky m λ_=>Ap)=ky m (AO q m 0)from kF λj _=>by unfold AO;rw[ah (aW _)]]at hS;refine J1 ?_;refine jp (ki rfl (hv.j4 hS.j4) ⟨_,Tryz.underlying34⟩ ?_);refine J1 ?_;refine jb ?_;refine kx (λρ w'=>ρ 10= .slice (some ⟨b40,0,none⟩) m m/\St w w' [(b40,223,(ky m (Ip q m)).flatMap mH)]) ?_ ?_
 ·refine ja ?_;refine ku (σ:=Nat) (λi ρ w'=>i<=m/\ρ 3= .string (kG (u9 q m))/\ρ 10= .slice (some ⟨b40,0,none⟩) m m/\ρ 41=v/\ρ 42=iB m/\ρ 43=iB i/\St w w' [(b40,223,(ky m (AO q m i)).flatMap mH)]) (λi=>m-i) 0
   ⟨aB _,h3,rfl,rfl,vi rfl oO,rfl,hS⟩ ?_
  clear hS;rintro i ρ w3 ⟨hi,h3,h10,h41,h42,h43,hS⟩;have htf:=j9 m (AO q m i);refine V1 ?_;by_cases hlt:i<m
  ·refine V1 ?_;have hCi:=hC m (aH _);have hLi:=hL i hlt;have hLd:=s9 (q i);have hLn:=tG (q i);unfold Um at hCi;have hdz:=lP (dE (u9 q m) (q i).den);refine J1 ?_;refine jp (kj (i:=i) h41 h43 (hv.j4 hS.j4) oO dO kK (jq (kt (i:=i) kP rfl kf (hv.j4 hS.j4) dO rfl rfl (.inl rfl) ?_)));refine J1 ?_;intro b12 wz9 hS hBz9;refine J2 ?_;intro wz10 hS;refine ja ?_;rw[hget i hlt]at hS;refine J2 ?_;refine jh (j6 Tryz.call173 rfl (xa (q i) _) ?_);rintro _ wc11 ⟨rfl,hBc11⟩;replace hS:=hS.km hBc11;refine jh (j6 Tryz.call68 rfl (Hc _ _ _ oO oO (q i).den_nz) ?_);rintro _ wc12 ⟨rfl,hBc12⟩;replace hS:=hS.km hBc12;refine V7 ?_;refine kC [jo 0,jo 1,jo 2,ju 3,jo 4,ju 5,jo 6,jv 7,jo 8,jo 9,jw 10] kR kR hS ?_;intro wz13 hS hBz13;refine J7 ?_;refine jn rfl (j6 Tryz.call30 rfl (vZ _ _ _ (by show(kG _).size<=_;omega) oO) ?_);rintro _ wc14 ⟨rfl,hBc14⟩;replace hS:=hS.km hBc14;refine⟨hBc14,?_⟩;refine jl rfl (kT rfl (u5 _ _) (jl rfl (kD (i:=i) rfl rfl oO dO ru ?_)));refine jx rfl (zp (k:=1) (i:=i) (enc:=mH) (Ip q m i) (λ_=>rfl) rfl rfl oP hS rfl (by first|omega|simp) dO rfl rfl ?_);intro wz15 hS;refine ja ?_;replace hS:=hS.drop (ab _ _);rw[L5]at hS;refine V2 ?_;exact⟨i+1,_,rfl,⟨hlt,jY,jY,jY,jY,vi rfl oO,hS⟩,oO⟩
  ·refine J1 ?_;refine jt ?_;obtain rfl:i=m:=oO;rw[show ky i (AO q i i)=ky i (Ip q i)from kF λj hj=>aj hj]at hS;exact⟨_,rfl,h10,hS⟩
 clear hS;rintro ρ w3 ⟨h10,hS⟩;refine J2 ?_;refine jt ?_;refine kB rfl rfl ?_;exact⟨⟨_,rfl,hS⟩,hS.j4⟩
abbrev MZ:=Nat->Nat->ZZ
def Jo (f:MZ) (k:Nat) (last:ZZ) (i j:Nat):ZZ:=HX (sJ (sO (f k k) (f i j)) (sO (f i k) (f k j))) last
def uM (f:MZ) (k:Nat) (last:ZZ):MZ:=λi j=>if i=k then f k j else if j=k then Ap else Jo f k last i j
def wH (f:MZ) (k:Nat) (last:ZZ) (i:Nat):MZ:=λa b=>if a<i then uM f k last a b else f a b
def AV (f:MZ) (k:Nat) (last:ZZ) (i j:Nat):MZ:=λa b=>if a=i/\b<j/\b≠k then Jo f k last i b else wH f k last i a b
theorem LW {f:MZ} {n m S:Nat} (h:∀i,i<n->∀j,j<m->x6 (f i j)<=S) {k i j:Nat} (last:ZZ) (hk:k<n) (hkm:k<m) (hi:i<n) (hj:j<m):x6 (Jo f k last i j)<=2*S+1:=by
 have h1:=N8 (sJ (sO (f k k) (f i j)) (sO (f i k) (f k j))) last;have h2:=Em (sO (f k k) (f i j)) (sO (f i k) (f k j));have h3:=xr (f k k) (f i j);have h4:=xr (f i k) (f k j);have:=h k hk k hkm;have:=h i hi j hj;have:=h i hi k hkm;have:=h k hk j hj;unfold Jo;omega
theorem JB {f:MZ} {n m S:Nat} (h:∀i,i<n->∀j,j<m->x6 (f i j)<=S) {k:Nat} (last:ZZ) (hk:k<n) (hkm:k<m):∀i,i<n->∀j,j<m->x6 (uM f k last i j)<=2*S+1:=by
 intro i hi j hj;unfold uM;split
 ·have:=h k hk j hj;omega
 ·split
  ·rw[N2];omega
  ·exact LW h last hk hkm hi hj
theorem Dn {R0:List (Rw ZZ)} {n m:Nat} {f:MZ} {w0:World} {bo:Nat} {H:List kU} (k:Nat) (last:ZZ) (S:Nat) (w:World) (hR0:mx R0 n m f) (hn:n<=1000) (hm:m<=1000) (hk:k<n) (hkm:k<m) (hf:∀i,i<n->∀j,j<m->x6 (f i j)<=S) (hls:x6 last<=S) (hl0:last.mag≠0) (hK:2*S+2<=MX) (hS:St w0 w (mB mH 223 220 bo R0 H)):
  lU Tryz.prog 145 #[.slice (some ⟨bo,0,none⟩) n n,.int .i64 k,Dq last] w λv w'=>v= .tuple #[]/\∃R',mx R' n m (uM f k last)/\St w0 w' (mB mH 223 220 bo R' H):=by
 have hM:MX=1099511627776:=rfl;have hlk0:k<R0.length:=by rw[hR0.len];exact hk
 have hxk0:=hR0.xQ hk;have hg0:(R0.getD k ov).X.getD k Ap=f k k:=hR0.get hk hkm _;refine enter Tryz.func145 rfl Tryz.ntmps145 rfl ?_;refine jr ?_;refine jh (kZ (new:=mH last) rfl rfl hS ?_);intro b5 wz1 hS hBz1;refine ja ?_;replace hS:St w0 _ ([(b5,223,mH last)]++mB mH 223 220 bo R0 H):=hS;refine J2 ?_;refine jp (kD (i:=k) rfl rfl oO dO rG (jq (nh [_] rfl rU hS oO hlk0 ?_)));refine J1 ?_;refine jp (kD (i:=k) rfl rfl oO dO ru (jq (qW [_] (i:=k) (j:=k) Ap mR rfl oP hS rfl hlk0 oO oO rfl (.inl rfl) ?_)));refine J1 ?_;intro b6 wz2 hS hBz2;refine J1 ?_;intro wz3 hS;refine ja ?_;rw[hg0]at hS;replace hS:St w0 _ ([(b6,223,mH (f k k)),(b5,223,mH last)]++mB mH 223 220 bo R0 H):=hS;refine ja ?_;refine nc (λρ'=>ρ' 0= .slice (some ⟨bo,0,none⟩) n n/\ρ' 1= .int .i64 k/\ρ' 5= .pointer (some ⟨b5,0,none⟩)/\ρ' 6= .pointer (some ⟨b6,0,none⟩)/\True) ⟨rfl,rfl,rfl,rfl,trivial⟩ ?_;rintro ρk4 ⟨hk4_0,hk4_1,hk4_5,hk4_6,-⟩;refine J3 ?_;refine jb ?_;refine kx (λρ w'=>∃R,mx R n m (wH f k last n)/\St w0 w' ([(b6,223,mH (f k k)),(b5,223,mH last)]++mB mH 223 220 bo R H)) ?_ ?_
 ·refine ja ?_;refine ku (σ:=Nat) (λi ρ w'=>i<=n/\ρ 0= .slice (some ⟨bo,0,none⟩) n n/\ρ 1=iB k/\ρ 5=pB b5/\ρ 6=pB b6/\ρ 18= .slice (some ⟨bo,0,none⟩) n n/\ρ 19=iB n/\ρ 20=iB i/\
   ∃R,mx R n m (wH f k last i)/\St w0 w' ([(b6,223,mH (f k k)),(b5,223,mH last)]++mB mH 223 220 bo R H)) (λi=>n-i) 0
   ⟨aB _,jY,jY,jY,jY,rfl,rfl,rfl,R0,hR0.congr λa _ b _=>(ah (aW _)).symm,hS⟩ ?_
  clear hS hlk0 hxk0 hg0;rintro i ρ w2 ⟨hi,h0,h1,h5,h6,h18,h19,h20,R,hR,hS⟩;refine V1 ?_;by_cases hlt:i<n
  ·refine V1 ?_;have hli:i<R.length:=by rw[hR.len];exact hlt
   have hlk:k<R.length:=by rw[hR.len];exact hk
   have hxi:=hR.xQ hlt;have hrow:∀b,b<m->wH f k last i i b=f i b:=λb _=>ah (dH _);have hrowk:∀b,b<m->wH f k last i k b=f k b:=λb _=>by
    unfold wH uM;split
    ·rw[aj rfl]
    ·rfl
   refine J1 ?_;refine jp (kD (i:=i) h18 h20 oO dO rG (jq (nh [_,_] rfl rU hS oO hli ?_)));refine V5 ?_;by_cases hik:i=k
   ·refine V3 ?_;refine⟨i+1,_,rfl,⟨hlt,jY,jY,jY,jY,jY,jY,vi rfl oO,R,hR.congr λa _ b hb=> ?_,hS⟩,oO⟩;by_cases e:a=i
    ·rw[e,hrow b hb];unfold wH uM;rw[aj oO,aj hik,hik]
    ·unfold wH;by_cases e2:a<i
     ·rw[aj e2,aj oO]
     ·rw[ah e2,ah oO]
   ·refine V1 ?_;have hgi:(R.getD i ov).X.getD k Ap=f i k:=by rw[hR.get hlt hkm];exact hrow k hkm
    refine J2 ?_;refine jp (kD (i:=k) rfl rfl oO dO ru (jq (qW [_,_] (i:=i) (j:=k) Ap mR rfl oP hS rfl hli oO oO rfl (.inl rfl) ?_)));refine J1 ?_;intro b9 wz5 hS hBz5;refine J1 ?_;intro wz6 hS;refine ja ?_;rw[hgi]at hS;replace hS:St w0 _ ([(b9,223,mH (f i k)),(b6,223,mH (f k k)),(b5,223,mH last)]++mB mH 223 220 bo R H):=hS;obtain⟨bi,hbi⟩:=jz ((R.getD i ov).b);obtain⟨ci,hci⟩:=jz ((R.getD i ov).cap);have hvi:=hR.v hlt;rw[<-hbi,<-hci]at hvi;rw[hvi];refine ja ?_;refine nc (λρ'=>ρ' 0= .slice (some ⟨bo,0,none⟩) n n/\ρ' 1= .int .i64 k/\ρ' 5= .pointer (some ⟨b5,0,none⟩)/\ρ' 6= .pointer (some ⟨b6,0,none⟩)/\ρ' 8= .slice (some ⟨bi,0,none⟩) m ci/\ρ' 9= .pointer (some ⟨b9,0,none⟩)/\ρ' 18= .slice (some ⟨bo,0,none⟩) n n/\ρ' 19= .int .i64 n/\ρ' 20= .int .i64 i/\True) ⟨h0,h1,h5,h6,rfl,rfl,h18,h19,h20,trivial⟩ ?_;rintro ρk7 ⟨hk7_0,hk7_1,hk7_5,hk7_6,hk7_8,hk7_9,hk7_18,hk7_19,hk7_20,-⟩;refine J3 ?_;refine jb ?_;refine kx (λρ w'=>ρ 0= .slice (some ⟨bo,0,none⟩) n n/\ρ 1=iB k/\ρ 5=pB b5/\ρ 6=pB b6/\ρ 8= .slice (some ⟨bi,0,none⟩) m ci/\ρ 18= .slice (some ⟨bo,0,none⟩) n n/\ρ 19=iB n/\ρ 20=iB i/\
     ∃R,(R.getD i ov).b=bi/\mx R n m (AV f k last i m)/\St w0 w' ([(b6,223,mH (f k k)),(b5,223,mH last)]++mB mH 223 220 bo R H)) ?_ ?_
    ·refine ja ?_;refine ku (σ:=Nat) (λj ρ w'=>j<=m/\ρ 0= .slice (some ⟨bo,0,none⟩) n n/\ρ 1=iB k/\ρ 5=pB b5/\ρ 6=pB b6/\ρ 8= .slice (some ⟨bi,0,none⟩) m ci/\ρ 9=pB b9/\ρ 18= .slice (some ⟨bo,0,none⟩) n n/\ρ 19=iB n/\ρ 20=iB i/\ρ 33=iB m/\ρ 34=iB j/\
      ∃R,(R.getD i ov).b=bi/\mx R n m (AV f k last i j)/\St w0 w' ([(b9,223,mH (f i k)),(b6,223,mH (f k k)),(b5,223,mH last)]++mB mH 223 220 bo R H)) (λj=>m-j) 0
      ⟨aB _,jY,jY,jY,jY,jY,jY,jY,jY,jY,rfl,rfl,R,hbi.symm,hR.congr λa _ b _=>(ah oO).symm,hS⟩ ?_
     clear hS hli hlk hxi hgi hbi hci hvi hR;rintro j ρ w3 ⟨hj,h0,h1,h5,h6,h8,h9,h18,h19,h20,h33,h34,R,hb,hR,hS⟩;have hli:i<R.length:=by rw[hR.len];exact hlt
     have hlk:k<R.length:=by rw[hR.len];exact hk
     have hxi:=hR.xQ hlt;have hxk:=hR.xQ hk;refine V1 ?_;by_cases hjl:j<m
     ·refine V6 ?_;by_cases hjk:j=k
      ·refine V3 ?_;refine⟨j+1,_,rfl,⟨hjl,jY,jY,jY,jY,jY,jY,jY,jY,jY,jY,vi rfl oO,R,hb,hR.congr λa _ b _=> ?_,hS⟩,oO⟩;unfold AV;by_cases e:a=i/\b<j/\b≠k
       ·rw[aj e,aj oO]
       ·rw[ah e,ah oO]
      ·refine V1 ?_;have hgi:(R.getD i ov).X.getD j Ap=f i j:=by
        rw[hR.get hlt hjl];unfold AV;rw[ah oO];exact hrow j hjl
       have hgk:(R.getD k ov).X.getD j Ap=f k j:=by
        rw[hR.get hk hjl];unfold AV;rw[ah oO];exact hrowk j hjl
       have q1:=hf k hk k hkm;have q2:=hf i hlt j hjl;have q3:=hf i hlt k hkm;have q4:=hf k hk j hjl;have t1:=xr (f k k) (f i j);have t2:=xr (f i k) (f k j);have t3:=Em (sO (f k k) (f i j)) (sO (f i k) (f k j));refine ja ?_;refine kC [jo 0,jo 1,ju 2,jo 3,jo 4,jo 5,ju 6,ju 8,jo 9,jo 10,jo 11,ju 12,jo 13,jo 14,ju 15,ju 18,jv 7,jv 16,jv 17,jv 19,jo 20,jw 21] kR kR hS ?_;intro wz8 hS hBz8;refine J5 ?_;refine jl rfl (kD (i:=j) rfl rfl oO dO ru (jm rfl (qW [_,_,_] (i:=i) (j:=j) Ap mR rfl oP hS hb hli oO oO rfl (.inl rfl) ?_)));refine J3 ?_;refine jl rfl (kD (i:=k) rfl rfl oO dO rG (jm rfl (nh [_,_,_] rfl rU hS oO hlk ?_)));refine J1 ?_;refine jl rfl (kD (i:=j) rfl rfl oO dO ru (jm rfl (qW [_,_,_] (i:=k) (j:=j) Ap mR rfl oP hS rfl hlk oO oO rfl (.inl rfl) ?_)));refine J1 ?_;rw[hgi,hgk];refine jn rfl (j6 Tryz.call174 rfl (D7 (f k k) (f i j) _ oO oO) ?_);rintro _ wc9 ⟨rfl,hBc9⟩;replace hS:=hS.km hBc9;refine⟨hBc9,?_⟩;refine jn rfl (j6 Tryz.call174 rfl (D7 (f i k) (f k j) _ oO oO) ?_);rintro _ wc10 ⟨rfl,hBc10⟩;replace hS:=hS.km hBc10;refine⟨hBc10,?_⟩;refine jn rfl (j6 Tryz.call175 rfl (M9 _ _ _ oO oO) ?_);rintro _ wc11 ⟨rfl,hBc11⟩;replace hS:=hS.km hBc11;refine⟨hBc11,?_⟩;refine jn rfl (j6 Tryz.call176 rfl (PV _ last _ oO oO hl0) ?_);rintro _ wc12 ⟨rfl,hBc12⟩;replace hS:=hS.km hBc12;refine⟨hBc12,?_⟩;refine jl rfl (kD (i:=j) rfl rfl oO dO ru (jx rfl (x9 [_,_,_] (i:=i) (j:=j) (Jo f k last i j) mR rfl rfl oP hS hb hli oO oO rfl rfl ?_)));intro wz13 hS;refine V2 ?_;refine⟨j+1,_,rfl,⟨hjl,jY,jY,jY,jY,jY,jY,jY,jY,jY,jY,vi rfl oO,_,?_,(hR.put hlt j (Jo f k last i j)).congr λa _ b _=> ?_,hS⟩,oO⟩
       ·rw[ni _ _ _ hli,aj rfl];exact hb
       ·unfold AV;by_cases e:a=i/\b=j
        ·rw[aj e,aj oO,e.2]
        ·rw[ah e];by_cases e2:a=i/\b<j/\b≠k
         ·rw[aj e2,aj oO]
         ·rw[ah e2,ah oO]
     ·refine J1 ?_;refine jt ?_;obtain rfl:j=m:=oO;exact⟨_,rfl,h0,h1,h5,h6,h8,h18,h19,h20,R,hb,hR,hS.drop (ab _ _)⟩
    clear hS hli hlk hxi hgi hbi hci hvi hR;rintro ρ w3 ⟨h0,h1,h5,h6,h8,h18,h19,h20,R,hb,hR,hS⟩;have hli:i<R.length:=by rw[hR.len];exact hlt
    have hxi:=hR.xQ hlt;refine J2 ?_;refine jp (kT rfl TD (jp (kD (i:=k) rfl rfl oO dO ru (jh (x9 [_,_] (i:=i) (j:=k) Ap mR rfl rfl oP hS hb hli oO oO (by rw[Ag];rfl) (by rw[Ag];rfl) ?_)))));intro wz14 hS;refine V2 ?_;refine⟨i+1,_,rfl,⟨hlt,jY,jY,jY,jY,jY,jY,vi rfl oO,_,(hR.put hlt k Ap).congr λa _ b hb'=> ?_,hS⟩,oO⟩;by_cases e:a=i
    ·by_cases e2:b=k
     ·rw[aj ⟨e,e2⟩];unfold wH uM;rw[aj oO,ah oO,aj e2]
     ·rw[ah (λq=>e2 q.2)];unfold AV wH uM;rw[aj ⟨e,hb',e2⟩,aj oO,ah oO,ah e2,e]
    ·rw[ah (λq=>e q.1)];unfold AV wH;rw[ah (λq=>e q.1)];by_cases e2:a<i
     ·rw[aj e2,aj oO]
     ·rw[ah e2,ah oO]
  ·refine J1 ?_;refine jt ?_;obtain rfl:i=n:=oO;exact⟨_,rfl,R,hR,hS⟩
 clear hS;rintro ρ w2 ⟨R,hR,hS⟩;refine ja ?_;exact pU rfl ⟨rfl,R,hR.congr λa ha b _=>aj ha,(hS.drop (ab _ _)).drop (ab _ _)⟩
def Dv (A:List (List RR)) (B:List RR):Mx:=λi j=>if j<A.length then RM A i j else if j=A.length then VX B i else 0
def Ni (A:List (List RR)) (B:List RR):Rd:=lD A.length (Dv A B) A.length
def Kb (A:List (List RR)) (B:List RR):Int:=if OI A≠0 then OI A else if B.length≠A.length then 4 else if(Ni A B).P.length=A.length then 0 else 5
def Rj (A:List (List RR)) (B:List RR):List RR:=if Kb A B=0 then ky A.length λi=>j8 ((Ni A B).M i A.length)else []
def UM (q:Nat->Nat->Rat) (m:Nat):MZ:=λi j=>Ip (q i) m j
def Nh (q:Nat->Nat->Rat) (m:Nat):Mx:=λi j=>if j<m then((zv (UM q m i j):Int):Rat)else 0
theorem Nc (q:Nat->Nat->Rat) (m:Nat):ve (Nh q m):=λi j=>by
 unfold Nh;split
 ·exact⟨_,rfl⟩
 ·exact⟨0,rfl⟩
theorem JH (q:Nat->Rat) (m:Nat):((u9 q m:Int):Rat)≠0:=λe=>by
 have h:=BF q m;have:(u9 q m:Int)=0:=gT.1 e;omega
theorem Ad {q:Nat->Nat->Rat} {m:Nat} (h0:∀i j,m<=j->q i j=0) (i j:Nat):Nh q m i j=((u9 (q i) m:Int):Rat)*q i j:=by
 unfold Nh;by_cases h:j<m
 ·rw[aj h];exact QF (q i) h
 ·rw[ah h,h0 i j oO,dR]
theorem RE (A:List (List RR)) (B:List RR):∀i j,A.length+1<=j->Dv A B i j=0:=λi j h=>by
 unfold Dv;rw[ah oO,ah oO]
theorem PW {n m:Nat} {q:Mx} (h0:∀i j,m<=j->q i j=0) (k:Nat):(lD n (Nh q m) k).P.length=k↔(lD n q k).P.length=k:=by
 constructor
 ·intro h;refine(vq (A:=Nh q m) (B:=q) (c:=λi=>((u9 (q i) m:Int):Rat)⁻¹) (λi _ e=> ?_) (λi _ j=> ?_) k h).1
  ·have:=bY _ (JH (q i) m);rw[e,dR]at this;exact absurd this dD
  ·have:=bY _ (JH (q i) m);rw[Ad h0];grind
 ·intro h;exact(vq (A:=q) (B:=Nh q m) (c:=λi=>((u9 (q i) m:Int):Rat)) (λi _=>JH (q i) m) (λi _ j=>Ad h0 i j) k h).1
theorem L7 {n m:Nat} {q:Mx} (h0:∀i j,m<=j->q i j=0) (h:(lD n q n).P.length=n):∀i,i<n->∀j,(lD n (Nh q m) n).M i j=(lD n q n).M i j:=by
 obtain⟨_,c',_,e⟩:=vq (A:=q) (B:=Nh q m) (c:=λi=>((u9 (q i) m:Int):Rat)) (λi _=>JH (q i) m) (λi _ j=>Ad h0 i j) n h;intro i hi j;rw[e i hi j,aj hi,dY]
theorem DV {n:Nat} {A:Mx}:∀d k,k+d=n->(lD n A n).P.length=n->(lD n A k).P.length=k
 |0,k,h,hf=>by obtain rfl:k=n:=oO;exact hf
 |d+1,k,h,hf=>(wF (DV d (k+1) oO hf)).1
theorem Mh {n k:Nat} {A:Mx} (hk:k<n) (hp:¬pv (lD n A k).M k n k<n):(lD n A n).P.length≠n:=λhf=>hp (wF (DV (n-(k+1)) (k+1) oO hf)).2
theorem RA {x y:Bool} {a b:Nat} (hb:b≠0):mkRat (sg (x !=y) a) b=((sg x a:Int):Rat)/((sg y b:Int):Rat):=by
 have h0:((b:Int):Rat)≠0:=λe=>hb (by have:=gT.1 (show((b:Int):Rat)=((0:Int):Rat)from e);omega);have hi:=bY _ h0;have hn:(-((b:Int):Rat))≠0:=λe=>h0 (by grind);have hi2:=bY _ hn;have he:(-((b:Int):Rat))⁻¹ = -((b:Int):Rat)⁻¹ :=by grind
 rw[fB];have hbb:((b:Nat):Rat)=((b:Int):Rat):=rfl;unfold sg;rw[hbb];cases x<;>cases y<;>simp only[bne_self_eq_false,jF,jH,gZ,Bool.bne_false,Bool.bne_true,Bool.not_false,Rat.intCast_neg,bT,he]<;>grind
theorem MG (p k:Nat) (vr:Value) (l:List ZZ) (w:World) (hp:At w ⟨p,0,none⟩ [.int .i64 k]) (hr:Sl mH 2 w vr l) (hk:k<l.length):
  lU Tryz.prog 144 #[vr,.pointer (some ⟨p,0,none⟩)] w λv w'=>v= .bool (decide ((l.getD k Ap).mag≠0))/\Below w.heap.size w w':=by
 have hS:=St.init w;refine enter Tryz.func144 rfl Tryz.ntmps144 rfl ?_;refine J2 ?_;refine jq (oB (cs:=[.int .i64 k]) rfl nm (hp.j4 hS.j4) rfl rfl (.inr rfl) (jp (kj (i:=k) rfl rfl (hr.j4 hS.j4) oO dO ru ?_)));refine jp (oR rfl (nw (hr.j4 hS.j4) (λ_=>rfl) dD dO) ww ?_);refine jq (oL (i:=k) (off:=1) Ap rfl tT (hr.j4 hS.j4) (λ_=>rfl) dD dO rfl rfl (.inr rfl) ?_);refine jp (wh rfl rfl ?_);refine J1 ?_;refine jt ?_;refine kB rfl rfl ?_;exact⟨bQ Value.bool (en.2 (not_congr n4)),hS.j4⟩
def Dr (pr:Nat->Bool):Nat->Nat->Int
 |0,_=> -1
 |d+1,i=>if pr i=true then i else Dr pr d (i+1)
theorem Mo (p k n m:Nat) (v:Value) (vs:List Value) (f:MZ) (w:World) (hp:At w ⟨p,0,none⟩ [.int .i64 k]) (hv:Sl rK 1 w v vs) (hn:vs.length=n) (hr:∀i,i<n->Sl mH 2 w (vs.getD i undef) (ky m (f i))) (hk:k<m):
  lU Tryz.prog 143 #[v,.func (.func 144) #[] #[.pointer (some ⟨p,0,none⟩)]] w λr w'=>r= .int .i64 (Dr (λi=>decide ((f i k).mag≠0)) n 0)/\Below w.heap.size w w':=by
 have hmx:=hv.maxLen;have hS:=St.init w;refine enter Tryz.func143 rfl Tryz.ntmps143 rfl ?_;refine J2 ?_;refine jp (ki rfl (hv.j4 hS.j4) ⟨_,Tryz.underlying218⟩ ?_);refine J1 ?_;refine jb ?_;refine kx (λρ w'=>Dr (λi=>decide ((f i k).mag≠0)) n 0= -1/\St w w' []) ?_ ?_
 ·refine ja ?_;refine ku (σ:=Nat) (λi ρ w'=>i<=n/\Dr (λi=>decide ((f i k).mag≠0)) n 0=Dr (λi=>decide ((f i k).mag≠0)) (n-i) i/\ρ 0=v/\ρ 1= .func (.func 144) #[] #[.pointer (some ⟨p,0,none⟩)]/\ρ 7=iB n/\ρ 8=iB i/\St w w' []) (λi=>n-i) 0
   ⟨aB _,rfl,rfl,rfl,vi rfl oO,rfl,hS⟩ ?_
  clear hS;rintro i ρ w2 ⟨hi,hf,h0,h1,h7,h8,hS⟩;refine V1 ?_;by_cases hlt:i<n
  ·refine V1 ?_;obtain⟨d,hd⟩:∃d,n-i=d+1:=⟨n-i-1,oO⟩;have hg:(ky m (f i)).getD k Ap=f i k:=kz _ _ hk;refine J5 ?_;refine jp (kj (i:=i) rfl rfl (hv.j4 hS.j4) oO dO rG (jq (kt (i:=i) undef rfl rU (hv.j4 hS.j4) dO rfl rfl (.inr rfl) (jh (zF Tryz.call144 rfl rfl (MG p k _ (ky m (f i)) _ (hp.j4 hS.j4) ((hr i hlt).j4 hS.j4) (by rw[j9];exact hk)) ?_)))));rintro r w3 ⟨rfl,hB3⟩;replace hS:=hS.km hB3;rw[hg];refine ja ?_;by_cases hne:(f i k).mag≠0
   ·refine k9 rfl (ao hne) ?_;refine ja ?_;have e:Dr (λi=>decide ((f i k).mag≠0)) n 0=i:=by
     rw[hf,hd];show(if decide ((f i k).mag≠0)=true then(i:Int)else _)=i;rw[aj (ao hne)]
    rw[e];refine J2 ?_;refine jt ?_;refine kB rfl rfl ?_;exact⟨rfl,hS.j4⟩
   ·refine lx rfl (ae hne) ?_;refine V2 ?_;refine⟨i+1,_,rfl,⟨hlt,?_,jY,jY,jY,vi rfl oO,hS⟩,oO⟩;rw[hf,hd];show(if decide ((f i k).mag≠0)=true then(i:Int)else Dr _ d (i+1))=_;rw[ah (by rw[ae hne];decide),show n-(i+1)=d by omega]
  ·refine J1 ?_;refine jt ?_;obtain rfl:n=i:=oO;rw[ec]at hf;exact⟨_,rfl,hf,hS⟩
 clear hS;rintro ρ w2 ⟨he,hS⟩;refine ja ?_;rw[he];refine J1 ?_;refine jt ?_;refine kB rfl rfl ?_;exact⟨rfl,hS.j4⟩
theorem qn {P:Program} {N:Nat} {ρ:Nat->Value} {w:World} {o:Oper} {K:Value->World->Prop} (h:qN P N ρ w o λv=>Below w.heap.size w w/\K v w):pd P N ρ w o λv w'=>Below w.heap.size w w'/\K v w':=by
 obtain⟨v,hr,hk⟩:=h;exact nX (hr w (Below.refl _ _)) hk
theorem TU {A:List (List RR)} {B:List RR} {i:Nat}:RM [ky A.length (qM (RM A) i)++[B.getD i kP]] 0=λj=>if j<A.length then RM A i j else if j=A.length then VX B i else 0:=by
 funext j;have htl:=j9 A.length (qM (RM A) i);show toQ ((ky A.length (qM (RM A) i)++[B.getD i kP]).getD j kP)=_;by_cases h:j<A.length
 ·rw[aj h,ap,dq oO,<-ap,kz _ _ h];exact toQ_ofQ _
 ·rw[ah h,ap,cZ oO,htl];by_cases h2:j=A.length
  ·rw[aj h2,h2,ec];rfl
  ·rw[ah h2,dk (by simp;omega)];exact QD
theorem Q9 (A:List (List RR)) (B:List RR) (i:Nat):Dv A B i=RM [ky A.length (qM (RM A) i)++[B.getD i kP]] 0:=TU.symm
theorem UT {A:List (List RR)} {B:List RR} {K i:Nat} (hB:Ms K A) (hBB:RB K B) (hi:i<A.length) (hiB:i<B.length) (hev:(A.getD i []).length=A.length):∀j,j<A.length+1->L (Dv A B i j)<=K:=by
 intro j hj;unfold Dv;by_cases h:j<A.length
 ·rw[aj h];exact Mk hB hi oO
 ·rw[ah h,aj oO];exact dx (uA _) (hBB _ (kE B i kP hiB))
def SS (S:Nat):Nat->Nat
 |0=>S
 |k+1=>2*SS S k+1
theorem SO (S:Nat):∀k,SS S k+1=2^k*(S+1)
 |0=>by show S+1=_;rw[cU,dJ]
 |k+1=>by
  have ih:=SO S k;show 2*SS S k+1+1=_;rw[bC,bF (2^k) 2,bk,<-ih];omega
theorem UW {S k:Nat} (hk:k<=16):SS S k+1<=65536*(S+1):=by
 rw[SO];exact aO _ (dx (bM dD hk) dD)
theorem UC {n m k:Nat} {B:Mx} {f:MZ} (h:GG n m B k λi j=>zv (f i j)) (hk:(lD n B k).P.length=k) (hkm:k<m) (i:Nat) (hi:i<n):(f i k).mag≠0↔(lD n B k).M i k≠0:=by
 have e:=Nm h hk hi hkm;exact not_congr (O8.symm.trans e)
theorem Kf (g:MZ) (k:Nat) (last:ZZ) (i j:Nat):zv (uM g k last i j)=DM (λi j=>zv (g i j)) k (zv last) i j:=by
 unfold uM DM Jo;by_cases h:i=k
 ·rw[aj h,aj h]
 ·rw[ah h,ah h];by_cases h2:j=k
  ·rw[aj h2,aj h2];rfl
  ·rw[ah h2,ah h2,R3,PE,Hl,Hl]
def If (f:MZ) (k p:Nat):MZ:=λi j=>if i=p then f k j else if i=k then f p j else f i j
theorem Ts (f:MZ) (k p:Nat):(λi j=>zv (If f k p i j))=IR (λi j=>zv (f i j)) k p:=by
 funext i j;unfold If IR;by_cases h:i=p
 ·rw[aj h];by_cases h2:i=k
  ·rw[aj h2,<-h2,h]
  ·rw[ah h2,aj h]
 ·rw[ah h];by_cases h2:i=k
  ·rw[aj h2,aj h2]
  ·rw[ah h2,ah h2,ah h]
theorem MW {f:MZ} {n m S k p:Nat} (hk:k<n) (hp:p<n) (h:∀i,i<n->∀j,j<m->x6 (f i j)<=S):∀i,i<n->∀j,j<m->x6 (If f k p i j)<=S:=by
 intro i hi j hj;unfold If;split
 ·exact h k hk j hj
 ·split
  ·exact h p hp j hj
  ·exact h i hi j hj
def oF (g:Nat->Rat) (i a:Nat):Rat:=if a<i then g a else 0
theorem TB (g:Nat->Rat) (n i:Nat):(ky n λa=>j8 (oF g i a)).set i (j8 (g i))=ky n λa=>j8 (oF g (i+1) a):=by
 rw[yJ];refine kF λa _=> ?_;unfold oF;by_cases h:a=i
 ·rw[aj h,aj oO,h]
 ·rw[ah h];by_cases h2:a<i
  ·rw[aj h2,aj oO]
  ·rw[ah h2,ah oO]
theorem Qr (g:Nat->Rat) (n:Nat):List.replicate n kP=ky n λa=>j8 (oF g 0 a):=by
 rw[t9];refine kF λa _=> ?_;unfold oF;rw[ah (aW _),ol];rfl
theorem Rg {α:Type} (z a b:α) (L D:List α):(z::a::b::(L++D)).Perm (a::b::(L++[z]++D)):=by
 have h1:(z::a::b::(L++D)).Perm (a::b::z::(L++D)):=(List.Perm.swap a z _).trans (List.Perm.cons _ (List.Perm.swap b z _));refine h1.trans (List.Perm.cons _ (List.Perm.cons _ ?_));rw[aI];exact List.perm_middle.symm
theorem O0 {α:Type} (z a b:α) (L D:List α):(a::b::(L++z::D)).Perm (a::b::(L++D)++[z]):=by
 refine List.Perm.cons _ (List.Perm.cons _ ?_);exact List.perm_middle.trans (eD _ _).symm
theorem Rp {R:List (Rw RR)} {n m:Nat} {f:Nat->Nat->RR} (hR:mx R n m f) (hF:F7 R) {i:Nat} (hi:i<n) (t:TypeId):Gl j5 t 3 (R.getD i ov).v (ky m (f i)) [(R.getD i ov).xO j5 t]:=by
 have hl:i<R.length:=by rw[hR.len];exact hi
 have hf:=hF _ (kE R i ov hl);obtain⟨hc1,hc2⟩:=hR.cap i hi;have hr:=hR.row i hi;have htl:=j9 m (f i);refine⟨lS ks _,.inr ⟨(R.getD i ov).b,(R.getD i ov).cap,(R.getD i ov).sp,?_,?_,?_,?_,?_⟩⟩
 ·rw[hR.v hi,htl]
 ·rw[<-hr];rfl
 ·rw[htl];exact hc1
 ·unfold Go.maxLen;omega
 ·rw[<-hr];exact hf
theorem Mc (v vb_:Value) (A:List (List RR)) (vs:List Value) (B:List RR) (K:Nat) (w:World) (hA:rJ j5 3 w v A vs) (hBv:Sl j5 3 w vb_ B) (hB:Ms K A) (hBB:RB K B) (hK:200000000*K+300000000<=MX):
  lU Tryz.prog 106 #[v,vb_] w λr w'=>(∃v',r= .tuple #[v',.int .i64 (Kb A B)]/\Sl j5 3 w' v' (Rj A B))/\Below w.heap.size w w':=by
 have hM:MX=1099511627776:=rfl;have hno:Kb A B≠0->Rj A B=[]:=λh=>ah h;have hS:=St.init w;have hlen:=hA.len;have hmx:=hBv.maxLen;refine enter Tryz.func106 rfl Tryz.ntmps106 rfl ?_;refine J3 ?_;refine jh (j6 Tryz.call140 rfl (Jf v A vs _ (hA.j4 hS.j4)) ?_);rintro _ wc1 ⟨rfl,hBc1⟩;replace hS:=hS.km hBc1;refine V3 ?_;by_cases he:OI A≠0
 ·have e1:Kb A B=OI A:=aj he;refine J4 ?_;refine jt ?_;refine rD rfl rfl rfl ?_;refine⟨⟨_,by rw[e1];rfl,?_⟩,hS.j4⟩;rw[hno (by rw[e1];exact he)];exact Sl.nil _ _ _
 replace he:=fv.1 he;obtain⟨hs0,hsq⟩:=OZ he;obtain⟨h1,h2,h3,h4,h5⟩:=xp hs0;refine J2 ?_;refine jp (ki rfl (hA.sl.j4 hS.j4) ⟨_,Tryz.underlying35⟩ ?_);refine J2 ?_;refine jp (ki rfl (hBv.j4 hS.j4) ⟨_,Tryz.underlying34⟩ ?_);refine V2 ?_;by_cases hx:B.length≠A.length
 ·have e1:Kb A B=4:=by unfold Kb;rw[ah oO,aj hx]
  refine J3 ?_;refine jt ?_;refine rD rfl rfl rfl ?_;refine⟨⟨_,by rw[e1];rfl,?_⟩,hS.j4⟩;rw[hno (by rw[e1];decide)];exact Sl.nil _ _ _
 replace hx:=fv.1 hx;refine V1 ?_;rw[hlen];have e1:Kb A B=if(Ni A B).P.length=A.length then 0 else 5:=by unfold Kb;rw[ah oO,ah oO]
 obtain⟨n,hn⟩:=jz A.length;rw[<-hn]at h1 h2 h5 hx e1 hsq⊢;rw[<-hsq]at h5;have hAL:∀i,i<n->∀j,j<n+1->L (Dv A B i j)<=K:=λi hi=>by
  rw[hn];exact UT hB hBB oO oO (by rw[h5 i hi,hn])
 have haug:∀i,Dv A B i=RM [ky n (qM (RM A) i)++[B.getD i kP]] 0:=λi=>by rw[hn];exact Q9 A B i
 have hout:∀i j,n+1<=j->Dv A B i j=0:=by rw[hn];exact RE A B
 have hslD:Ni A B=lD n (Dv A B) n:=by rw[hn];rfl
 have hslL:Kb A B=0->Rj A B=ky n λi=>j8 ((lD n (Dv A B) n).M i n):=λh=>by rw[hn];exact aj h
 rw[hslD]at e1;obtain⟨q,hq⟩:=jz (Dv A B);rw[<-hq]at hAL haug hout e1 hslL;refine J1 ?_;refine jh (Av (n:=n) rfl rfl rG oO oO oO oO hS ?_);intro bw wz2 hS hBz2;refine V1 ?_;replace hS:St w _ [(bw,220,rep n [kd])]:=hS;rw[FX]at hS;refine ja ?_;refine nc (λρ'=>ρ' 0=v/\ρ' 1=vb_/\ρ' 7= .int .i64 n/\ρ' 8= .slice (some ⟨bw,0,none⟩) n n/\True) ⟨rfl,rfl,rfl,rfl,trivial⟩ ?_;rintro ρk3 ⟨hk3_0,hk3_1,hk3_7,hk3_8,-⟩;refine J1 ?_;refine jh (j6 Tryz.call141 rfl (zU v A vs n K _ (hA.j4 hS.j4) oO oO h1 oO (by rw[<-hn];exact h5) hB oO) ?_);rintro r w2 ⟨⟨bc,RC,rfl,hRC,hFC,hS2⟩,hB2⟩;rw[<-hn]at hRC⊢;replace hS:=hS.join hS2;clear hS2;rw[Fs]at hS;refine J2 ?_;refine jb ?_;replace hS:St w _ ((bc,34,RC.map Rw.v)::(bw,220,([]:List (Rw ZZ)).map Rw.v++List.replicate (n-0) kd)::(([]:List (Rw ZZ)).map (Rw.xO mH 223)++(RC.drop 0).map (Rw.xO j5 32))):=hS.perm (List.Perm.cons _ (eD _ _));refine kx (λρ w'=>ρ 7=iB n/\ρ 8= .slice (some ⟨bw,0,none⟩) n n/\∃RW,mx RW n (n+1) (UM q (n+1))/\St w w' (mB mH 223 220 bw RW [])) ?_ ?_
 ·refine ja ?_;refine ku (σ:=Nat) (λi ρ w'=>i<=n/\ρ 1=vb_/\ρ 7=iB n/\ρ 8= .slice (some ⟨bw,0,none⟩) n n/\ρ 31= .slice (some ⟨bc,0,none⟩) n n/\ρ 32=iB n/\ρ 33=iB i/\
   ∃RW,mx RW i (n+1) (UM q (n+1))/\St w w' ((bc,34,RC.map Rw.v)::(bw,220,RW.map Rw.v++List.replicate (n-i) kd)::(RW.map (Rw.xO mH 223)++(RC.drop i).map (Rw.xO j5 32)))) (λi=>n-i) 0
   ⟨aB _,jY,jY,jY,rfl,rfl,rfl,[],⟨rfl,λi hi=>absurd hi (aW _),λi hi=>absurd hi (aW _)⟩,hS⟩ ?_
  clear hS;rintro i ρ w3 ⟨hi,h1',h7,h8,h31,h32,h33,RW,hRW,hS⟩;refine V1 ?_;by_cases hlt:i<n
  ·refine V1 ?_;have hlc:i<RC.length:=by rw[hRC.len];exact hlt
   obtain⟨d,hd⟩:∃d,n-i=d+1:=⟨n-i-1,oO⟩;have hdrop:RC.drop i=RC.getD i ov::RC.drop (i+1):=by rw[nu RC ov hlc];exact dX hlc
   have hG:=Rp hRC hFC hlt 32;have htl:=j9 n (qM (RM A) i);have hLb:=hBB _ (kE B i kP oO);rw[hdrop,db,hd,fU]at hS;replace hS:=hS.perm (O0 _ _ _ _ _);refine J1 ?_;refine jp (kD (i:=i) h31 h33 oO dO lH (jq (Kc (k:=0) rfl lQ hS rfl (by rw[bZ,eI];exact Cb hlc) ?_)));refine J7 ?_;refine jp (kj (i:=i) rfl rfl (hBv.j4 hS.j4) oO dO kK (jq (kt (i:=i) kP rfl kf (hBv.j4 hS.j4) dO rfl rfl (.inl rfl) (jh (mD (vs:=[kW (B.getD i kP)]) rfl kK rfl dD dD dD (by simp[Value.cells,kW]) rfl hS ?_)))));intro b45 wz4 hS hBz4;refine jh (mf [B.getD i kP] rfl rfl kK dD hG hS rfl rfl ks (wE [B.getD i kP]) dL dL ?_);intro va5 La5 wa5 hG hS hga5;obtain⟨aq,cq,rfl⟩:=hG.len;refine jh (mD (vs:=[.slice aq (ky n (qM (RM A) i)++[B.getD i kP]).length cq]) rfl lH rfl dD dD dD (by simp[Value.cells]) rfl hS ?_);intro b47 wz6 hS hBz6;have hX:=hS.drop ((ak ((bc,34,RC.map Rw.v)::(bw,220,RW.map Rw.v++kd::List.replicate d kd)::(RW.map (Rw.xO mH 223)++(RC.drop (i+1)).map (Rw.xO j5 32))) _).trans (ab _ _));have hsl1:=hS.sle (k:=0) (enc:=rK) (L:=[.slice aq (ky n (qM (RM A) i)++[B.getD i kP]).length cq]) (n:=1) (cap:=1) rfl (λ_=>rfl) (aH _) (aH _) oO;have hslr:=hG.sl (H:=(b47,34,[Value.slice aq (ky n (qM (RM A) i)++[B.getD i kP]).length cq])::(bc,34,RC.map Rw.v)::(bw,220,RW.map Rw.v++kd::List.replicate d kd)::(RW.map (Rw.xO mH 223)++(RC.drop (i+1)).map (Rw.xO j5 32))) hS ks;have hx1:(ky n (qM (RM A) i)++[B.getD i kP]).length=n+1:=by rw[aG,htl];rfl
   have hmts:rJ j5 3 _ (.slice (some ⟨b47,0,none⟩) 1 1) [ky n (qM (RM A) i)++[B.getD i kP]] [.slice aq (ky n (qM (RM A) i)++[B.getD i kP]).length cq]:=⟨rfl,hsl1,λa ha=>by
    obtain rfl:a=0:=Nat.lt_one_iff.1 ha;exact hslr⟩
   have hBM:Ms K [ky n (qM (RM A) i)++[B.getD i kP]]:=λa ha r hr=>by
    rw[aZ.1 ha]at hr;rcases bO.1 hr with g|g
    ·obtain⟨j,hj,rfl⟩:=tf g;rw[Lr_ofQ];exact Mk hB oO (by rw[h5 i hlt];exact hj)
    ·rw[aZ.1 g];exact hLb
   refine jh (j6 Tryz.call141 rfl (zU _ [ky n (qM (RM A) i)++[B.getD i kP]] _ (n+1) K _ hmts (aH _) dM oO oO (λa ha=>by obtain rfl:a=0:=Nat.lt_one_iff.1 ha;exact hx1) hBM oO) ?_);rintro r w4 ⟨⟨b1,R1,rfl,hR1,-,hT⟩,hB4⟩;replace hX:=hX.km hB4;have hl1:0<R1.length:=by rw[hR1.len];exact Nat.one_pos
   have hrow1:=hR1.sl hT ks (i:=0) Nat.one_pos;rw[show qM (RM [ky n (qM (RM A) i)++[B.getD i kP]]) 0=λj=>j8 (q i j) by rw[haug i]]at hrow1;refine jp (kD (i:=0) rfl rfl oO dO lH (jq (nh [] rfl lQ hT oO hl1 (jh (j6 Tryz.call142 rfl (EZ _ (q i) (n+1) K _ hrow1 oO (hAL i hlt) oO) ?_)))));rintro r w5 ⟨⟨bz,rfl,hZ⟩,-⟩;have hlenR:(RW.map Rw.v).length=i:=by rw[aS,hRW.len]
   have hfit:i<(RW.map Rw.v++kd::List.replicate d kd).length:=by rw[aG,hlenR,bj];omega
   clear hS;have hS:=hX.join hZ;clear hX hZ;refine jp (kD (i:=i) rfl rfl oO dO rG (jh (nM (k:=2) rfl rfl rU hS rfl (by rw[bZ,eI];exact hfit) rfl ?_)));intro wz7 hS;refine ja ?_;replace hS:St w _ ((bz,223,(ky (n+1) (Ip (q i) (n+1))).flatMap mH)::(bc,34,RC.map Rw.v)::(bw,220,(RW.map Rw.v++kd::List.replicate d kd).set (0+i*1) (.slice (some ⟨bz,0,none⟩) (n+1) (n+1)))::(RW.map (Rw.xO mH 223)++(RC.drop (i+1)).map (Rw.xO j5 32))):=hS;rw[bZ,eI,Bp _ _ _ _ hlenR]at hS;replace hS:=hS.perm (Rg _ _ _ _ _);obtain⟨nr,hnr⟩:∃nr:Rw ZZ,nr=⟨bz,n+1,ky (n+1) (Ip (q i) (n+1)),[]⟩:=⟨_,rfl⟩;have hnX:nr.X=ky (n+1) (UM q (n+1) i):=by rw[hnr];rfl
   have hnc:nr.cap=n+1:=by rw[hnr]
   have hvz:nr.v= .slice (some ⟨bz,0,none⟩) (n+1) (n+1):=by
    rw[hnr];show Value.slice _ (ky (n+1) (Ip (q i) (n+1))).length _=_;rw[j9]
   have hbz:nr.xO mH 223=(bz,223,(ky (n+1) (Ip (q i) (n+1))).flatMap mH):=by
    rw[hnr];show(bz,223,(ky (n+1) (Ip (q i) (n+1))).flatMap mH++[])=_;rw[aU]
   rw[<-hbz,<-hvz]at hS;refine V2 ?_;refine⟨i+1,_,rfl,⟨hlt,jY,jY,jY,jY,jY,vi rfl oO,RW++[nr],Ak hRW hnX ⟨oO,oO⟩,?_⟩,oO⟩;rw[bH,bH,show n-(i+1)=d by omega,aI];exact hS
  ·refine J1 ?_;refine jt ?_;obtain rfl:n=i:=oO;rw[ec,jy,aU,fb (by rw[hRC.len];exact aH _),jO]at hS;exact⟨_,rfl,h7,h8,RW,hRW,hS.drop (ab _ _)⟩
 clear hS;rintro ρ w3 ⟨h7,h8,RW,hRW,hS⟩;obtain⟨S0,hS0⟩:=jz (1001*K+1);have hSS:∀k,k<=n->SS S0 k+1<=65536*(S0+1):=λk hk=>UW oO;have hsz0:∀i,i<n->∀j,j<n+1->x6 (UM q (n+1) i j)<=S0:=by
  intro i hi j hj;have g1:=Pk (hAL i hi) hj;have g2:=I4 (hAL i hi) (n+1) (aH _);have g3:(n+1)*K<=1000*K:=aO _ oO;show x6 (Ip (q i) (n+1) j)<=S0;omega
 obtain⟨Bm,hBm⟩:=jz (Nh q (n+1));have hWh:ve Bm:=by rw[hBm];exact Nc _ _
 have hfi:=λk=>PW (n:=n) hout k;have hfs:=L7 (n:=n) hout;rw[<-hBm]at hfi hfs;have hrep0:GG n (n+1) Bm 0 λi j=>zv (UM q (n+1) i j):=by
  intro i hi j hj;rw[hBm];show _=1*Nh q (n+1) i j;unfold Nh;rw[aj hj,dY]
 refine jr ?_;refine jh (j6 Tryz.call113 rfl (sj 1 _ dD) ?_);rintro _ wc8 ⟨rfl,hBc8⟩;replace hS:=hS.km hBc8;refine jp (kT rfl (u5 _ _) ?_);refine J1 ?_;intro b11 wz9 hS hBz9;refine J1 ?_;intro wz10 hS;refine ja ?_;replace hS:St w _ ([(b11,223,mH ⟨false,1⟩)]++mB mH 223 220 bw RW []):=hS;refine J2 ?_;refine jb ?_;refine kx (λρ w'=>(lD n Bm n).P.length=n/\ρ 7=iB n/\ρ 8= .slice (some ⟨bw,0,none⟩) n n/\∃RW f,mx RW n (n+1) f/\GG n (n+1) Bm n (λi j=>zv (f i j))/\(∀i,i<n->∀j,j<n+1->x6 (f i j)<=SS S0 n)/\St w w' (mB mH 223 220 bw RW [])) ?_ ?_
 ·refine ja ?_;refine ku (σ:=Nat) (λk ρ w'=>k<=n/\(lD n Bm k).P.length=k/\ρ 7=iB n/\ρ 8= .slice (some ⟨bw,0,none⟩) n n/\ρ 11=pB b11/\ρ 56=iB n/\ρ 57=iB k/\∃RW f last,mx RW n (n+1) f/\GG n (n+1) Bm k (λi j=>zv (f i j))/\(∀i,i<n->∀j,j<n+1->x6 (f i j)<=SS S0 k)/\((zv last:Int):Rat)=dd n Bm k/\x6 last<=SS S0 k/\
   St w w' ([(b11,223,mH last)]++mB mH 223 220 bw RW [])) (λk=>n-k) 0
   ⟨aB _,rfl,jY,jY,rfl,rfl,rfl,RW,_,⟨false,1⟩,hRW,hrep0,hsz0,rfl,(by show(kG 1).size<=S0;rw[pH];omega),hS⟩ ?_
  clear hS hRW hrep0 hsz0;rintro k ρ w4 ⟨hk,hkP,h7,h8,h11,h56,h57,RW,f,last,hRW,hrep,hsz,hlv,hlz,hS⟩;have hSk:=hSS k hk;refine V1 ?_;by_cases hkn:k<n
  ·refine V1 ?_;have hlk:k<RW.length:=by rw[hRW.len];exact hkn
   refine J2 ?_;intro b12 wz11 hS hBz11;refine jh (nM (k:=0) rfl rfl nm hS rfl dM rfl ?_);intro wz12 hS;refine ja ?_;have hmB:=hS.drop (ai [(b12,3,[Value.int .i64 k]),(b11,223,mH last)] (mB mH 223 220 bw RW []));have hO:=hRW.outer hmB (aH n) oO;have hmap:(RW.map Rw.v).length=n:=by rw[aS,hRW.len]
   have hp:At _ ⟨b12,0,none⟩ [.int .i64 k]:=hS.at (k:=0) rfl 0 1;have hO2:=hO.sub (λ_=>rfl) dD (lo:=k) (hi:=(RW.map Rw.v).length) oO (aH _);rw[aV (by rw[fe];exact aH _)]at hO2;have hrows:∀i,i<n-k->Sl mH 2 _ (((RW.map Rw.v).drop k).getD i undef) (ky (n+1) (f (k+i))):=λi hi=>by
    have:=hRW.sl hmB mR (i:=k+i) oO;have e:((RW.map Rw.v).drop k).getD i undef=(RW.getD (k+i) ov).v:=by
     rw[ap,List.getElem?_drop,Cb (by rw[hRW.len];omega)];rfl
    rw[e];exact this
   refine jr ?_;refine jp (ko h8 (jq (kO (k:=0) rfl nm hS rfl rfl rfl (.inr rfl) (jp (R7 rfl rfl hO rfl oO rG (jp (Qj rfl ?_)))))));refine jh (j6 Tryz.call143 rfl (Mo b12 k (n-k) (n+1) _ _ (λi j=>f (k+i) j) _ hp hO2 (by rw[fe,hmap]) hrows oO) ?_);rintro r w5 ⟨rfl,hB5⟩;replace hS:=hS.km hB5;have hpr:=UC hrep hkP (by omega:k<n+1);obtain⟨p,hpp⟩:=jz (pv (lD n Bm k).M k n k);have hps:=po (lD n Bm k).M k (n:=n) (r:=k) oO;rw[<-hpp]at hps;obtain⟨hkp,_,_,_⟩:=hps;have hfst:Dr (λi=>decide ((f (k+i) k).mag≠0)) (n-k) 0=if p<n then((p-k:Nat):Int)else-1:=by
    have hpf:Ng (lD n Bm k).M k (n-k) k=p:=hpp.symm;have hcong:∀d i,i+d=n-k->Dr (λi=>decide ((f (k+i) k).mag≠0)) d i=if Ng (lD n Bm k).M k d (k+i)<k+i+d then((Ng (lD n Bm k).M k d (k+i)-k:Nat):Int)else-1:=by
     intro d;induction d with
     |zero=>
      intro i _;show(-1:Int)=if k+i<k+i+0 then _ else-1
      rw[ah oO]
     |succ d ih=>
      intro i hid;have hi:=hpr (k+i) oO;show(if decide ((f (k+i) k).mag≠0)=true then(i:Int)else Dr _ d (i+1))=_;unfold Ng;by_cases e:(lD n Bm k).M (k+i) k=0
      ·rw[ah (λq=>hi.1 (gq q) e),aj e,ih (i+1) oO];rw[show k+(i+1)=k+i+1 by omega,show k+i+1+d=k+i+(d+1) by omega]
      ·rw[aj (ao (hi.2 e)),ah e,aj oO,show k+i-k=i by omega]
    have:=hcong (n-k) 0 oO;rw[ef,hpf,show k+(n-k)=n by omega]at this;exact this
   rw[hfst];refine V3 ?_;by_cases hpn:¬p<n
   ·rw[ah hpn];refine k9 rfl (ao dD) ?_;refine ja ?_;have hnf:(lD n q n).P.length≠n:=λg=>Mh hkn (by rw[<-hpp];exact hpn) ((hfi n).2 g);have e5:Kb A B=5:=by rw[e1,ah hnf]
    refine J2 ?_;refine jt ?_;refine rD rfl rfl rfl ?_;refine⟨⟨_,by rw[e5];rfl,?_⟩,hS.j4⟩;rw[hno (by rw[e5];decide)];exact Sl.nil _ _ _
   replace hpn:=fv.1 hpn;rw[aj hpn];refine V1 ?_;have hlp:p<RW.length:=by rw[hRW.len];exact hpn
   replace hS:St w _ ([(b12,3,[Value.int .i64 k]),(b11,223,mH last)]++mB mH 223 220 bw RW []):=hS;refine kx (λρ w'=>ρ 7=iB n/\ρ 8= .slice (some ⟨bw,0,none⟩) n n/\ρ 11=pB b11/\ρ 12=pB b12/\ρ 56=iB n/\ρ 57=iB k/\St w w' ([(b12,3,[Value.int .i64 k]),(b11,223,mH last)]++mB mH 223 220 bw (BJ RW k p) [])) ?_ ?_
   ·refine ja ?_;refine C1 20 [jo 0,ju 1,jo 2,jv 3,jo 4,jo 5,jo 6,ju 7,jo 8,jo 9,jo 10,ju 11,jo 12,ju 13,jo 14,ju 15,jo 16,jw 17,jo 18,jw 19] kR kR hS ?_;intro wz13 hS hBz13;refine kQ (i:=0) (U':=[ju 1,jo 2,jv 3,jo 4,jo 5,jo 6,ju 7,jo 8,jo 9,jo 10,ju 11,jo 12,ju 13,jo 14,ju 15,jo 16,jw 17,jo 18,jw 19]) kR kR rfl rfl (ko h8 (pL (i:=1) (U':=[jo 2,jv 3,jo 4,jo 5,jo 6,ju 7,jo 8,jo 9,jo 10,ju 11,jo 12,ju 13,jo 14,ju 15,jo 16,jw 17,jo 18,jw 19]) kR kR rfl rfl (kO (k:=0) rfl nm hS rfl rfl rfl (.inr rfl) (kQ (i:=2) (U':=[jv 3,jo 4,jo 5,jo 6,ju 7,jo 8,jo 9,jo 10,ju 11,jo 12,ju 13,jo 14,ju 15,jo 16,jw 17,jo 18,jw 19]) kR kR rfl rfl (ko h8 (kQ (i:=4) (U':=[jv 3,jo 5,jo 6,ju 7,jo 8,jo 9,jo 10,ju 11,jo 12,ju 13,jo 14,ju 15,jo 16,jw 17,jo 18,jw 19]) kR kR rfl rfl (ko rfl (kQ (i:=6) (U':=[jv 3,jo 5,ju 7,jo 8,jo 9,jo 10,ju 11,jo 12,ju 13,jo 14,ju 15,jo 16,jw 17,jo 18,jw 19]) kR kR rfl rfl (ko h8 (pL (i:=7) (U':=[jv 3,jo 5,jo 8,jo 9,jo 10,ju 11,jo 12,ju 13,jo 14,ju 15,jo 16,jw 17,jo 18,jw 19]) kR kR rfl rfl (kO (k:=0) rfl nm hS rfl rfl rfl (.inr rfl) (kQ (i:=8) (U':=[jv 3,jo 5,jo 9,jo 10,ju 11,jo 12,ju 13,jo 14,ju 15,jo 16,jw 17,jo 18,jw 19]) kR kR rfl rfl (ko rfl (kQ (i:=9) (U':=[jv 3,jo 5,jo 10,ju 11,jo 12,ju 13,jo 14,ju 15,jo 16,jw 17,jo 18,jw 19]) kR kR rfl rfl (oU rfl rfl (cF _ oO) (kQ (i:=10) (U':=[jv 3,jo 5,ju 11,jo 12,ju 13,jo 14,ju 15,jo 16,jw 17,jo 18,jw 19]) kR kR rfl rfl (kD (i:=p) rfl rfl oO dO rG (pL (i:=11) (U':=[jv 3,jo 5,jo 12,ju 13,jo 14,ju 15,jo 16,jw 17,jo 18,jw 19]) kR kR rfl rfl (nh [_,_] rfl rU hS oO hlp (kQ (i:=12) (U':=[jv 3,jo 5,ju 13,jo 14,ju 15,jo 16,jw 17,jo 18,jw 19]) kR kR rfl rfl (ko h8 (pL (i:=13) (U':=[jv 3,jo 5,jo 14,ju 15,jo 16,jw 17,jo 18,jw 19]) kR kR rfl rfl (kO (k:=0) rfl nm hS rfl rfl rfl (.inr rfl) (kQ (i:=14) (U':=[jv 3,jo 5,ju 15,jo 16,jw 17,jo 18,jw 19]) kR kR rfl rfl (kD (i:=k) rfl rfl oO dO rG (pL (i:=15) (U':=[jv 3,jo 5,jo 16,jw 17,jo 18,jw 19]) kR kR rfl rfl (nh [_,_] rfl rU hS oO hlk ?_)))))))))))))))))))))))))));refine kQ (i:=16) (U':=[jv 3,jo 5,jw 17,jo 18,jw 19]) kR kR rfl rfl (kD (i:=k) rfl rfl oO dO rG ?_);refine qK (x:=jv 3) (y:=jw 17) (U':=[jo 5,jw 17,jo 18,jw 19]) (U'':=[jv 3,jo 5,jo 18,jw 19]) kR kR kR ?_ ?_
    ·refine kM rfl rfl (qn (kO (k:=0) rfl nm hS rfl rfl rfl (.inr rfl) ?_));refine⟨Below.refl _ _,?_⟩;refine kQ (i:=5) (U':=[jw 17,jo 18,jw 19]) kR kR rfl rfl (oU rfl rfl (cF _ oO) (kV (x:=jw 17) (U':=[jo 18,jw 19]) kR kR (lh rfl rfl (rY [_,_] (i:=k) rfl rfl rU hS oO (by rw[aS];exact hlk) (Aq _) ?_))));intro wz14 hS;refine kQ (i:=18) (U':=[jw 19]) kR kR rfl rfl (kD (i:=p) rfl rfl oO dO rG (kV (x:=jw 19) (U':=[]) kR kR (lh rfl rfl (rY [_,_] (i:=p) rfl rfl rU hS oO (by rw[ce,aS];exact hlp) (Aq _) ?_))));intro wz15 hS;refine nk ?_;refine ja ?_;exact⟨_,rfl,jY,jY,jY,rfl,jY,jY,Fg [_,_] hlk hlp hS⟩
    ·refine lh rfl rfl (rY [_,_] (i:=k) rfl rfl rU hS oO (by rw[aS];exact hlk) (Aq _) ?_);intro wz16 hS;refine kV (x:=jv 3) (U':=[jo 5,jo 18,jw 19]) kR kR (kM rfl rfl (qn (kO (k:=0) rfl nm hS rfl rfl rfl (.inr rfl) ?_)));refine⟨Below.refl _ _,?_⟩;refine kQ (i:=5) (U':=[jo 18,jw 19]) kR kR rfl rfl (oU rfl rfl (cF _ oO) (kQ (i:=18) (U':=[jw 19]) kR kR rfl rfl (kD (i:=p) rfl rfl oO dO rG (kV (x:=jw 19) (U':=[]) kR kR (lh rfl rfl (rY [_,_] (i:=p) rfl rfl rU hS oO (by rw[ce,aS];exact hlp) (Aq _) ?_))))));intro wz17 hS;refine nk ?_;refine ja ?_;exact⟨_,rfl,jY,jY,jY,rfl,jY,jY,Fg [_,_] hlk hlp hS⟩
   clear hS;rintro ρ wsw ⟨h7,h8,h11,h12,h56,h57,hS⟩;refine ja ?_;have hR2:mx (BJ RW k p) n (n+1) (If f k p):=hRW.Gh hkn hpn;have hsz2:=MW hkn hpn hsz;have hl0:last.mag≠0:=λg=>Il k hkP (by rw[<-hlv,O8.2 g];rfl);have hrs:=NO hWh hrep hkP oO (by rw[<-hpp];exact hpn) hlv;rw[<-hpp,<-Ts]at hrs;have hnx:=(wU hkP (by rw[<-hpp];exact hpn)).1;have hel:=λwx h=>Dn (H:=[(b12,3,[Value.int .i64 k]),(b11,223,mH last)]++[]) (w0:=w) (bo:=bw) k last (SS S0 k) wx hR2 oO oO hkn oO hsz2 hlz hl0 oO h;refine J3 ?_;refine jh (j6 Tryz.call145 rfl (hel _ (hS.perm (Bv _ _))) ?_);rintro u w6 ⟨rfl,R',hR',hS'⟩;clear hS;have hS:=hS'.perm (Bv _ _).symm;clear hS';have hlk':k<R'.length:=by rw[hR'.len];exact hkn
   have hxk':=hR'.xQ hkn;have hgk':(R'.getD k ov).X.getD k Ap=uM (If f k p) k last k k:=hR'.get hkn oO _;have hsz3:=JB hsz2 last hkn (by omega:k<n+1);refine ja ?_;refine kC [jo 0,ju 1,jo 2,ju 3,ju 4,jo 5,ju 6,jw 7] kR kR hS ?_;intro wz18 hS hBz18;refine J2 ?_;refine jl rfl (kD (i:=k) rfl rfl oO dO rG (jm rfl (nh [_,_] rfl rU hS oO hlk' ?_)));refine J1 ?_;refine jl rfl (kD (i:=k) rfl rfl oO dO ru (jm rfl (qW [_,_] (i:=k) (j:=k) Ap mR rfl oP hS rfl hlk' oO oO (bQ _ (bQ _ hgk')) (.inl rfl) ?_)));refine J1 ?_;intro wz19 hS;refine ja ?_;replace hS:St w _ ([(b12,3,[Value.int .i64 k]),(b11,223,mH (uM (If f k p) k last k k))]++mB mH 223 220 bw R' []):=hS;refine V2 ?_;refine⟨k+1,_,rfl,⟨hkn,hnx,jY,jY,jY,jY,vi rfl oO,R',_,_,hR',?_,hsz3,?_,hsz3 k hkn k oO,hS.drop (ab _ _)⟩,oO⟩
   ·intro i hi j hj;show((zv (uM (If f k p) k last i j):Int):Rat)=_;rw[Kf];exact hrs.1 i hi j hj
   ·rw[Kf];exact hrs.2
  ·refine J1 ?_;refine jt ?_;obtain rfl:n=k:=oO;exact⟨_,rfl,hkP,h7,h8,RW,f,hRW,hrep,hsz,hS.drop (ab _ _)⟩
 clear hS hRW;rintro ρ w4 ⟨hfull,h7,h8,RW,f,hRW,hrep,hsz,hS⟩;have hqf:=(hfi n).1 hfull;have hIn:=rinv n Bm n;have hdn:=Il n hfull;have hSn:=hSS n (aH _);have e0:Kb A B=0:=by rw[e1,aj hqf]
 rw[hslL e0,e0];have hval:∀i,i<n->(f i i).mag≠0/\((zv (f i n):Int):Rat)/((zv (f i i):Int):Rat)=(lD n q n).M i n:=by
  intro i hi;have g1:((zv (f i i):Int):Rat)=dd n Bm n*(lD n Bm n).M i i:=hrep i hi i oO;have g2:((zv (f i n):Int):Rat)=dd n Bm n*(lD n Bm n).M i n:=hrep i hi n oO;rw[Aj hIn hfull hi hi,xd,i2]at g1;rw[hfs hqf i hi n]at g2;refine⟨λg=>hdn (by rw[<-g1,O8.2 g];rfl),?_⟩;rw[g1,g2,bT];have:=bY _ hdn;grind
 obtain⟨gM,hgM⟩:∃gM:Nat->Rat,gM=λi=>(lD n q n).M i n:=⟨_,rfl⟩;rw[show(ky n λi=>j8 ((lD n q n).M i n))=ky n λi=>j8 (gM i) by rw[hgM]];replace hval:∀i,i<n->(f i i).mag≠0/\((zv (f i n):Int):Rat)/((zv (f i i):Int):Rat)=gM i:=by rw[hgM];exact hval
 refine J1 ?_;refine jh (lR (enc:=j5) (n:=n) kP rfl rfl kK rfl oO oO oO oO hS ?_);intro b98 wz20 hS hBz20;refine V1 ?_;replace hS:St w _ ([(b98,32,(List.replicate n kP).flatMap j5)]++mB mH 223 220 bw RW []):=hS;rw[Qr gM]at hS;refine J3 ?_;refine jb ?_;refine kx (λρ w'=>ρ 14= .slice (some ⟨b98,0,none⟩) n n/\St w w' ([(b98,32,(ky n λa=>j8 (oF gM n a)).flatMap j5)]++mB mH 223 220 bw RW [])) ?_ ?_
 ·refine ja ?_;refine ku (σ:=Nat) (λi ρ w'=>i<=n/\ρ 7=iB n/\ρ 14= .slice (some ⟨b98,0,none⟩) n n/\ρ 99= .slice (some ⟨bw,0,none⟩) n n/\ρ 100=iB n/\ρ 101=iB i/\St w w' ([(b98,32,(ky n λa=>j8 (oF gM i a)).flatMap j5)]++mB mH 223 220 bw RW [])) (λi=>n-i) 0
   ⟨aB _,jY,rfl,rfl,rfl,rfl,hS⟩ ?_
  clear hS;rintro i ρ w5 ⟨hi,h7,h14,h99,h100,h101,hS⟩;have hto:=j9 n λa=>j8 (oF gM i a);refine V1 ?_;by_cases hlt:i<n
  ·refine V1 ?_;have hli:i<RW.length:=by rw[hRW.len];exact hlt
   have htr:=j9 (n+1) (f i);have hgn:(ky (n+1) (f i)).getD n Ap=f i n:=kz _ _ oO;have hgi:(ky (n+1) (f i)).getD i Ap=f i i:=kz _ _ oO;have q1:=hsz i hlt n oO;have q2:=hsz i hlt i oO;unfold x6 at q1 q2;obtain⟨hm0,hqv⟩:=hval i hlt;have hmk:=λw=>Gu ((f i n).neg !=(f i i).neg) (kG (f i n).mag) (kG (f i i).mag) w oO oO (by rw[kY];exact hm0);rw[kY,kY,RA hm0]at hmk;have hmk2:((sg (f i n).neg (f i n).mag:Int):Rat)/((sg (f i i).neg (f i i).mag:Int):Rat)=gM i:=hqv;rw[hmk2]at hmk;refine J1 ?_;refine jp (kD (i:=i) h99 h101 oO dO rG (jq (nh [_] rfl rU hS oO hli ?_)));refine V2 ?_;have hrow:=hRW.sl (hS.drop (ab _ _)) mR hlt;refine ja ?_;refine kC [jo 0,jo 1,jo 2,jo 3,jo 4,jo 5,ju 6,jo 7,jo 8,jo 9,jo 10,ju 11,jo 12,jo 13,jo 14,jo 15,jo 16,ju 17,jo 18,jo 19,jo 20,jo 21,ju 22,jv 23,jo 24,jo 25,jo 26,jo 27,jw 28] kR kR hS ?_;intro wz21 hS hBz21;refine J4 ?_;refine jl rfl (kj (i:=n) rfl rfl (hRW.sl (hS.drop (ab _ _)) mR hlt) oO dO ru ?_);refine jl rfl (oR rfl (nw (hRW.sl (hS.drop (ab _ _)) mR hlt) (λ_=>rfl) dD dO) ze ?_);refine jm rfl (oL (i:=n) (off:=0) Ap rfl p9 (hRW.sl (hS.drop (ab _ _)) mR hlt) (λ_=>rfl) dD dO rfl rfl (.inr rfl) ?_);refine J2 ?_;refine jl rfl (kj (i:=i) rfl rfl (hRW.sl (hS.drop (ab _ _)) mR hlt) oO dO ru ?_);refine jl rfl (oR rfl (nw (hRW.sl (hS.drop (ab _ _)) mR hlt) (λ_=>rfl) dD dO) ze ?_);refine jm rfl (oL (i:=i) (off:=0) Ap rfl p9 (hRW.sl (hS.drop (ab _ _)) mR hlt) (λ_=>rfl) dD dO rfl rfl (.inr rfl) ?_);refine jl rfl (Cd rfl rfl Tryz.underlying4 ?_);refine J2 ?_;refine jl rfl (kj (i:=n) rfl rfl (hRW.sl (hS.drop (ab _ _)) mR hlt) oO dO ru ?_);refine jl rfl (oR rfl (nw (hRW.sl (hS.drop (ab _ _)) mR hlt) (λ_=>rfl) dD dO) ww ?_);refine jm rfl (oL (i:=n) (off:=1) Ap rfl tT (hRW.sl (hS.drop (ab _ _)) mR hlt) (λ_=>rfl) dD dO rfl rfl (.inr rfl) ?_);refine J2 ?_;refine jl rfl (kj (i:=i) rfl rfl (hRW.sl (hS.drop (ab _ _)) mR hlt) oO dO ru ?_);refine jl rfl (oR rfl (nw (hRW.sl (hS.drop (ab _ _)) mR hlt) (λ_=>rfl) dD dO) ww ?_);refine jm rfl (oL (i:=i) (off:=1) Ap rfl tT (hRW.sl (hS.drop (ab _ _)) mR hlt) (λ_=>rfl) dD dO rfl rfl (.inr rfl) ?_);rw[hgn,hgi];refine jn rfl (j6 Tryz.call146 rfl (hmk _) ?_);rintro _ wc22 ⟨rfl,hBc22⟩;replace hS:=hS.km hBc22;refine⟨hBc22,?_⟩;refine J3 ?_;refine jl rfl (kD (i:=i) rfl rfl oO dO kK ?_);refine jx rfl (zp (k:=0) (i:=i) (enc:=j5) (j8 (gM i)) (λ_=>rfl) rfl rfl kf hS rfl (by first|omega|simp) dO rfl rfl ?_);intro wz23 hS;refine ja ?_;replace hS:St w _ ([(b98,32,((ky n λa=>j8 (oF gM i a)).set i (j8 (gM i))).flatMap j5)]++mB mH 223 220 bw RW []):=hS;rw[TB]at hS;refine V2 ?_;exact⟨i+1,_,rfl,⟨hlt,jY,jY,jY,jY,vi rfl oO,hS⟩,oO⟩
  ·refine J1 ?_;refine jt ?_;obtain rfl:n=i:=oO;exact⟨_,rfl,h14,hS⟩
 clear hS;rintro ρ w5 ⟨h14,hS⟩;have e3:(ky n λa=>j8 (oF gM n a))=ky n λi=>j8 (gM i):=kF λa ha=>by unfold oF;rw[aj ha]
 rw[e3]at hS;refine V3 ?_;have hTT:=hS.sle (k:=0) (n:=n) (cap:=n) rfl ks (by rw[j9];omega) oO oO;rw[aV (by rw[j9];omega)]at hTT;refine jt ?_;refine rD rfl rfl rfl ?_;exact⟨⟨_,rfl,hTT⟩,hS.j4⟩
structure Pa where
 c:Int
 q:Rat
structure Tr where
 ps:List Pa
 sm:Rat
def TN:Pa:=⟨0,0⟩
def rH:Tr:=⟨[],0⟩
def ph (p:Pa):List Value:= .int .i64 p.c::j5 (j8 p.q)
def na (p:Tr×Value):List Value:=p.2::j5 (j8 p.1.sm)
theorem D9:∀p,(ph p).length=4:=λ_=>rfl
theorem rQ:∀p,(na p).length=4:=λ_=>rfl
theorem Mq (xs:List Pa):∀u∈xs.flatMap ph,u.oneCell'=true:=by
 intro u hu;obtain⟨x,_,hx⟩:=dQ.1 hu;simp only[ph,j5,bJ,df,fM]at hx;rcases hx with rfl|rfl|rfl|rfl<;>rfl
def SI (p:Pa):Value:= .agg #[.int .i64 p.c,.bool (j8 p.q).neg,.string (j8 p.q).num,.string (j8 p.q).den]
def yV (t:Tr) (v:Value):Value:= .agg #[v,.bool (j8 t.sm).neg,.string (j8 t.sm).num,.string (j8 t.sm).den]
structure Iq (w:World) (v:Value) (T:List Tr) (vs:List Value):Prop where
 len:vs.length=T.length
 sl:Sl na 4 w v (T.zip vs)
 ps:∀i,i<T.length->Sl ph 4 w (vs.getD i undef) (T.getD i rH).ps
section
variable {w w' : World} {v : Value} {T : List Tr} {vs : List Value}
theorem Iq.j4 (h:Iq w v T vs) (hb:Below w.heap.size w w'):Iq w' v T vs:=⟨h.len,h.sl.j4 hb,λi hi=>(h.ps i hi).j4 hb⟩
theorem Iq.Oy (h:Iq w v T vs):(T.zip vs).length=T.length:=by rw[j3,h.len,Nat.min_self]
theorem Iq.O4 (h:Iq w v T vs) {i:Nat} (hi:i<T.length):(T.zip vs).getD i (rH,undef)=(T.getD i rH,vs.getD i undef):=by
 have h1:i<vs.length:=by rw[h.len];exact hi
 rw[nu _ _ (by rw[h.Oy];exact hi),List.getElem_zip,nu T rH hi,nu vs undef h1]
end
def st (T:List Tr) (k:Nat):Rat:=kg (λj=>(T.getD j rH).sm) k
def lY:List Tr->Rat->Nat
 | [],_=>0
 |t::T,m=>if m<t.sm then 0 else lY T (m-t.sm)+1
theorem ti:∀(T:List Tr) (m:Rat),lY T m<=T.length
 | [],_=>aH _
 |t::T,m=>by
  unfold lY;split
  ·exact aB _
  ·have:=ti T (m-t.sm);rw[bj];omega
theorem tv (t:Tr) (T:List Tr):∀k,st (t::T) (k+1)=t.sm+st T k
 |0=>by show(0:Rat)+t.sm=t.sm+0;grind
 |k+1=>by
  show st (t::T) (k+1)+_=t.sm+(st T k+_);rw[tv t T k,Rat.add_assoc];rfl
theorem EF:∀ {T:List Tr} {m:Rat} {k:Nat},k<=T.length->(∀j,j<k->¬m-st T j<(T.getD j rH).sm)->(k<T.length->m-st T k<(T.getD k rH).sm)->lY T m=k
 | [],_,k,hk,_,_=>by
  obtain rfl:k=0:=Nat.le_zero.1 hk;rfl
 |t::T,m,0,_,_,h2=>by
  have:=h2 (iP _);have e:m-st (t::T) 0=m:=by show m-0=m;grind
  rw[e]at this;exact aj this
 |t::T,m,k+1,hk,h1,h2=>by
  have e:m-st (t::T) 0=m:=by show m-0=m;grind
  have h0:¬m<t.sm:=by
   have h0:=h1 0 (iP _);rw[e]at h0;exact h0
  have e2:∀j,m-st (t::T) (j+1)=(m-t.sm)-st T j:=λj=>by rw[tv];grind
  have ih:=EF (T:=T) (m:=m-t.sm) (k:=k) (by rw[bj]at hk;omega) (λj hj=>by have:=h1 (j+1) oO;rw[e2]at this;exact this) (λhk'=>by have:=h2 (by rw[bj];omega);rw[e2]at this;exact this);unfold lY;rw[ah h0,ih]
def ri (T:List Tr) (m:Rat):Rat:=m-st T (lY T m)
def xK (T:List Tr):Nat:=(T.map λt=>L t.sm+1).sum
theorem zH (t:Tr) (T:List Tr):xK (t::T)=L t.sm+1+xK T:=by unfold xK;rw[db,iF]
theorem P7:∀(T:List Tr) (k:Nat),k<=T.length->L (st T k)<=xK T+1
 |_,0,_=>by show L 0<=_;rw[nW];omega
 | [],k+1,h=>absurd h (Nat.not_succ_le_zero _)
 |t::T,k+1,h=>by
  have ih:=P7 T k (by rw[bj]at h;omega);have:=Aw t.sm (st T k);rw[tv,zH];omega
theorem y7:∀(T:List Tr) {k:Nat},k<T.length->L (T.getD k rH).sm+1<=xK T
 | [],_,h=>absurd h (aW _)
 |t::T,0,_=>by rw[zH];exact Nat.le_add_right _ _
 |t::T,k+1,h=>by
  have:=y7 T (k:=k) (by rw[bj]at h;omega);rw[zH];show L (T.getD k rH).sm+1<=_;omega
theorem FC (T:List Tr) (m:Rat) {k:Nat} (hk:k<=T.length):L (m-st T k)<=L m+xK T+2:=by
 have:=s8 m (st T k);have:=P7 T k hk;omega
theorem zT (v:Value) (T:List Tr) (vs:List Value) (m:Rat) (w:World) (hT:Iq w v T vs) (hK:2*(L m+xK T+2)<=MX):
  lU Tryz.prog 130 #[v,kW (j8 m)] w λr w'=>r= .tuple #[.int .i64 (lY T m),kW (j8 (ri T m))]/\Below w.heap.size w w':=by
 have hzl:=hT.Oy;have hmx:=hT.sl.maxLen;rw[hzl]at hmx;have hS:=St.init w;have e0:j8 m=j8 (m-st T 0):=by congr 1;show m=m-0;grind
 refine enter Tryz.func130 rfl Tryz.ntmps130 rfl ?_;refine jr ?_;refine jh (kZ (new:=j5 (j8 m)) rfl rfl hS ?_);intro b3 wz1 hS hBz1;refine J2 ?_;intro b5 wz2 hS hBz2;refine J1 ?_;refine jp (ki rfl (hT.sl.j4 hS.j4) ⟨_,Tryz.underlying109⟩ ?_);refine V1 ?_;rw[hzl];rw[e0]at hS;refine ku (σ:=Nat) (λk ρ w'=>k<=T.length/\(∀j,j<k->¬m-st T j<(T.getD j rH).sm)/\ρ 0=v/\ρ 3=pB b3/\ρ 5=pB b5/\ρ 8=v/\ρ 9=iB T.length/\ρ 10=iB k/\
   St w w' [(b5,32,j5 kP),(b3,32,j5 (j8 (m-st T k)))]) (λk=>T.length-k) 0
  ⟨aB _,λj hj=>absurd hj (aW _),rfl,rfl,rfl,rfl,rfl,rfl,hS⟩ ?_
 clear hS e0;rintro k ρ w2 ⟨hk,hall,h0,h3,h5,h8,h9,h10,hS⟩;have hLm:=FC T m hk;refine V1 ?_;by_cases hlt:k<T.length
 ·refine V1 ?_;have hzg:=hT.O4 hlt;have hLk:=y7 T hlt;obtain⟨pa,pc,hpe,_⟩:=(hT.ps k hlt).form;rw[hpe]at hzg;obtain⟨pn,hpn⟩:=jz ((T.getD k rH).ps.length);rw[<-hpn]at hzg;refine J1 ?_;refine jp (kj (i:=k) h8 h10 (hT.sl.j4 hS.j4) oO dO rV (jq (kt (v:=yV (T.getD k rH) (.slice pa pn pc)) (i:=k) (rH,undef) rfl sN (hT.sl.j4 hS.j4) oO rfl (by rw[hzg];rfl) (.inl rfl) ?_)));refine J1 ?_;intro b7 wz3 hS hBz3;refine J2 ?_;intro wz4 hS;refine ja ?_;replace hS:St w _ [(b7,157,na (T.getD k rH,.slice pa pn pc)),(b5,32,j5 kP),(b3,32,j5 (j8 (m-st T k)))]:=hS;refine J3 ?_;refine jh (j6 Tryz.call50 rfl (pg (j8 (m-st T k)) (j8 (T.getD k rH).sm) _ (by rw[Lr_ofQ,Lr_ofQ];omega)) ?_);rintro _ wc5 ⟨rfl,hBc5⟩;replace hS:=hS.km hBc5;refine V1 ?_;rw[toQ_ofQ,toQ_ofQ];by_cases hc:m-st T k<(T.getD k rH).sm
  ·have hf:lY T m=k:=EF hk hall λ_=>hc;refine k9 rfl (ao (C5.2 hc)) ?_;refine ja ?_;refine kC [jo 0,ju 1,jo 2,jw 3] kR kR hS ?_;intro wz6 hS hBz6;refine J4 ?_;intro wz7 hS;refine jt ?_;refine tP (k:=1) rfl h5 rfl kf hS rfl rfl ?_;exact⟨by unfold ri;rw[hf];rfl,hS.j4⟩
  ·refine lx rfl (ae (λg=>hc (C5.1 g))) ?_;refine J3 ?_;refine jh (j6 Tryz.call16 rfl (mA (j8 (m-st T k)) (j8 (T.getD k rH).sm) _ (by rw[Lr_ofQ,Lr_ofQ];omega)) ?_);rintro r w3 ⟨rfl,hB3⟩;have e1:m-st T k-(T.getD k rH).sm=m-st T (k+1):=by show _=m-(st T k+(T.getD k rH).sm);grind
   rw[toQ_ofQ,toQ_ofQ,e1];replace hS:=hS.km hB3;refine J1 ?_;intro wz8 hS;refine ja ?_;replace hS:St w _ [(b7,157,na (T.getD k rH,.slice pa pn pc)),(b5,32,j5 kP),(b3,32,j5 (j8 (m-st T (k+1))))]:=hS;refine V2 ?_;refine⟨k+1,_,rfl,⟨hlt,λj hj=> ?_,h0,h3,h5,h8,h9,vi rfl oO,hS.drop (ab _ _)⟩,oO⟩;by_cases e:j=k
   ·rw[e];exact hc
   ·exact hall j oO
 ·refine J1 ?_;refine jt ?_;have hf:lY T m=k:=EF hk hall λh=>absurd h hlt;obtain rfl:k=T.length:=oO;refine ja ?_;refine kC [jo 0,jo 1,ju 2,jo 3,jw 4] kR kR hS ?_;intro wz9 hS hBz9;refine J1 ?_;refine jl rfl (ki rfl (hT.sl.j4 hS.j4) ⟨_,Tryz.underlying109⟩ ?_);refine J3 ?_;intro wz10 hS;refine ja ?_;rw[hzl];refine jt ?_;refine tP (k:=0) rfl h5 rfl kf hS rfl rfl ?_;exact⟨by unfold ri;rw[hf];rfl,hS.j4⟩
end Go.Proofs.YtoeiejliehgopaaGreatDoor
