import Derived.Test.YtoeiejliehgopaaGreatDoorUd4
set_option maxRecDepth 20000
set_option maxHeartbeats 8000000
namespace Go.Proofs.YtoeiejliehgopaaGreatDoor
open Go Go.RowKit Go.Sx
def nI (L:List Nat):List Int:=L.map λi:Nat=>(i:Int)
theorem sc (L:List Nat):(nI L).length=L.length:=aO _
theorem Lk (L:List Nat) (c:Nat):nI (L++[c])=nI L++[(c:Int)]:=by unfold nI;rw[bO];rfl
def BB (K r:Nat):Nat:=4^r*(K+1)
theorem Kp (K r:Nat):BB K (r+1)=4*BB K r:=by unfold BB;rw[bA];rw[bF (4^r) 4,bf]
theorem BE (K:Nat) {r s:Nat} (h:r<=s):BB K r<=BB K s:=aH _ (bM dD h)
theorem SV {M:Mx} {n m r p b:Nat} (hp:p<n) (hr:r<n) (h:∀i,i<n->∀j,j<m->L (M i j)<=b):∀i,i<n->∀j,j<m->L (oH M r p i j)<=b:=by
 intro i hi j hj;unfold oH;split
 ·exact h _ hp j hj
 ·split
  ·exact h _ hr j hj
  ·exact h _ hi j hj
theorem IF {n m:Nat} {M:Mx} {K:Nat} (h:∀i,i<n->∀j,j<m->L (M i j)<=K):∀c,c<=m->(∀i,i<n->∀j,j<m->L ((lF n M c).M i j)+1<=BB K (lF n M c).P.length)/\L (lF n M c).d<=BB K (lF n M c).P.length
 |0,_=>by
  refine⟨λi hi j hj=> ?_,?_⟩
  ·have:=h i hi j hj;show L (M i j)+1<=BB K 0;unfold BB;omega
  ·show L 1<=BB K 0;have:L (((1:Int):Rat))<=1:=VA 1 dD dD;unfold BB;have e:((1:Int):Rat)=1:=rfl;rw[e]at this;omega
 |c+1,hc=>by
  obtain⟨h1,h2⟩:=IF h c oO;show(∀i,i<n->∀j,j<m->L ((sO n c (lF n M c)).M i j)+1<=BB K (sO n c (lF n M c)).P.length)/\L (sO n c (lF n M c)).d<=BB K (sO n c (lF n M c)).P.length;have hlen:=(rinv n M c).len;generalize lF n M c=s at*;obtain⟨q1,_,_,_⟩:=py s.M c hlen;unfold sO;by_cases g:pv s.M c n s.P.length<n
  ·rw[aj g];generalize pv s.M c n s.P.length=p at*;dsimp only;rw[aw,eG,Kp];have hs:=SV (M:=s.M) (m:=m) (r:=s.P.length) (b:=BB K s.P.length-1) g oO (λi hi j hj=>by have:=h1 i hi j hj;omega);have hap:=h1 p g c oO;refine⟨λi hi j hj=> ?_,?_⟩
   ·have hr:=hs s.P.length oO j hj;have hd:=z5 (oH s.M s.P.length p s.P.length j) (s.M p c);by_cases e:i=s.P.length
    ·rw[e,tA];omega
    ·rw[rN _ e];have hi':=hs i hi j hj;have hc':=hs i hi c oO;have hm:=zK (oH s.M s.P.length p i c) (oH s.M s.P.length p s.P.length j/s.M p c);have hsb:=tV (oH s.M s.P.length p i j) (oH s.M s.P.length p i c*(oH s.M s.P.length p s.P.length j/s.M p c));omega
   ·split
    ·have:=zK s.d (s.M p c);omega
    ·have:=zK (-s.d) (s.M p c);have:=C3 s.d;omega
  ·rw[ah g];exact⟨h1,h2⟩
def CP (X:Mx) (r:Nat) (a:Rat) (k:Nat):Mx:=λi j=>if i=r/\j<k then X r j/a else X i j
def Ab (X:Mx) (r c:Nat) (a:Rat) (k:Nat):Mx:=λi j=>if i=r then X r j/a else if i<k then X i j-X i c*(X r j/a)else X i j
theorem Pq (X:Mx) (r c:Nat) (a:Rat) {n i:Nat} (hi:i<n) (j:Nat):Ab X r c a n i j=elim X r a (λi=>X i c) i j:=by
 unfold Ab;by_cases e:i=r
 ·rw[aj e,e,tA]
 ·rw[ah e,aj hi,rN _ e]
theorem Sw (M:Mx) (r p a b:Nat):(if a=p then M r b else if a=r then M p b else M a b)=oH M r p a b:=by
 by_cases h2:a=p
 ·rw[aj h2,h2,sP]
 ·rw[ah h2];by_cases h1:a=r
  ·rw[aj h1,h1,pT]
  ·rw[ah h1,ud M h1 h2]
theorem BT {α:Type} {enc:α->List Value} {tR tS:TypeId} {bo:Nat} {R:List (Rw α)} (pre H:List kV):(pre++mB enc tR tS bo R H).Perm (mB enc tR tS bo R (pre++H)):=by
 unfold mB;refine List.perm_middle.trans (List.Perm.cons _ ?_);rw[<-aF,<-aF];exact bQ _ ay
theorem L8 {n c:Nat} {M:Mx} (h:¬pv (lF n M c).M c n (lF n M c).P.length<n):lF n M (c+1)=lF n M c:=by
 show sO n c (lF n M c)=_;unfold sO;rw[ah h]
theorem HA {n c:Nat} {M:Mx} (h:pv (lF n M c).M c n (lF n M c).P.length<n):lF n M (c+1)=⟨elim (oH (lF n M c).M (lF n M c).P.length (pv (lF n M c).M c n (lF n M c).P.length)) (lF n M c).P.length ((lF n M c).M (pv (lF n M c).M c n (lF n M c).P.length) c) λi=>oH (lF n M c).M (lF n M c).P.length (pv (lF n M c).M c n (lF n M c).P.length) i c,(lF n M c).P++[c],
  (if pv (lF n M c).M c n (lF n M c).P.length=(lF n M c).P.length then(lF n M c).d else-(lF n M c).d)*(lF n M c).M (pv (lF n M c).M c n (lF n M c).P.length) c⟩:=by
 show sO n c (lF n M c)=_;unfold sO;rw[aj h]
theorem I4 {R0:List (Rw RR)} {n m:Nat} {M:Mx} {w0:World} {bo:Nat} {H:List kV} (cols K:Nat) (w:World) (hR0:mx R0 n m (qM M)) (hn:n<=1000) (hm:m<=1000) (hcm:cols<=m) (hL:∀i,i<n->∀j,j<m->L (M i j)<=K) (hK:8*BB K n<=MX) (hS:St w0 w (mB j6 32 34 bo R0 H)):
  lW Tryz.prog 171 #[.slice (some ⟨bo,0,none⟩) n n,.int .i64 cols] w λv w'=>∃vp LP R',v= .tuple #[vp,lu (j9 (lF n M cols).d)]/\Gl tg 3 1 vp (nI (lF n M cols).P) LP/\mx R' n m (qM (lF n M cols).M)/\St w0 w' (mB j6 32 34 bo R' (H++LP)):=by
 have hM:MX=1099511627776:=rfl;refine enter Tryz.func171 rfl Tryz.ntmps171 rfl ?_;refine J2 ?_;intro b5 wz1 hS hBz1;refine Y1 ?_;refine jh (j7 Tryz.call33 rfl (mH 1 _ dD dD) ?_);rintro _ wc2 ⟨rfl,hBc2⟩;replace hS:=hS.ko hBc2;refine J1 ?_;intro b7 wz3 hS hBz3;refine J1 ?_;intro wz4 hS;refine J1 ?_;refine jb ?_;rw[<-aK H]at hS;refine kz (λρ w'=>ρ 5=pB b5/\ρ 7=pB b7/\∃vp LP R,ρ 6=vp/\Gl tg 3 1 vp (nI (lF n M cols).P) LP/\mx R n m (qM (lF n M cols).M)/\St w0 w' ([(b7,32,j6 (j9 (lF n M cols).d)),(b5,32,j6 kP)]++mB j6 32 34 bo R (H++LP))) ?_ ?_
 ·refine ja ?_;refine kx (σ:=Nat) (λc ρ w'=>c<=cols/\ρ 0= .slice (some ⟨bo,0,none⟩) n n/\ρ 1=iB cols/\ρ 5=pB b5/\ρ 7=pB b7/\ρ 8=iB c/\
    ∃vp LP R,ρ 6=vp/\Gl tg 3 1 vp (nI (lF n M c).P) LP/\mx R n m (qM (lF n M c).M)/\St w0 w' ([(b7,32,j6 (j9 (lF n M c).d)),(b5,32,j6 kP)]++mB j6 32 34 bo R (H++LP))) (λc=>cols-c) 0
   ⟨ax _,rfl,rfl,rfl,rfl,rfl,_,[],R0,rfl,Gl.nil _ _ _,hR0,hS⟩ ?_
  clear hS;rintro c ρ w2 ⟨hc,h0,h1,h5,h7,h8,vp,LP,R,h6,hG,hR,hS⟩;have hlen:=(rinv n M c).len;obtain⟨hB1,hB2⟩:=IF hL c oO;obtain⟨av,cv,hvp⟩:=hG.len;rw[sc]at hvp;obtain⟨r,hr⟩:=jz ((lF n M c).P.length);rw[<-hr]at hlen hB1 hB2 hvp;subst hvp;refine ja ?_;by_cases hcl:c<cols
  ·by_cases hrn:r<n
   ·refine J4 ?_;refine kf (j8 18 kR rfl dT) (ks h6 (kf (j8 18 kR rfl dT) (pR rfl ⟨_,Tryz.underlying46⟩ (kf (j8 18 kR rfl dT) (ks h0 (kf (j8 18 kR rfl dT) (pR rfl ⟨_,Tryz.underlying35⟩ (kf (j8 18 kR rfl dT) (wm rfl rfl (jp (kC (vb rfl dT) rfl ?_)))))))))));refine V1 ?_;have hmts:=hR.K0 (hS.drop (ao _ _)) kt (cap:=n) (aB _) oO;refine J6 ?_;refine jh (j7 Tryz.call196 rfl (MF _ _ n m (lF n M c).M r c _ hmts oO oO) ?_);rintro _ wc5 ⟨rfl,hBc5⟩;replace hS:=hS.ko hBc5;refine V3 ?_;obtain⟨p,hp⟩:=jz (pv (lF n M c).M c n r);have hpI:Ve (lF n M c).M c n r=if p<n then(p:Int)else-1:=by rw[hp];rfl
    by_cases hpn:p<n
    ·rw[aj hpn]at hpI;refine lx rfl (ae (by rw[hpI];omega)) ?_;refine ja ?_;have hp3:=py (lF n M c).M c (n:=n) (r:=r) oO;rw[<-hp]at hp3;obtain⟨hrp,_,_,ha⟩:=hp3;replace ha:=ha hpn;have hyes:=HA (n:=n) (c:=c) (M:=M) (by rw[<-hr,<-hp];exact hpn);rw[<-hr,<-hp]at hyes;obtain⟨s,hs⟩:=jz (lF n M c);rw[<-hs]at hyes hB1 hB2 hR hS hG ha hr;obtain⟨a,ha'⟩:∃a,a=s.M p c:=⟨_,rfl⟩;obtain⟨X,hX⟩:=jz (oH s.M r p);obtain⟨d1,hd1⟩:∃d1:Rat,d1=if p=r then s.d else-s.d:=⟨_,rfl⟩
     rw[<-ha',<-hX,<-hd1]at hyes;rw[<-ha']at ha;have hbm:=BE K (r:=r+1) (s:=n) hrn;rw[Kp]at hbm;obtain⟨b,hb⟩:=jz (BB K r);rw[<-hb]at hB1 hB2 hbm;have hLs:∀i,i<n->∀j,j<m->L (s.M i j)<=b-1:=λi hi j hj=>by have:=hB1 i hi j hj;omega
     have hLX:∀i,i<n->∀j,j<m->L (X i j)<=b-1:=by rw[hX];exact SV hpn hrn hLs
     have hLa:L a<=b-1:=by rw[ha'];exact hLs p hpn c oO
     have hb1:1<=b:=by have:=hB1 p hpn c oO;omega
     have hLd:L d1<=b:=by
      rw[hd1];split
      ·exact hB2
      ·rw[C3];exact hB2
     have hXa:X r c=a:=by rw[hX,ha',pT]
     rw[hpI];refine V3 ?_;refine kz (λρ w'=>ρ 0= .slice (some ⟨bo,0,none⟩) n n/\ρ 1=iB cols/\ρ 5=pB b5/\ρ 6= .slice av r cv/\ρ 7=pB b7/\ρ 8=iB c/\ρ 9=iB r/\
      ∃R,mx R n m (qM X)/\St w0 w' ([(b7,32,j6 (j9 d1)),(b5,32,j6 kP)]++mB j6 32 34 bo R (H++LP))) ?_ ?_
     ·have hlr:r<R.length:=by rw[hR.len];exact hrn
      have hlp:p<R.length:=by rw[hR.len];exact hpn
      by_cases hpr:p=r
      ·have eX:X=s.M:=by rw[hX,hpr,EG]
       have ed:d1=s.d:=by rw[hd1,aj hpr]
       refine V1 ?_;rw[eX,ed];exact⟨_,rfl,jY,jY,jY,jY,jY,jY,rfl,R,hR,hS⟩
      ·have ed:d1= -s.d:=by rw[hd1,ah hpr]
       have hR2:=(hR.GR hrn hpn).congr (g:=qM X) λi _ j _=>by
        rw[hX];show(if i=p then j9 (s.M r j)else if i=r then j9 (s.M p j)else j9 (s.M i j))=j9 (oH s.M r p i j);rw[<-Sw];split
        ·rfl
        ·split<;>rfl
       have hneg:=λw=>yA (j9 s.d) w (by rw[Lr_ofQ];omega);rw[toQ_ofQ]at hneg;refine V1 ?_;refine kE [jo 0,jo 1,jo 2,jo 3,jo 4,jo 5,jo 6,ju 7,jo 8,jo 9,jo 10,ju 11,jo 12,jw 13,jo 14,jw 15] kR kR hS ?_;intro wz6 hS hBz6;refine J6 ?_;refine jl rfl (kF (i:=r) rfl rfl oO dO lL (jm rfl (np [_,_] rfl lV hS oO hlr ?_)));refine J2 ?_;refine jl rfl (kF (i:=p) rfl rfl oO dO lL (jm rfl (np [_,_] rfl lV hS oO hlp (jl rfl (kF (i:=p) rfl rfl oO dO lL (jx rfl (r8 [_,_] (i:=p) rfl rfl lV hS oO (by rw[aO];exact hlp) (AC _) ?_)))))));intro wz7 hS;refine jl rfl (kF (i:=r) rfl rfl oO dO lL (jx rfl (r8 [_,_] (i:=r) rfl rfl lV hS oO (by rw[cj,aO];exact hlr) (AC _) ?_)));intro wz8 hS;refine ja ?_;rw[List.set_comm _ _ hpr]at hS;have hS2:=FB [_,_] hlr hlp hS;clear hS;rename _=>hS
       refine J1 ?_;refine jh (j7 Tryz.call105 rfl (hneg _) ?_);rintro _ wc9 ⟨rfl,hBc9⟩;replace hS:=hS.ko hBc9;refine J1 ?_;intro wz10 hS;refine ja ?_;rw[ed];exact⟨_,rfl,jY,jY,jY,jY,jY,jY,rfl,_,hR2,hS⟩
     clear hS hR;rintro ρ w3 ⟨h0,h1,h5,h6,h7,h8,h9,R,hR,hS⟩;have hlr:r<R.length:=by rw[hR.len];exact hrn
     have hxr:=hR.xV hrn;have hgr:(R.getD r oK).X.getD c kP=j9 a:=by rw[hR.get hrn oO];show j9 (X r c)=_;rw[hXa]
     refine J2 ?_;refine jp (kF (i:=r) rfl rfl oO dO lL (jq (np [_,_] rfl lV hS oO hlr ?_)));refine J1 ?_;refine jp (kF (i:=c) rfl rfl oO dO kM (jq (rL [_,_] (i:=r) (j:=c) kP kt rfl ki hS rfl hlr oO oO rfl (.inl rfl) ?_)));refine J1 ?_;intro b11 wz11 hS hBz11;refine J1 ?_;intro wz12 hS;refine ja ?_;rw[hgr]at hS;have hmul:=λw=>rE (j9 d1) (j9 a) w (by rw[Lr_ofQ,Lr_ofQ];omega);rw[toQ_ofQ,toQ_ofQ]at hmul;refine J2 ?_;refine jh (j7 Tryz.call11 rfl (hmul _) ?_);rintro _ wc13 ⟨rfl,hBc13⟩;replace hS:=hS.ko hBc13;refine J1 ?_;intro wz14 hS;refine ja ?_;refine nb (λρ'=>ρ' 0= .slice (some ⟨bo,0,none⟩) n n/\ρ' 1= .int .i64 cols/\ρ' 5= .pointer (some ⟨b5,0,none⟩)/\ρ' 6= .slice av r cv/\ρ' 7= .pointer (some ⟨b7,0,none⟩)/\ρ' 8= .int .i64 c/\ρ' 9= .int .i64 r/\ρ' 11= .pointer (some ⟨b11,0,none⟩)/\True) ⟨h0,h1,h5,h6,h7,h8,h9,rfl,trivial⟩ ?_;rintro ρk15 ⟨hk15_0,hk15_1,hk15_5,hk15_6,hk15_7,hk15_8,hk15_9,hk15_11,-⟩;refine J2 ?_;refine jp (kF (i:=r) rfl rfl oO dO lL (jq (np [_,_,_] rfl lV hS oO hlr ?_)));refine J2 ?_;refine jb ?_;refine kz (λρ w'=>ρ 0= .slice (some ⟨bo,0,none⟩) n n/\ρ 1=iB cols/\ρ 5=pB b5/\ρ 6= .slice av r cv/\ρ 7=pB b7/\ρ 8=iB c/\ρ 9=iB r/\
      ∃R,mx R n m (qM (CP X r a m))/\St w0 w' ([(b11,32,j6 (j9 a)),(b7,32,j6 (j9 (d1*a))),(b5,32,j6 kP)]++mB j6 32 34 bo R (H++LP))) ?_ ?_
     ·refine ja ?_;refine kx (σ:=Nat) (λk ρ w'=>k<=m/\ρ 0= .slice (some ⟨bo,0,none⟩) n n/\ρ 1=iB cols/\ρ 5=pB b5/\ρ 6= .slice av r cv/\ρ 7=pB b7/\ρ 8=iB c/\ρ 9=iB r/\ρ 11=pB b11/\ρ 68=iB m/\ρ 69=iB k/\
       ∃R,mx R n m (qM (CP X r a k))/\St w0 w' ([(b11,32,j6 (j9 a)),(b7,32,j6 (j9 (d1*a))),(b5,32,j6 kP)]++mB j6 32 34 bo R (H++LP))) (λk=>m-k) 0
       ⟨ax _,jY,jY,jY,jY,jY,jY,jY,jY,vi rfl oO,rfl,R,hR.congr λi _ j _=>by show j9 (X i j)=j9 (CP X r a 0 i j);unfold CP;rw[ah oO],hS⟩ ?_
      clear hS hR hlr hxr hgr;rintro k ρ w4 ⟨hk,h0,h1,h5,h6,h7,h8,h9,h11,h68,h69,R,hR,hS⟩;have hlr:r<R.length:=by rw[hR.len];exact hrn
      have hxr:=hR.xV hrn;refine V1 ?_;by_cases hkl:k<m
      ·refine V1 ?_;have hgr:(R.getD r oK).X.getD k kP=j9 (X r k):=by rw[hR.get hrn hkl];show j9 (CP X r a k r k)=_;unfold CP;rw[ah oO]
       have hLk:=hLX r hrn k hkl;have hdiv:=λw=>wh (j9 (X r k)) (j9 a) w (by rw[Lr_ofQ,Lr_ofQ];omega) (by rw[toQ_ofQ];exact ha);rw[toQ_ofQ,toQ_ofQ]at hdiv;refine V2 ?_;refine kE [jo 0,jo 1,jo 2,ju 3,jo 4,jo 5,jo 6,jo 7,ju 8,jo 9,jo 10,ju 11,ju 12,jv 13,jo 14,jo 15,jo 16,jo 17,jw 18] kR kR hS ?_;intro wz16 hS hBz16;refine J2 ?_;refine jl rfl (kF (i:=r) rfl rfl oO dO lL (jm rfl (np [_,_,_] rfl lV hS oO hlr ?_)));refine J3 ?_;refine jl rfl (kF (i:=r) rfl rfl oO dO lL (jm rfl (np [_,_,_] rfl lV hS oO hlr ?_)));refine J1 ?_;refine jl rfl (kF (i:=k) rfl rfl oO dO kM (jm rfl (rL [_,_,_] (i:=r) (j:=k) kP kt rfl ki hS rfl hlr oO oO rfl (.inl rfl) ?_)));refine J1 ?_;rw[hgr];refine jn rfl (j7 Tryz.call108 rfl (hdiv _) ?_);rintro _ wc17 ⟨rfl,hBc17⟩;replace hS:=hS.ko hBc17;refine⟨hBc17,?_⟩;refine J3 ?_;refine jl rfl (kF (i:=k) rfl rfl oO dO kM (jx rfl (yl [_,_,_] (i:=r) (j:=k) (j9 (X r k/a)) kt rfl rfl ki hS rfl hlr oO oO rfl rfl ?_)));intro wz18 hS;refine V2 ?_;refine⟨k+1,_,rfl,⟨hkl,jY,jY,jY,jY,jY,jY,jY,jY,jY,vi rfl oO,_,(hR.put hrn k (j9 (X r k/a))).congr λi _ j _=> ?_,hS⟩,oO⟩;show(if i=r/\j=k then j9 (X r k/a)else j9 (CP X r a k i j))=j9 (CP X r a (k+1) i j);unfold CP;by_cases g:i=r/\j=k
       ·rw[aj g,aj oO,g.2]
       ·rw[ah g];by_cases g2:i=r/\j<k
        ·rw[aj g2,aj oO]
        ·rw[ah g2,ah oO]
      ·refine J1 ?_;refine jt ?_;obtain rfl:k=m:=oO;exact⟨_,rfl,h0,h1,h5,h6,h7,h8,h9,R,hR,hS⟩
     clear hS hR hlr hxr hgr;rintro ρ w4 ⟨h0,h1,h5,h6,h7,h8,h9,R,hR,hS⟩;replace hR:mx R n m (qM (Ab X r c a 0)):=hR.congr λi _ j hj=>by
      show j9 (CP X r a m i j)=j9 (Ab X r c a 0 i j);unfold CP Ab;by_cases e:i=r
      ·rw[aj ⟨e,hj⟩,aj e]
      ·rw[ah (λq=>e q.1),ah e,ah (aS _)]
     replace hS:=hS.drop (ab _ _);refine J3 ?_;refine jb ?_;refine kz (λρ w'=>ρ 0= .slice (some ⟨bo,0,none⟩) n n/\ρ 1=iB cols/\ρ 5=pB b5/\ρ 6= .slice av r cv/\ρ 7=pB b7/\ρ 8=iB c/\
      ∃R,mx R n m (qM (Ab X r c a n))/\St w0 w' ([(b7,32,j6 (j9 (d1*a))),(b5,32,j6 kP)]++mB j6 32 34 bo R (H++LP))) ?_ ?_
     ·refine ja ?_;refine kx (σ:=Nat) (λi ρ w'=>i<=n/\ρ 0= .slice (some ⟨bo,0,none⟩) n n/\ρ 1=iB cols/\ρ 5=pB b5/\ρ 6= .slice av r cv/\ρ 7=pB b7/\ρ 8=iB c/\ρ 9=iB r/\ρ 92=iB n/\ρ 93=iB i/\
       ∃R,mx R n m (qM (Ab X r c a i))/\St w0 w' ([(b7,32,j6 (j9 (d1*a))),(b5,32,j6 kP)]++mB j6 32 34 bo R (H++LP))) (λi=>n-i) 0
       ⟨ax _,jY,jY,jY,jY,jY,jY,jY,rfl,rfl,R,hR,hS⟩ ?_
      clear hS hR;rintro i ρ w4 ⟨hi,h0,h1,h5,h6,h7,h8,h9,h92,h93,R,hR,hS⟩;have hlr:r<R.length:=by rw[hR.len];exact hrn
      refine V1 ?_;by_cases hin:i<n
      ·refine V1 ?_;have hli:i<R.length:=by rw[hR.len];exact hin
       have hxi:=hR.xV hin;have hstep:∀i',i'<n->∀j,i'≠i->Ab X r c a i i' j=Ab X r c a (i+1) i' j:=by
        intro i' _ j hne;unfold Ab;by_cases e:i'=r
        ·rw[aj e,aj e]
        ·rw[ah e,ah e];by_cases e2:i'<i
         ·rw[aj e2,aj oO]
         ·rw[ah e2,ah oO]
       refine V2 ?_;by_cases hir:i=r
       ·refine J4 ?_;refine kN (kb 99 kR rfl dF) (kN (kb 99 kR rfl dF) (kN (kb 99 kR rfl dF) (kN (kb 99 kR rfl dF) (kN (kb 99 kR rfl dF) (kN (kb 99 kR rfl dF) (kN (kb 99 kR rfl dF) (kN (kb 99 kR rfl dF) (kN (kb 99 kR rfl dF) (jp (kC (vb rfl dF) rfl ?_))))))))));refine ja ?_;refine lx rfl (rfl) ?_;refine V2 ?_;refine⟨i+1,_,rfl,⟨hin,jY,jY,jY,jY,jY,jY,jY,jY,vi rfl oO,R,hR.congr λi' hi' j _=> ?_,hS⟩,oO⟩;show j9 (Ab X r c a i i' j)=j9 (Ab X r c a (i+1) i' j);by_cases e:i'=i
        ·unfold Ab;rw[aj oO,aj oO]
        ·rw[hstep i' hi' j e]
       ·have hgi:(R.getD i oK).X.getD c kP=j9 (X i c):=by rw[hR.get hin oO];show j9 (Ab X r c a i i c)=_;unfold Ab;rw[ah hir,ah (dB _)]
        refine J4 ?_;refine kf (j8 99 kR rfl dT) (ks h0 (kf (j8 99 kR rfl dT) (ks rfl (kf (j8 99 kR rfl dT) (kF (i:=i) rfl rfl oO dO lL (lD (j8 99 kR rfl dT) (np [_,_] rfl lV hS oO hli (kf (j8 99 kR rfl dT) (ks h8 (kf (j8 99 kR rfl dT) (kF (i:=c) rfl rfl oO dO kM (lD (j8 99 kR rfl dT) (rL [_,_] (i:=i) (j:=c) kP kt rfl ki hS rfl hli oO oO rfl (.inl rfl) ?_)))))))))))));rw[hgi];refine oS (j8 99 kR rfl dT) (j7 Tryz.call197 rfl (AK _ _) ?_);rintro r w5 ⟨rfl,hB5⟩;replace hS:=hS.ko hB5;refine kf (j8 99 kR rfl dT) (x9 rfl (jp (kC (vb rfl dT) rfl ?_)));refine ja ?_;by_cases hz:X i c=0
        ·refine lx rfl (by rw[ak hz];rfl) ?_;refine V2 ?_;refine⟨i+1,_,rfl,⟨hin,jY,jY,jY,jY,jY,jY,jY,jY,vi rfl oO,R,hR.congr λi' hi' j _=> ?_,hS⟩,oO⟩;show j9 (Ab X r c a i i' j)=j9 (Ab X r c a (i+1) i' j);by_cases e:i'=i
         ·rw[e];unfold Ab;rw[ah hir,ah hir,ah (dB _),aj (eg _),hz];congr 1;grind
         ·rw[hstep i' hi' j e]
        ·refine k9 rfl (by rw[ae hz];rfl) ?_;refine ja ?_;have hLe:∀j,j<m->L (Ab X r c a i i j)<=2*b/\L (Ab X r c a i r j)<=2*b:=by
          intro j hj;have q1:=hLX i hin j hj;have q2:=hLX r hrn j hj;have q3:=z5 (X r j) a;constructor
          ·unfold Ab;rw[ah hir,ah (dB _)];omega
          ·unfold Ab;rw[aj rfl];omega
         have hmin:=λw h=>Ny (H:=[(b7,32,j6 (j9 (d1*a))),(b5,32,j6 kP)]++(H++LP)) (w0:=w0) (bo:=bo) i r (X i c) (2*b) w hR hm hin hrn hir hLe (by have:=hLX i hin c oO;omega) oO h;refine ja ?_;refine kE [jo 0,jo 1,jo 2,ju 3,jo 4,jo 5,jo 6,ju 7,jo 8,jo 9,jo 10,ju 11,jo 12,jo 13,ju 14,jw 15] kR kR hS ?_;intro wz19 hS hBz19;refine J2 ?_;refine jl rfl (kF (i:=i) rfl rfl oO dO lL (jm rfl (np [_,_] rfl lV hS oO hli ?_)));refine J2 ?_;refine jl rfl (kF (i:=r) rfl rfl oO dO lL (jm rfl (np [_,_] rfl lV hS oO hlr ?_)));refine J2 ?_;refine jl rfl (kF (i:=i) rfl rfl oO dO lL (jm rfl (np [_,_] rfl lV hS oO hli ?_)));refine J1 ?_;refine jl rfl (kF (i:=c) rfl rfl oO dO kM (jm rfl (rL [_,_] (i:=i) (j:=c) kP kt rfl ki hS rfl hli oO oO rfl (.inl rfl) ?_)));rw[hgi];refine jx rfl (j7 Tryz.call198 rfl (hmin _ (hS.perm (BT _ _))) ?_);rintro u w6 ⟨rfl,R',hR',hS'⟩;clear hS;have hS:=hS'.perm (BT _ _).symm;refine V2 ?_;refine⟨i+1,_,rfl,⟨hin,jY,jY,jY,jY,jY,jY,jY,jY,vi rfl oO,R',hR'.congr λi' hi' j _=> ?_,hS⟩,oO⟩;show j9 (if i'=i then Ab X r c a i i j-X i c*Ab X r c a i r j else Ab X r c a i i' j)=j9 (Ab X r c a (i+1) i' j);by_cases e:i'=i
         ·rw[aj e,e];unfold Ab;rw[ah hir,ah hir,ah (dB _),aj rfl,aj (eg _)]
         ·rw[ah e,hstep i' hi' j e]
      ·refine J1 ?_;refine jt ?_;obtain rfl:n=i:=oO;exact⟨_,rfl,h0,h1,h5,h6,h7,h8,R,hR,hS⟩
     clear hS hR;rintro ρ w4 ⟨h0,h1,h5,h6,h7,h8,R,hR,hS⟩;replace hR:mx R n m (qM (lF n M (c+1)).M):=hR.congr λi hi j _=>by
      show j9 (Ab X r c a n i j)=j9 ((lF n M (c+1)).M i j);rw[hyes,Pq X r c a hi j]
     replace hS:St w0 w4 ([(b7,32,j6 (j9 (lF n M (c+1)).d)),(b5,32,j6 kP)]++mB j6 32 34 bo R (H++LP)):=by rw[hyes];exact hS
     rw[<-GG,<-aF]at hS;have hnl:(nI s.P).length=r:=by rw[sc,hr]
     refine J2 ?_;refine jh (mO (vs:=[.int .i64 c]) rfl pH rfl dD dD dD (by simp[Value.cells]) rfl hS ?_);intro b20 wz21 hS hBz21;refine jh (mz [(c:Int)] rfl rfl pH dD hG hS rfl rfl (λ_=>rfl) (λu hu=>by rw[aQ.1 (show u∈[Value.int .i64 (c:Int)]from hu)];rfl) dL dL ?_);intro va22 La22 wa22 hG hS hga22;refine V1 ?_;rw[<-Lk]at hG;rw[aF,GG]at hS;refine V3 ?_;exact⟨c+1,_,rfl,⟨hcl,jY,jY,jY,jY,vi rfl oO,_,_,R,rfl,by rw[hyes];exact hG,hR,hS⟩,oO⟩
    ·rw[ah hpn]at hpI;refine k9 rfl (ak (by rw[hpI];decide)) ?_;refine V3 ?_;have e:=L8 (n:=n) (c:=c) (M:=M) (by rw[<-hr,<-hp];exact hpn);exact⟨c+1,_,rfl,⟨hcl,jY,jY,jY,jY,vi rfl oO,_,LP,R,jY,by rw[e];exact hG,by rw[e];exact hR,by rw[e];exact hS⟩,oO⟩
   ·refine J4 ?_;refine kf (j8 18 kR rfl dT) (ks h6 (kf (j8 18 kR rfl dT) (pR rfl ⟨_,Tryz.underlying46⟩ (kf (j8 18 kR rfl dT) (ks h0 (kf (j8 18 kR rfl dT) (pR rfl ⟨_,Tryz.underlying35⟩ (kf (j8 18 kR rfl dT) (wm rfl rfl (jp (kC (vb rfl dT) rfl ?_)))))))))));refine J1 ?_;refine jt ?_;have e:lF n M cols=lF n M c:=by
     have:=C0 (n:=n) (A:=M) (c:=c) oO (cols-c);rwa[show c+(cols-c)=cols by omega]at this
    rw[e];exact⟨_,rfl,h5,h7,_,LP,R,h6,hG,hR,hS⟩
  ·refine J4 ?_;refine kN (kb 18 kR rfl dF) (kN (kb 18 kR rfl dF) (kN (kb 18 kR rfl dF) (kN (kb 18 kR rfl dF) (kN (kb 18 kR rfl dF) (jp (kC (vb rfl dF) rfl ?_))))));refine ja ?_;refine lx rfl (rfl) ?_;refine jt ?_;obtain rfl:c=cols:=oO;exact⟨_,rfl,h5,h7,_,LP,R,h6,hG,hR,hS⟩
 clear hS;rintro ρ w2 ⟨h5,h7,vp,LP,R,h6,hG,hR,hS⟩;refine ja ?_;refine kE [jo 0,ju 1,jo 2,jw 3] kR kR hS ?_;intro wz23 hS hBz23;refine J4 ?_;intro wz24 hS;refine ja ?_;replace hS:St w0 _ ([(b7,32,j6 (j9 (lF n M cols).d)),(b5,32,j6 (j9 (lF n M cols).d))]++mB j6 32 34 bo R (H++LP)):=hS;refine jt ?_;refine tY (k:=1) rfl h5 rfl ki hS rfl rfl ?_;exact⟨vp,LP,R,rfl,hG,hR,hS.drop (ao _ _)⟩
theorem Xa (K n:Nat):K+1<=BB K n:=by
 have:=BE K (ax n);unfold BB at this⊢;omega
def Gm (A:List (List RR)):Rd:=lF A.length (RM A) (mZ A)
def WO (A:List (List RR)):List (List RR):=if ua A=0 then wD A.length (mZ A) (qM (Gm A).M)else []
def WH (A:List (List RR)):List Nat:=if ua A=0 then(Gm A).P else []
theorem qE.nil {α:Type} (enc:α->List Value) (size:Nat) (w:World):qE enc size w (.slice none 0 0) [] []:=⟨rfl,Sl.nil _ _ _,λ_ h=>absurd h (aS _)⟩
theorem JM (v:Value) (A:List (List RR)) (vs:List Value) (K:Nat) (w:World) (hA:qE j6 3 w v A vs) (hB:Nq K A) (hK:8*BB K A.length<=MX):
  lW Tryz.prog 138 #[v] w λr w'=>(∃v' vs' vp,r= .tuple #[v',vp,.int .i64 (ua A)]/\qE j6 3 w' v' (WO A) vs'/\Sl tg 1 w' vp (nI (WH A)))/\Below w.heap.size w w':=by
 have hM:MX=1099511627776:=rfl;have hBK:=Xa K A.length;have hS:=St.init w;have hlen:=hA.len;refine enter Tryz.func138 rfl Tryz.ntmps138 rfl ?_;refine J4 ?_;refine jh (j7 Tryz.call170 rfl (EO v A vs _ (hA.j5 hS.j5)) ?_);rintro _ wc1 ⟨rfl,hBc1⟩;replace hS:=hS.ko hBc1;refine V3 ?_;by_cases he:ua A≠0
 ·have e1:WO A=[]:=ah he;have e2:WH A=[]:=ah he;rw[e1,e2];refine J5 ?_;refine jt ?_;refine Gz rfl rfl rfl rfl ?_;exact⟨⟨_,[],_,rfl,qE.nil _ _ _,Sl.nil _ _ _⟩,hS.j5⟩
 replace he:=fw.1 he;obtain⟨h1,h2,h3,h4,h5⟩:=xz he;have hr0:=hA.row 0 oO;have hc0:mZ A=(A.getD 0 []).length:=rfl;have e1:WO A=wD A.length (mZ A) (qM (Gm A).M):=aj he;have e2:WH A=(Gm A).P:=aj he;rw[e1,e2,he];refine J2 ?_;refine jh (j7 Tryz.call141 rfl (Am v A vs (mZ A) K _ (hA.j5 hS.j5) h1 oO h3 oO h5 hB oO) ?_);rintro r w2 ⟨⟨bo,R,rfl,hR,-,hS2⟩,hB2⟩;replace hS:=(hS.join hS2).cast (aK _);clear hS2;refine J3 ?_;refine jp (kp (i:=0) rfl rfl (hA.sl.j5 hS.j5) oO dO lL (jq (ky (i:=0) undef rfl lV (hA.sl.j5 hS.j5) dO rfl rfl (.inr rfl) (jp (kj rfl (hr0.j5 hS.j5) ⟨_,Tryz.underlying34⟩ ?_)))));refine jh (j7 Tryz.call171 rfl (I4 (mZ A) K _ hR oO oO (aB _) (λi hi j hj=>ME hB hi (by rw[h5 i hi];exact hj)) hK hS) ?_);rintro r w3 ⟨vp,LP,R',rfl,hG,hR',hS'⟩;clear hS;rename _=>hS
 refine J4 ?_;intro b8 wz2 hS hBz2;refine J2 ?_;intro wz3 hS;refine ja ?_;have hS2:=hS.drop (ab _ _);have hmt:=hR'.K0 hS2 kt (cap:=A.length) (aB _) oO;rw[<-GG]at hS2;have hsl:=hG.sl hS2 (λ_=>rfl);refine J5 ?_;refine jt ?_;refine Gz rfl rfl rfl rfl ?_;exact⟨⟨_,_,_,rfl,hmt,hsl⟩,hS.j5⟩
theorem PM {A:List (List RR)} (h:OA A=0):ua A=0/\A.length=mZ A:=by
 unfold OA at h;split at h
 ·next h1=>exact absurd h h1
 ·next h1=>
  split at h
  ·cases h
  ·next h2=>exact⟨fw.1 h1,fw.1 h2⟩
theorem Ni (v:Value) (l:List Int) (x:Int) (w:World) (hv:Sl tg 1 w v l):
  lW Tryz.prog 172 #[v,.int .i64 x] w λr w'=>(∃k:Int,r= .int .i64 k/\(0<=k↔x∈l))/\w'=w:=by
 have hmax:=hv.maxLen;refine enter Tryz.func172 rfl Tryz.ntmps172 rfl ?_;refine J2 ?_;refine jp (kj rfl hv ⟨_,Tryz.underlying46⟩ ?_);refine V1 ?_;refine kx (σ:=Nat) (λi ρ w'=>i<=l.length/\x∉l.take i/\ρ 0=v/\ρ 1=iB x/\ρ 7=iB l.length/\ρ 8=iB i/\w'=w) (λi=>l.length-i) 0
  ⟨ax _,by simp,rfl,rfl,rfl,rfl,rfl⟩ ?_
 rintro i ρ w2 ⟨hi,hn,h0,h1,h7,h8,rfl⟩;refine V1 ?_;by_cases hlt:i<l.length
 ·refine V1 ?_;have ht:=lC l i 0 hlt;refine J5 ?_;refine jp (kp (i:=i) rfl rfl hv oO dO pH (jq (ky (i:=i) 0 rfl ni hv dO rfl rfl (.inr rfl) ?_)));refine V1 ?_;by_cases hx:x=l.getD i 0
  ·refine k9 rfl (ak hx) ?_;refine J2 ?_;refine jt ?_;refine kD rfl rfl ?_;exact⟨⟨_,rfl,⟨λ_=>by rw[hx];exact kH l i 0 hlt,λ_=>oO⟩⟩,rfl⟩
  ·refine lx rfl (ae hx) ?_;refine V2 ?_;exact⟨i+1,_,rfl,⟨hlt,by rw[ht,bB,aQ];exact λg=>g.elim hn hx,h0,h1,h7,vi rfl oO,rfl⟩,oO⟩
 ·refine J1 ?_;refine jt ?_;obtain rfl:i=l.length:=oO;rw[bK]at hn;refine J1 ?_;refine jt ?_;refine kD rfl rfl ?_;exact⟨⟨_,rfl,⟨λh=>oO,λh=>absurd h hn⟩⟩,rfl⟩
theorem Fw (v:Value) (l:List Int) (x:Int) (w:World) (hv:Sl tg 1 w v l):
  lW Tryz.prog 139 #[v,.int .i64 x] w λr w'=>r= .bool (decide (x∈l))/\w'=w:=by
 refine enter Tryz.func139 rfl Tryz.ntmps139 rfl ?_;refine J3 ?_;refine jh (j7 Tryz.call172 rfl (Ni v l x _ hv) ?_);rintro r w3 ⟨⟨k,rfl,hk⟩,rfl⟩;refine J2 ?_;refine jt ?_;refine kD rfl rfl ?_;exact⟨bI Value.bool (dP.2 hk),rfl⟩
theorem O7 {P:List Nat} {f:Nat}:(f:Int)∈nI P↔f∈P:=by
 unfold nI;rw[bT];constructor
 ·rintro⟨a,ha,e⟩;rw[<-Int.natCast_inj.1 e];exact ha
 ·intro h;exact⟨f,h,rfl⟩
def Nf (P:List Nat) (n:Nat):List Nat:=(List.range n).filter λf=> !decide (f∈P)
theorem QJ (P:List Nat) (n:Nat):Nf P (n+1)=if n∈P then Nf P n else Nf P n++[n]:=by
 unfold Nf;rw[iT,ie];by_cases h:n∈P
 ·rw[aj h,List.filter_cons_of_neg (by simp[h])];simp
 ·rw[ah h,List.filter_cons_of_pos (by simp[h])];rfl
def qY (M:Mx) (P:List Nat) (m f:Nat):List RR:=ku m λj=>j9 (kv P M f j)
def IN (A:List (List RR)):List (List RR):=if ua A=0 then(Nf (Gm A).P (mZ A)).map (qY (Gm A).M (Gm A).P (mZ A))else []
def UJ {α:Type} (R:List (Rw α)):Prop:=∀r∈R,r.X.length<=r.cap/\r.cap<=9223372036854775807
theorem OO {α:Type} {enc:α->List Value} {size:Nat} (hu:∀x,(enc x).length=size) {t tS:TypeId} {R:List (Rw α)} {vo:Value} {LO:List kV} {w0 w:World} (hok:UJ R) (hG:Gl sU tS 1 vo (R.map Rw.v) LO) (hS:St w0 w (R.map (Rw.x4 enc t)++LO)):
  qE enc size w vo (R.map (·.X)) (R.map Rw.v):=by
 refine⟨by rw[aO,aO],hG.sl hS (λ_=>rfl),λi hi=> ?_⟩;rw[aO]at hi;have hr:=hok _ (kH R i oK hi);have hk:(R.map (Rw.x4 enc t)++LO)[i]?=some ((R.getD i oK).b,t,(R.getD i oK).X.flatMap enc++(R.getD i oK).sp):=by
  rw[cZ (by rw[aO];exact hi),eQ,aG hi,nz R oK hi];rfl
 have h:=hS.Xx hk hu (n:=(R.getD i oK).X.length) (cap:=(R.getD i oK).cap) (aB _) hr.1 hr.2;rw[aU (aB _)]at h;have e1:(R.map Rw.v).getD i undef=(R.getD i oK).v:=by rw[ai,Dj hi];rfl
 have e2:(R.map (·.X)).getD i []=(R.getD i oK).X:=by rw[nz _ _ (by rw[aO];exact hi),en,nz R oK hi]
 rw[e1,e2];exact h
def P6 (P:List Nat) (M:Mx) (f k j:Nat):Rat:=if j=f then 1 else if j∈P.take k then-M (P.idxOf j) f else 0
theorem Rz (P:List Nat) (M:Mx) (f j:Nat):P6 P M f P.length j=kv P M f j:=by unfold P6 kv;rw[bK]
theorem Q5 {P:List Nat} {M:Mx} {f k m:Nat} (hi:P.Pairwise (· < ·)) (hf:f∉P) (hk:k<P.length):(ku m λj=>j9 (P6 P M f k j)).set (P.getD k 0) (j9 (-M k f))=ku m λj=>j9 (P6 P M f (k+1) j):=by
 rw[zm];refine kB λj _=> ?_;congr 1;have ht:=lC P k 0 hk;unfold P6;by_cases h:j=P.getD k 0
 ·have hm:P.getD k 0∈P:=kH P k 0 hk;rw[aj h,h,ah (λe=>hf (by rw[<-e];exact hm)),ht,aj (by simp)];have:P.idxOf (P.getD k 0)=k:=by
   rw[nz P 0 hk];exact(xT hi).idxOf_getElem k hk
  rw[this]
 ·rw[ah h];by_cases h2:j=f
  ·rw[aj h2,aj h2]
  ·rw[ah h2,ah h2,ht];by_cases h3:j∈P.take k
   ·rw[aj h3,aj (fM _ h3)]
   ·rw[ah h3,ah (λe=>by
     rcases bB.1 e with g|g
     ·exact h3 g
     ·exact h (aQ.1 g))]
theorem Qc {m f:Nat} (P:List Nat) (M:Mx):(List.replicate m kP).set f (j9 ((1:Int):Rat))=ku m λj=>j9 (P6 P M f 0 j):=by
 rw[ur,nx];refine kB λj _=> ?_;unfold P6;by_cases h:j=f
 ·rw[aj h,aj h];rfl
 ·rw[ah h,ah h,fc,ah (by simp),oC];rfl
theorem JR (v:Value) (A:List (List RR)) (vs:List Value) (K:Nat) (w:World) (hA:qE j6 3 w v A vs) (hB:Nq K A) (hK:8*BB K A.length<=MX):
  lW Tryz.prog 102 #[v] w λr w'=>(∃v' vs',r= .tuple #[v',.int .i64 (ua A)]/\qE j6 3 w' v' (IN A) vs')/\Below w.heap.size w w':=by
 have hM:MX=1099511627776:=rfl;have hS:=St.init w;refine enter Tryz.func102 rfl Tryz.ntmps102 rfl ?_;refine J3 ?_;refine jh (j7 Tryz.call138 rfl (JM v A vs K _ (hA.j5 hS.j5) hB hK) ?_);rintro r w2 ⟨⟨v',vs',vp,rfl,hm,hp⟩,hB2⟩;replace hS:=hS.ko hB2;refine V9 ?_;by_cases he:ua A≠0
 ·have e1:IN A=[]:=ah he;rw[e1];refine J4 ?_;refine jt ?_;refine rH rfl rfl rfl ?_;exact⟨⟨_,[],rfl,qE.nil _ _ _⟩,hS.j5⟩
 replace he:=fw.1 he;obtain⟨h1,h2,h3,h4,h5⟩:=xz he;have e1:IN A=(Nf (Gm A).P (mZ A)).map (qY (Gm A).M (Gm A).P (mZ A)):=aj he;have e2:WO A=wD A.length (mZ A) (qM (Gm A).M):=aj he;have e3:WH A=(Gm A).P:=aj he;have hI:MW A.length (mZ A) (Gm A):=rinv A.length (RM A) (mZ A);have hLs:=(IF (n:=A.length) (M:=RM A) (K:=K) (λi hi j hj=>ME hB hi (by rw[h5 i hi];exact hj)) (mZ A) (aB _)).1;have hbk:=hK;have hbm:=BE K hI.len;change∀i,i<A.length->∀j,j<mZ A->L ((Gm A).M i j)+1<=BB K (Gm A).P.length at hLs;rw[e1];rw[e2]at hm;rw[e3]at hp;obtain⟨n,hn⟩:=jz A.length;obtain⟨m,hm'⟩:∃m,m=mZ A:=⟨_,rfl⟩;obtain⟨s,hs⟩:=jz (Gm A);rw[<-hn,<-hm',<-hs]at hI hm;rw[<-hn,<-hm',<-hs]at hLs;rw[<-hs]at hp hbm;rw[<-hn]at h1 h2 hbk hbm;rw[<-hm']at h3 h4;rw[<-hm',<-hs,he];refine V1 ?_;have hf0:=hm.row 0 (by rw[mQ];omega);rw[pD _ oO]at hf0;have htl0:=ka m (qM s.M 0);have hsl:=hm.sl;have hvl:=hm.len;rw[mQ]at hvl;have hS0:=hS;refine J2 ?_;refine jp (kp (i:=0) rfl rfl hsl oO dO lL (jq (ky (i:=0) undef rfl lV hsl dO rfl rfl (.inr rfl) (jp (kj rfl hf0 ⟨_,Tryz.underlying34⟩ ?_)))));refine J1 ?_;refine jb ?_;refine kz (λρ w'=>∃vo LO R,ρ 7=vo/\UJ R/\R.map (·.X)=(Nf s.P m).map (qY s.M s.P m)/\Gl sU 34 1 vo (R.map Rw.v) LO/\St w2 w' (R.map (Rw.x4 j6 32)++LO)) ?_ ?_
 ·refine ja ?_;refine kx (σ:=Nat) (λf ρ w'=>f<=m/\ρ 4=v'/\ρ 5=vp/\ρ 24=iB m/\ρ 25=iB f/\∃vo LO R,ρ 7=vo/\UJ R/\R.map (·.X)=(Nf s.P f).map (qY s.M s.P m)/\Gl sU 34 1 vo (R.map Rw.v) LO/\St w2 w' (R.map (Rw.x4 j6 32)++LO)) (λf=>m-f) 0
   ⟨ax _,rfl,rfl,vi rfl oO,rfl,_,[],[],rfl,(λ_ h=>by cases h),rfl,Gl.nil _ _ _,St.init w2⟩ ?_
  rintro f ρ w3 ⟨hf,h4',h5',h24,h25,vo,LO,R,h7,hok,hRX,hG,hT⟩;clear hS;have hS:=hT;clear hT;refine V1 ?_;by_cases hlt:f<m
  ·refine J5 ?_;refine jh (j7 Tryz.call139 rfl (Fw vp (nI s.P) f _ (hp.j5 hS.j5)) ?_);rintro _ wq1 ⟨rfl,hq1⟩;replace hq1:=hq1.symm;subst hq1;refine ja ?_;have hfs:=QJ s.P f;by_cases hfP:f∈s.P
   ·rw[aj hfP]at hfs;refine k9 rfl (ak (O7.2 hfP)) ?_;refine V2 ?_;exact⟨f+1,_,rfl,⟨hlt,jY,jY,jY,vi rfl oO,vo,LO,R,jY,hok,by rw[hfs];exact hRX,hG,hS⟩,oO⟩
   ·rw[ah hfP]at hfs;refine lx rfl (ae (λh=>hfP (O7.1 h))) ?_;refine ja ?_;have hnl:=sc s.P;refine J1 ?_;refine jp (kp (i:=0) rfl rfl (hsl.j5 hS.j5) oO dO lL (jq (ky (i:=0) undef rfl lV (hsl.j5 hS.j5) dO rfl rfl (.inr rfl) (jp (kj rfl (hf0.j5 hS.j5) ⟨_,Tryz.underlying34⟩ (jh (lU (enc:=j6) (n:=m) kP rfl rfl kM rfl oO oO oO oO hS ?_)))))));intro b35 wz2 hS hBz2;refine J3 ?_;refine jh (j7 Tryz.call33 rfl (mH 1 _ dD dD) ?_);rintro _ wc3 ⟨rfl,hBc3⟩;replace hS:=hS.ko hBc3;refine jp (kF (i:=f) rfl rfl oO dO kM ?_);refine jh (zy (k:=0) (i:=f) (enc:=j6) (j9 ((1:Int):Rat)) (λ_=>rfl) rfl rfl ki hS rfl (by first|omega|simp) dO rfl rfl ?_);intro wz4 hS;refine ja ?_;replace hS:St w2 _ ((b35,32,((List.replicate m kP).set f (j9 ((1:Int):Rat))).flatMap j6)::(R.map (Rw.x4 j6 32)++LO)):=hS;rw[Qc s.P s.M]at hS;refine J1 ?_;refine jp (kj rfl (hp.j5 hS.j5) ⟨_,Tryz.underlying46⟩ ?_);refine J1 ?_;refine jb ?_;refine kz (λρ w'=>ρ 4=v'/\ρ 5=vp/\ρ 7=vo/\ρ 9= .slice (some ⟨b35,0,none⟩) m m/\ρ 24=iB m/\ρ 25=iB f/\St w2 w' ((b35,32,(qY s.M s.P m f).flatMap j6)::(R.map (Rw.x4 j6 32)++LO))) ?_ ?_
    ·refine ja ?_;refine kx (σ:=Nat) (λk ρ w'=>k<=s.P.length/\ρ 4=v'/\ρ 5=vp/\ρ 7=vo/\ρ 8=iB f/\ρ 9= .slice (some ⟨b35,0,none⟩) m m/\ρ 24=iB m/\ρ 25=iB f/\ρ 40=vp/\ρ 41=iB s.P.length/\ρ 42=iB k/\St w2 w' ((b35,32,(ku m λj=>j9 (P6 s.P s.M f k j)).flatMap j6)::(R.map (Rw.x4 j6 32)++LO))) (λk=>s.P.length-k) 0
      ⟨ax _,jY,jY,jY,rfl,rfl,jY,jY,rfl,vi rfl oO,rfl,hS⟩ ?_
     clear hS;rintro k ρ w4 ⟨hk,h4',h5',h7,h8,h9,h24,h25,h40,h41,h42,hS⟩;have htl:=ka m λj=>j9 (P6 s.P s.M f k j);refine V1 ?_;by_cases hkl:k<s.P.length
     ·refine V1 ?_;have hrk:=hm.row k (by rw[mQ];have:=hI.len;omega);have hkn:k<n:=by have:=hI.len;omega
      rw[pD _ hkn]at hrk;have htk:=ka m (qM s.M k);have hgk:(ku m (qM s.M k)).getD f kP=j9 (s.M k f):=kw _ _ hlt;have hpk:s.P.getD k 0<m:=hI.lt _ (kH _ _ _ hkl);have hpv:(nI s.P).getD k 0=((s.P.getD k 0:Nat):Int):=by
       unfold nI;rw[nz _ _ (by rw[aO];exact hkl),en,nz s.P 0 hkl]
      have hLk:=hLs k hkn f hlt;have hneg:=λw=>yA (j9 (s.M k f)) w (by rw[Lr_ofQ];omega);rw[toQ_ofQ]at hneg;refine J1 ?_;refine jp (kp (i:=k) h40 h42 (hp.j5 hS.j5) oO dO pH (jq (ky (i:=k) 0 rfl ni (hp.j5 hS.j5) dO rfl rfl (.inr rfl) ?_)));refine V2 ?_;rw[hpv];refine J4 ?_;refine jp (kp (i:=k) rfl rfl (hsl.j5 hS.j5) oO dO lL (jq (ky (i:=k) undef rfl lV (hsl.j5 hS.j5) dO rfl rfl (.inr rfl) ?_)));refine J1 ?_;refine jp (kp (i:=f) rfl rfl (hrk.j5 hS.j5) oO dO kM (jq (ky (i:=f) kP rfl ki (hrk.j5 hS.j5) dO rfl rfl (.inl rfl) ?_)));rw[hgk];refine jh (j7 Tryz.call105 rfl (hneg _) ?_);rintro _ wc5 ⟨rfl,hBc5⟩;replace hS:=hS.ko hBc5;refine jp (kF (i:=(s.P.getD k 0)) rfl rfl oO dO kM ?_);refine jh (zy (k:=0) (i:=(s.P.getD k 0)) (enc:=j6) (j9 (-s.M k f)) (λ_=>rfl) rfl rfl ki hS rfl (by first|omega|simp) dO rfl rfl ?_);intro wz6 hS;refine ja ?_;replace hS:St w2 _ ((b35,32,((ku m λj=>j9 (P6 s.P s.M f k j)).set (s.P.getD k 0) (j9 (-s.M k f))).flatMap j6)::(R.map (Rw.x4 j6 32)++LO)):=hS;rw[Q5 hI.inc hfP hkl]at hS;refine V2 ?_;exact⟨k+1,_,rfl,⟨hkl,jY,jY,jY,jY,jY,jY,jY,jY,jY,vi rfl oO,hS⟩,oO⟩
     ·refine J1 ?_;refine jt ?_;obtain rfl:k=s.P.length:=oO;have ek:(ku m λj=>j9 (P6 s.P s.M f s.P.length j))=qY s.M s.P m f:=kB λj _=>by rw[Rz]
      rw[ek]at hS;exact⟨_,rfl,h4',h5',h7,h9,h24,h25,hS⟩
    clear hS;rintro ρ w4 ⟨h4',h5',h7,h9,h24,h25,hS⟩;have hkl:=ka m λj=>j9 (kv s.P s.M f j);have hvn:(R.map Rw.v).length=R.length:=aO _;have hRl:R.length<=f:=by
     have:=bI List.length hRX;rw[aO,aO]at this;have h2:=iY (λf=> !decide (f∈s.P)) (List.range f);rw[dE]at h2;unfold Nf at this;omega
    refine ja ?_;rw[<-bW]at hS;refine J2 ?_;refine jh (mO (vs:=[.slice (some ⟨b35,0,none⟩) m m]) rfl lL rfl dD dD dD (by simp[Value.cells]) rfl hS ?_);intro b7 wz8 hS hBz8;refine jh (mz [Value.slice (some ⟨b35,0,none⟩) m m] rfl rfl lL dD hG hS rfl rfl (λ_=>rfl) (λu hu=>by rw[aQ.1 (show u∈[Value.slice (some ⟨b35,0,none⟩) m m]from hu)];rfl) dL dL ?_);intro va9 La9 wa9 hG hS hga9;refine V3 ?_;obtain⟨nr,hnr⟩:∃nr:Rw RR,nr=⟨b35,m,qY s.M s.P m f,[]⟩:=⟨_,rfl⟩;have evv:R.map Rw.v++[Value.slice (some ⟨b35,0,none⟩) m m]=(R++[nr]).map Rw.v:=by
     rw[bO,hnr];show _=R.map Rw.v++[Value.slice (some ⟨b35,0,none⟩) (qY s.M s.P m f).length m];unfold qY;rw[hkl]
    have eb:∀T:List kV,((b35,32,(qY s.M s.P m f).flatMap j6)::R.map (Rw.x4 j6 32)++T).Perm ((R++[nr]).map (Rw.x4 j6 32)++T):=by
     intro T;have:List.map (Rw.x4 j6 32) [nr]=[(b35,32,(qY s.M s.P m f).flatMap j6)]:=by
      rw[hnr];show [(b35,32,(qY s.M s.P m f).flatMap j6++[])]=_;rw[aK]
     rw[bO,this];exact bQ _ (ew _ _).symm
    rw[evv]at hG;have hS2:=hS.perm (eb _);refine⟨f+1,_,rfl,⟨hlt,jY,jY,jY,vi rfl oO,_,_,R++[nr],rfl,?_,?_,hG,hS2⟩,oO⟩
    ·intro r hr;rcases bB.1 hr with g|g
     ·exact hok r g
     ·rw[aQ.1 g,hnr];exact⟨by show(qY s.M s.P m f).length<=m;unfold qY;omega,by show m<=_;omega⟩
    ·rw[hfs,bO,bO,hRX,hnr];rfl
  ·refine J1 ?_;refine jt ?_;obtain rfl:f=m:=oO;exact⟨_,rfl,vo,LO,R,h7,hok,hRX,hG,hS⟩
 clear hS;rintro ρ w3 ⟨vo,LO,R,h7,hok,hRX,hG,hS⟩;refine ja ?_;have hmt:=OO (size:=3) kt hok hG hS;rw[hRX]at hmt;refine J3 ?_;refine jt ?_;refine rH rfl rfl rfl ?_;exact⟨⟨vo,_,rfl,hmt⟩,hS0.j5.trans (hS.j5.mono hS0.j5.size)⟩
structure ZZ where
 neg:Bool
 mag:Nat
def mG (z:ZZ):List Value:=[.bool z.neg,.string (kG z.mag)]
def D3 (z:ZZ):Value:= .agg #[.bool z.neg,.string (kG z.mag)]
def Ay:ZZ:=⟨false,0⟩
theorem mS:∀z,(mG z).length=2:=λ_=>rfl
theorem Au:mG Ay=[.bool false,.string ⟨#[]⟩]:=by
 have:kG 0=⟨#[]⟩:=ob.2 rfl;show [Value.bool false,.string (kG 0)]=_;rw[this]
def zv (z:ZZ):Int:=sg z.neg z.mag
def ye (z:ZZ):Nat:=(kG z.mag).size
def tc (a b:ZZ):ZZ:=⟨a.neg !=b.neg,a.mag*b.mag⟩
def te (a b:ZZ):ZZ:=if a.neg≠b.neg then⟨a.neg,a.mag+b.mag⟩else if b.mag<=a.mag then⟨a.neg,a.mag-b.mag⟩else⟨!a.neg,b.mag-a.mag⟩
def Ib (a b:ZZ):ZZ:=⟨a.neg !=b.neg,a.mag/b.mag⟩
theorem Hp (a b:ZZ):zv (tc a b)=zv a*zv b:=by
 obtain⟨x,m⟩:=a;obtain⟨y,n⟩:=b;unfold zv tc sg;cases x<;>cases y<;>simp[jW,Int.mul_neg]
theorem Qj (a b:ZZ):zv (te a b)=zv a-zv b:=by
 obtain⟨x,m⟩:=a;obtain⟨y,n⟩:=b;unfold zv te sg;by_cases h:n<=m
 ·cases x<;>cases y<;>simp[h]<;>omega
 ·cases x<;>cases y<;>simp[h]<;>omega
theorem Sh (a b:ZZ):zv (Ib a b)=(zv a).tdiv (zv b):=by
 obtain⟨x,m⟩:=a;obtain⟨y,n⟩:=b;unfold zv Ib sg;cases x<;>cases y<;>simp[Int.neg_tdiv,Int.tdiv_neg]
theorem Po {z:ZZ}:zv z=0↔z.mag=0:=by
 unfold zv sg;split<;>omega
theorem xQ (a b:ZZ):ye (tc a b)<=ye a+ye b:=lO _ _
theorem E0 (a b:ZZ):ye (te a b)<=max (ye a) (ye b)+1:=by
 unfold te ye;split
 ·exact ut _ _
 ·split
  ·have:=lT (Nat.sub_le a.mag b.mag);show(kG (a.mag-b.mag)).size<=_;omega
  ·have:=lT (Nat.sub_le b.mag a.mag);show(kG (b.mag-a.mag)).size<=_;omega
theorem QC (a b:ZZ):ye (Ib a b)<=ye a:=lT (dz _ _)
theorem Pj:ye Ay=0:=by
 show(kG 0).size=0;rw[ob.2 rfl];rfl
theorem wc (b:Bool) (s:ByteArray):Tryz.prog.built 223 [(0,.bool b),(1,.string s)]=some #[.bool b,.string s]:=by kernel_rfl
theorem Ev (a b:ZZ) (w:World) (ha:ye a<=4398046511104) (hb:ye b<=4398046511104):
  lW Tryz.prog 174 #[D3 a,D3 b] w λv w'=>v=D3 (tc a b)/\Below w.heap.size w w':=by
 have hS:=St.init w;refine enter Tryz.func174 rfl Tryz.ntmps174 rfl ?_;refine jr ?_;refine jh (lj (new:=mG a) rfl rfl hS ?_);intro b1 wz2 hS hBz2;refine jh (lj (new:=mG b) rfl rfl hS ?_);intro b3 wz4 hS hBz4;refine J1 ?_;intro b5 wz6 hS hBz6;refine ja ?_;refine kE [jo 0,ju 1,jo 2,ju 3,jo 4,jo 5,ju 6,jo 7,ju 8,jv 9,jo 10,jw 11] kR kR hS ?_;intro wz7 hS hBz7;refine J4 ?_;refine jl rfl (Co rfl rfl Tryz.underlying4 ?_);refine J4 ?_;refine jn rfl (j7 Tryz.call30 rfl (wB a.mag b.mag _ ha hb) ?_);rintro _ wc8 ⟨rfl,hBc8⟩;replace hS:=hS.ko hBc8;refine⟨hBc8,?_⟩;refine jl rfl (kQ rfl (wc _ _) ?_);refine J1 ?_;intro wz9 hS;refine jt ?_;refine mq (k:=0) rfl rfl oX hS rfl rfl ?_;exact⟨rfl,hS.j5⟩
theorem Nx (a b:ZZ) (w:World) (ha:ye a<=4398046511104) (hb:ye b<=4398046511104):
  lW Tryz.prog 175 #[D3 a,D3 b] w λv w'=>v=D3 (te a b)/\Below w.heap.size w w':=by
 have hS:=St.init w;refine enter Tryz.func175 rfl Tryz.ntmps175 rfl ?_;refine jr ?_;refine jh (lj (new:=mG a) rfl rfl hS ?_);intro b1 wz2 hS hBz2;refine jh (lj (new:=mG b) rfl rfl hS ?_);intro b3 wz4 hS hBz4;refine J1 ?_;intro b5 wz6 hS hBz6;refine J4 ?_;refine jp (Co rfl rfl Tryz.underlying4 ?_);refine ja ?_;by_cases hn:a.neg≠b.neg
 ·have e:te a b=⟨a.neg,a.mag+b.mag⟩:=aj hn;rw[e];refine k9 rfl (by simpa using hn) ?_;refine ja ?_;refine kE [jo 0,ju 1,jo 2,ju 3,jo 4,ju 5,jv 6,jo 7,jw 8] kR kR hS ?_;intro wz7 hS hBz7;refine J6 ?_;refine jn rfl (j7 Tryz.call74 rfl (SR a.mag b.mag _ ha hb) ?_);rintro _ wc8 ⟨rfl,hBc8⟩;replace hS:=hS.ko hBc8;refine⟨hBc8,?_⟩;refine jl rfl (kQ rfl (wc _ _) ?_);refine J1 ?_;intro wz9 hS;refine jt ?_;refine mq (k:=0) rfl rfl oX hS rfl rfl ?_;exact⟨rfl,hS.j5⟩
 refine lx rfl (by simpa using hn) ?_;refine J4 ?_;by_cases hle:b.mag<=a.mag
 ·have e:te a b=⟨a.neg,a.mag-b.mag⟩:=by unfold te;rw[ah hn,aj hle]
  rw[e];refine jh (j7 Tryz.call75 rfl (Kv a.mag b.mag _ ha hb hle) ?_);rintro _ wc10 ⟨rfl,hBc10⟩;replace hS:=hS.ko hBc10;refine V6 ?_;refine k9 rfl (rfl) ?_;refine J3 ?_;refine jp (kQ rfl (wc _ _) ?_);refine J1 ?_;intro wz11 hS;refine jt ?_;refine mq (k:=0) rfl rfl oX hS rfl rfl ?_;exact⟨rfl,hS.j5⟩
 ·have e:te a b=⟨!a.neg,b.mag-a.mag⟩:=by unfold te;rw[ah hn,ah hle]
  rw[e];refine jh (j7 Tryz.call75 rfl (IA a.mag b.mag _ ha hb oO) ?_);rintro _ wc12 ⟨rfl,hBc12⟩;replace hS:=hS.ko hBc12;refine V6 ?_;refine lx rfl (rfl) ?_;refine J4 ?_;refine jh (j7 Tryz.call75 rfl (Kv b.mag a.mag _ hb ha oO) ?_);rintro _ wc13 ⟨rfl,hBc13⟩;replace hS:=hS.ko hBc13;refine J9 ?_;refine jp (kQ rfl (wc _ _) ?_);refine J1 ?_;intro wz14 hS;refine jt ?_;refine mq (k:=0) rfl rfl oX hS rfl rfl ?_;exact⟨rfl,hS.j5⟩
theorem OW (a b:ZZ) (w:World) (ha:ye a<=4398046511104) (hb:ye b<=4398046511104) (h0:b.mag≠0):
  lW Tryz.prog 176 #[D3 a,D3 b] w λv w'=>v=D3 (Ib a b)/\Below w.heap.size w w':=by
 have hS:=St.init w;refine enter Tryz.func176 rfl Tryz.ntmps176 rfl ?_;refine jr ?_;refine jh (lj (new:=mG a) rfl rfl hS ?_);intro b1 wz2 hS hBz2;refine jh (lj (new:=mG b) rfl rfl hS ?_);intro b3 wz4 hS hBz4;refine J1 ?_;intro b5 wz6 hS hBz6;refine J4 ?_;refine jh (j7 Tryz.call68 rfl (Is a.mag b.mag _ ha hb h0) ?_);rintro _ wc7 ⟨rfl,hBc7⟩;replace hS:=hS.ko hBc7;refine Xg ?_;refine jp (Co rfl rfl Tryz.underlying4 ?_);refine J1 ?_;refine jp (kQ rfl (wc _ _) ?_);refine J1 ?_;intro wz8 hS;refine jt ?_;refine mq (k:=0) rfl rfl oX hS rfl rfl ?_;exact⟨rfl,hS.j5⟩
theorem xl (q:Rat) (w:World):
  lW Tryz.prog 173 #[lu (j9 q)] w λv w'=>v= .string (kG q.den)/\Below w.heap.size w w':=by
 have hS:=St.init w;refine enter Tryz.func173 rfl Tryz.ntmps173 rfl ?_;refine jr ?_;refine jh (lj (new:=j6 (j9 q)) rfl rfl hS ?_);intro b1 wz2 hS hBz2;refine J3 ?_;refine jp (tr rfl rfl ?_);refine ja ?_;by_cases h:q.den=1
 ·refine k9 rfl (ak (by show(if q.den=1 then(⟨#[]⟩:ByteArray)else kG q.den)=_;rw[aj h])) ?_;refine jr ?_;refine jh (j7 Tryz.call113 rfl (sE 1 _ dD) ?_);rintro _ wc3 ⟨rfl,hBc3⟩;replace hS:=hS.ko hBc3;refine J1 ?_;refine jt ?_;refine kD rfl rfl ?_;exact⟨by rw[h];rfl,hS.j5⟩
 ·have hd:(j9 q).den=kG q.den:=ah h;refine lx rfl (ae (by rw[hd];exact λg=>q.den_nz (ob.1 g))) ?_;refine J3 ?_;refine jt ?_;refine kD rfl rfl ?_;exact⟨bI Value.string hd,hS.j5⟩
def vq (q:Nat->Rat):Nat->Nat
 |0=>1
 |j+1=>vq q j*((q j).den/Nat.gcd (vq q j) (q j).den)
theorem BK (q:Nat->Rat):∀j,0<vq q j
 |0=>Nat.one_pos
 |j+1=>dH (BK q j) (iq (Nat.le_of_dvd (q j).den_pos (ft _ _)) (Nat.gcd_pos_of_pos_left _ (BK q j)))
theorem Q7 (q:Nat->Rat) (j:Nat):vq q j∣vq q (j+1):=⟨_,rfl⟩
theorem RA (q:Nat->Rat) (j:Nat):(q j).den∣vq q (j+1):=by
 obtain⟨a,ha⟩:=iI (vq q j) (q j).den;have hg:Nat.gcd (vq q j) (q j).den*((q j).den/Nat.gcd (vq q j) (q j).den)=(q j).den:=jg (ft _ _);refine⟨a,?_⟩;show vq q j*((q j).den/Nat.gcd (vq q j) (q j).den)=_;conv=>lhs;lhs;rw[ha]
 conv=>rhs;lhs;rw[<-hg]
 rw[bf,bf,bF a]
theorem H6 (q:Nat->Rat) {i:Nat}:∀ {j:Nat},i<=j->vq q i∣vq q j
 |0,h=>by obtain rfl:i=0:=oO;exact Nat.dvd_refl _
 |j+1,h=>by
  by_cases e:i=j+1
  ·rw[e];exact Nat.dvd_refl _
  ·exact eo (H6 q oO) (Q7 q j)
theorem Sk (q:Nat->Rat) {j m:Nat} (h:j<m):(q j).den∣vq q m:=eo (RA q j) (H6 q h)
def U7 (q:Nat->Rat) (j:Nat):Nat:=(kG (vq q j)).size
theorem IW {q:Nat->Rat} {K m:Nat} (h:∀j,j<m->L (q j)<=K):∀j,j<=m->U7 q j<=1+j*K
 |0,_=>by show(kG 1).size<=_;rw[pL];omega
 |j+1,hj=>by
  have ih:=IW h j oO;have h1:=lO (vq q j) ((q j).den/Nat.gcd (vq q j) (q j).den);have h2:=lT (dz (q j).den (Nat.gcd (vq q j) (q j).den));have h3:=to (q j);have h4:=h j oO;show(kG (vq q j*((q j).den/Nat.gcd (vq q j) (q j).den))).size<=_;unfold U7 at ih;rw[bl];omega
def IM (q:Nat->Rat) (m j:Nat):ZZ:=⟨decide ((q j).num<0),(q j).num.natAbs*(vq q m/(q j).den)⟩
theorem QW (b:Bool) (x y:Nat):sg b (x*y)=sg b x*(y:Int):=by
 unfold sg;cases b<;>simp[jW]
theorem RX (q:Nat->Rat) {m j:Nat} (h:j<m):((zv (IM q m j):Int):Rat)=((vq q m:Int):Rat)*q j:=by
 obtain⟨c,hc⟩:=Sk q h;have hd:=(q j).den_pos;have e:vq q m/(q j).den=c:=by rw[hc];exact Nat.mul_div_cancel_left _ hd
 unfold zv IM;rw[e,QW,CJ,hc];have hq:q j=((q j).num:Rat)/(((q j).den:Int):Rat):=by
  conv=>lhs;rw[<-eu (q j),gF]
  rfl
 have hd0:((((q j).den:Nat):Int):Rat)≠0:=λe=>by
  have:=gR.1 (show(((q j).den:Int):Rat)=((0:Int):Rat)from e);omega
 conv=>rhs;rhs;rw[hq]
 rw[gV,eR,eR,bR];have:=bX _ hd0;grind
theorem OG {q:Nat->Rat} {K m j:Nat} (h:∀j,j<m->L (q j)<=K) (hj:j<m):ye (IM q m j)<=K+U7 q m:=by
 have h1:=lO (q j).num.natAbs (vq q m/(q j).den);have h2:=lT (dz (vq q m) (q j).den);have h3:=tU (q j);have h4:=h j hj;unfold ye U7;show(kG ((q j).num.natAbs*(vq q m/(q j).den))).size<=_;omega
theorem WQ (n:Nat):rep n [Value.bool false,.string ⟨#[]⟩]=(List.replicate n Ay).flatMap mG:=by
 rw[<-Au,H2]
def Bn (q:Nat->Rat) (m i j:Nat):ZZ:=if j<i then IM q m j else Ay
theorem MV (q:Nat->Rat) (m i:Nat):(ku m (Bn q m i)).set i (IM q m i)=ku m (Bn q m (i+1)):=by
 rw[nx];refine kB λj _=> ?_;unfold Bn;by_cases h:j=i
 ·rw[aj h,aj oO,h]
 ·rw[ah h];by_cases h2:j<i
  ·rw[aj h2,aj oO]
  ·rw[ah h2,ah oO]
theorem Fj (v:Value) (q:Nat->Rat) (m K:Nat) (w:World) (hv:Sl j6 3 w v (ku m λj=>j9 (q j))) (hm:m<=1000) (hL:∀j,j<m->L (q j)<=K) (hK:2000*K+2000<=MX):
  lW Tryz.prog 142 #[v] w λr w'=>(∃b,r= .slice (some ⟨b,0,none⟩) m m/\St w w' [(b,223,(ku m (IM q m)).flatMap mG)])/\Below w.heap.size w w':=by
 have hM:MX=1099511627776:=rfl;have htl:=ka m λj=>j9 (q j);have hget:∀j,j<m->(ku m λj=>j9 (q j)).getD j kP=j9 (q j):=λj hj=>kw _ _ hj;have hC:∀j,j<=m->U7 q j<=1+1000*K:=λj hj=>dt (IW hL j hj) (Nat.add_le_add_left (aH _ oO) _);have hS:=St.init w;refine enter Tryz.func142 rfl Tryz.ntmps142 rfl ?_;refine Y1 ?_;refine jh (j7 Tryz.call113 rfl (sE 1 _ dD) ?_);rintro _ wc1 ⟨rfl,hBc1⟩;replace hS:=hS.ko hBc1;refine J2 ?_;refine jp (kj rfl (hv.j5 hS.j5) ⟨_,Tryz.underlying34⟩ ?_);refine J1 ?_;refine jb ?_;refine kz (λρ w'=>ρ 0=v/\ρ 3= .string (kG (vq q m))/\St w w' []) ?_ ?_
 ·refine ja ?_;refine kx (σ:=Nat) (λi ρ w'=>i<=m/\ρ 0=v/\ρ 3= .string (kG (vq q i))/\ρ 17=v/\ρ 18=iB m/\ρ 19=iB i/\St w w' []) (λi=>m-i) 0
   ⟨ax _,rfl,rfl,rfl,vi rfl oO,rfl,hS⟩ ?_
  clear hS;rintro i ρ w2 ⟨hi,h0,h3,h17,h18,h19,hS⟩;refine V1 ?_;by_cases hlt:i<m
  ·refine V1 ?_;have hCi:=hC i oO;have hLi:=hL i hlt;have hLd:=to (q i);unfold U7 at hCi;have hgz:=lT (Nat.le_of_dvd (q i).den_pos (ft (vq q i) (q i).den));have hdz:=lT (dz (q i).den (Nat.gcd (vq q i) (q i).den));have hg0:Nat.gcd (vq q i) (q i).den≠0:=Nat.pos_iff_ne_zero.1 (Nat.gcd_pos_of_pos_left _ (BK q i));refine jr ?_;refine jp (kp (i:=i) h17 h19 (hv.j5 hS.j5) oO dO kM (jq (ky (i:=i) kP rfl ki (hv.j5 hS.j5) dO rfl rfl (.inl rfl) ?_)));refine J1 ?_;intro b5 wz2 hS hBz2;refine J1 ?_;intro wz3 hS;refine ja ?_;rw[hget i hlt]at hS;refine J1 ?_;refine jh (j7 Tryz.call173 rfl (xl (q i) _) ?_);rintro _ wc4 ⟨rfl,hBc4⟩;replace hS:=hS.ko hBc4;refine J4 ?_;refine jh (j7 Tryz.call67 rfl (S7 _ _ _ oO oO) ?_);rintro _ wc5 ⟨rfl,hBc5⟩;replace hS:=hS.ko hBc5;refine jh (j7 Tryz.call68 rfl (Is _ _ _ oO oO hg0) ?_);rintro _ wc6 ⟨rfl,hBc6⟩;replace hS:=hS.ko hBc6;refine J9 ?_;refine jh (j7 Tryz.call30 rfl (wB _ _ _ oO oO) ?_);rintro _ wc7 ⟨rfl,hBc7⟩;replace hS:=hS.ko hBc7;refine V3 ?_;exact⟨i+1,_,rfl,⟨hlt,jY,rfl,jY,jY,vi rfl oO,hS.drop (gJ _)⟩,oO⟩
  ·refine J1 ?_;refine jt ?_;obtain rfl:i=m:=oO;exact⟨_,rfl,h0,h3,hS⟩
 clear hS;rintro ρ w2 ⟨h0,h3,hS⟩;refine J1 ?_;refine jp (kj rfl (hv.j5 hS.j5) ⟨_,Tryz.underlying34⟩ (jh (AE (n:=m) rfl rfl rK oO oO oO oO hS ?_)));intro b40 wz8 hS hBz8;refine V1 ?_;replace hS:St w _ [(b40,223,rep m [Value.bool false,.string ⟨#[]⟩])]:=hS;rw[WQ,ur,show(ku m λ_=>Ay)=ku m (Bn q m 0)from kB λj _=>by unfold Bn;rw[ah (aS _)]]at hS;refine J1 ?_;refine jp (kj rfl (hv.j5 hS.j5) ⟨_,Tryz.underlying34⟩ ?_);refine J1 ?_;refine jb ?_;refine kz (λρ w'=>ρ 10= .slice (some ⟨b40,0,none⟩) m m/\St w w' [(b40,223,(ku m (IM q m)).flatMap mG)]) ?_ ?_
 ·refine ja ?_;refine kx (σ:=Nat) (λi ρ w'=>i<=m/\ρ 3= .string (kG (vq q m))/\ρ 10= .slice (some ⟨b40,0,none⟩) m m/\ρ 41=v/\ρ 42=iB m/\ρ 43=iB i/\St w w' [(b40,223,(ku m (Bn q m i)).flatMap mG)]) (λi=>m-i) 0
   ⟨ax _,h3,rfl,rfl,vi rfl oO,rfl,hS⟩ ?_
  clear hS;rintro i ρ w3 ⟨hi,h3,h10,h41,h42,h43,hS⟩;have htf:=ka m (Bn q m i);refine V1 ?_;by_cases hlt:i<m
  ·refine V1 ?_;have hCi:=hC m (aB _);have hLi:=hL i hlt;have hLd:=to (q i);have hLn:=tU (q i);unfold U7 at hCi;have hdz:=lT (dz (vq q m) (q i).den);refine J1 ?_;refine jp (kp (i:=i) h41 h43 (hv.j5 hS.j5) oO dO kM (jq (ky (i:=i) kP rfl ki (hv.j5 hS.j5) dO rfl rfl (.inl rfl) ?_)));refine J1 ?_;intro b12 wz9 hS hBz9;refine J2 ?_;intro wz10 hS;refine ja ?_;rw[hget i hlt]at hS;refine J2 ?_;refine jh (j7 Tryz.call173 rfl (xl (q i) _) ?_);rintro _ wc11 ⟨rfl,hBc11⟩;replace hS:=hS.ko hBc11;refine jh (j7 Tryz.call68 rfl (Is _ _ _ oO oO (q i).den_nz) ?_);rintro _ wc12 ⟨rfl,hBc12⟩;replace hS:=hS.ko hBc12;refine V7 ?_;refine kE [jo 0,jo 1,jo 2,ju 3,jo 4,ju 5,jo 6,jv 7,jo 8,jo 9,jw 10] kR kR hS ?_;intro wz13 hS hBz13;refine J7 ?_;refine jn rfl (j7 Tryz.call30 rfl (wB _ _ _ (by show(kG _).size<=_;omega) oO) ?_);rintro _ wc14 ⟨rfl,hBc14⟩;replace hS:=hS.ko hBc14;refine⟨hBc14,?_⟩;refine jl rfl (kQ rfl (wc _ _) (jl rfl (kF (i:=i) rfl rfl oO dO rK ?_)));refine jx rfl (zy (k:=1) (i:=i) (enc:=mG) (IM q m i) (λ_=>rfl) rfl rfl oX hS rfl (by first|omega|simp) dO rfl rfl ?_);intro wz15 hS;refine ja ?_;replace hS:=hS.drop (ab _ _);rw[MV]at hS;refine V2 ?_;exact⟨i+1,_,rfl,⟨hlt,jY,jY,jY,jY,vi rfl oO,hS⟩,oO⟩
  ·refine J1 ?_;refine jt ?_;obtain rfl:i=m:=oO;rw[show ku i (Bn q i i)=ku i (IM q i)from kB λj hj=>aj hj]at hS;exact⟨_,rfl,h10,hS⟩
 clear hS;rintro ρ w3 ⟨h10,hS⟩;refine J2 ?_;refine jt ?_;refine kD rfl rfl ?_;exact⟨⟨_,rfl,hS⟩,hS.j5⟩
abbrev MZ:=Nat->Nat->ZZ
def JU (f:MZ) (k:Nat) (last:ZZ) (i j:Nat):ZZ:=Ib (te (tc (f k k) (f i j)) (tc (f i k) (f k j))) last
def u5 (f:MZ) (k:Nat) (last:ZZ):MZ:=λi j=>if i=k then f k j else if j=k then Ay else JU f k last i j
def wQ (f:MZ) (k:Nat) (last:ZZ) (i:Nat):MZ:=λa b=>if a<i then u5 f k last a b else f a b
def Bo (f:MZ) (k:Nat) (last:ZZ) (i j:Nat):MZ:=λa b=>if a=i/\b<j/\b≠k then JU f k last i b else wQ f k last i a b
theorem Nv {f:MZ} {n m S:Nat} (h:∀i,i<n->∀j,j<m->ye (f i j)<=S) {k i j:Nat} (last:ZZ) (hk:k<n) (hkm:k<m) (hi:i<n) (hj:j<m):ye (JU f k last i j)<=2*S+1:=by
 have h1:=QC (te (tc (f k k) (f i j)) (tc (f i k) (f k j))) last;have h2:=E0 (tc (f k k) (f i j)) (tc (f i k) (f k j));have h3:=xQ (f k k) (f i j);have h4:=xQ (f i k) (f k j);have:=h k hk k hkm;have:=h i hi j hj;have:=h i hi k hkm;have:=h k hk j hj;unfold JU;omega
theorem I6 {f:MZ} {n m S:Nat} (h:∀i,i<n->∀j,j<m->ye (f i j)<=S) {k:Nat} (last:ZZ) (hk:k<n) (hkm:k<m):∀i,i<n->∀j,j<m->ye (u5 f k last i j)<=2*S+1:=by
 intro i hi j hj;unfold u5;split
 ·have:=h k hk j hj;omega
 ·split
  ·rw[Pj];omega
  ·exact Nv h last hk hkm hi hj
theorem DT {R0:List (Rw ZZ)} {n m:Nat} {f:MZ} {w0:World} {bo:Nat} {H:List kV} (k:Nat) (last:ZZ) (S:Nat) (w:World) (hR0:mx R0 n m f) (hn:n<=1000) (hm:m<=1000) (hk:k<n) (hkm:k<m) (hf:∀i,i<n->∀j,j<m->ye (f i j)<=S) (hls:ye last<=S) (hl0:last.mag≠0) (hK:2*S+2<=MX) (hS:St w0 w (mB mG 223 220 bo R0 H)):
  lW Tryz.prog 145 #[.slice (some ⟨bo,0,none⟩) n n,.int .i64 k,D3 last] w λv w'=>v= .tuple #[]/\∃R',mx R' n m (u5 f k last)/\St w0 w' (mB mG 223 220 bo R' H):=by
 have hM:MX=1099511627776:=rfl;have hlk0:k<R0.length:=by rw[hR0.len];exact hk
 have hxk0:=hR0.xV hk;have hg0:(R0.getD k oK).X.getD k Ay=f k k:=hR0.get hk hkm _;refine enter Tryz.func145 rfl Tryz.ntmps145 rfl ?_;refine jr ?_;refine jh (lj (new:=mG last) rfl rfl hS ?_);intro b5 wz1 hS hBz1;refine ja ?_;replace hS:St w0 _ ([(b5,223,mG last)]++mB mG 223 220 bo R0 H):=hS;refine J2 ?_;refine jp (kF (i:=k) rfl rfl oO dO rB (jq (np [_] rfl rY hS oO hlk0 ?_)));refine J1 ?_;refine jp (kF (i:=k) rfl rfl oO dO rK (jq (rL [_] (i:=k) (j:=k) Ay mS rfl oX hS rfl hlk0 oO oO rfl (.inl rfl) ?_)));refine J1 ?_;intro b6 wz2 hS hBz2;refine J1 ?_;intro wz3 hS;refine ja ?_;rw[hg0]at hS;replace hS:St w0 _ ([(b6,223,mG (f k k)),(b5,223,mG last)]++mB mG 223 220 bo R0 H):=hS;refine ja ?_;refine nb (λρ'=>ρ' 0= .slice (some ⟨bo,0,none⟩) n n/\ρ' 1= .int .i64 k/\ρ' 5= .pointer (some ⟨b5,0,none⟩)/\ρ' 6= .pointer (some ⟨b6,0,none⟩)/\True) ⟨rfl,rfl,rfl,rfl,trivial⟩ ?_;rintro ρk4 ⟨hk4_0,hk4_1,hk4_5,hk4_6,-⟩;refine J3 ?_;refine jb ?_;refine kz (λρ w'=>∃R,mx R n m (wQ f k last n)/\St w0 w' ([(b6,223,mG (f k k)),(b5,223,mG last)]++mB mG 223 220 bo R H)) ?_ ?_
 ·refine ja ?_;refine kx (σ:=Nat) (λi ρ w'=>i<=n/\ρ 0= .slice (some ⟨bo,0,none⟩) n n/\ρ 1=iB k/\ρ 5=pB b5/\ρ 6=pB b6/\ρ 18= .slice (some ⟨bo,0,none⟩) n n/\ρ 19=iB n/\ρ 20=iB i/\
   ∃R,mx R n m (wQ f k last i)/\St w0 w' ([(b6,223,mG (f k k)),(b5,223,mG last)]++mB mG 223 220 bo R H)) (λi=>n-i) 0
   ⟨ax _,jY,jY,jY,jY,rfl,rfl,rfl,R0,hR0.congr λa _ b _=>(ah (aS _)).symm,hS⟩ ?_
  clear hS hlk0 hxk0 hg0;rintro i ρ w2 ⟨hi,h0,h1,h5,h6,h18,h19,h20,R,hR,hS⟩;refine V1 ?_;by_cases hlt:i<n
  ·refine V1 ?_;have hli:i<R.length:=by rw[hR.len];exact hlt
   have hlk:k<R.length:=by rw[hR.len];exact hk
   have hxi:=hR.xV hlt;have hrow:∀b,b<m->wQ f k last i i b=f i b:=λb _=>ah (dB _);have hrowk:∀b,b<m->wQ f k last i k b=f k b:=λb _=>by
    unfold wQ u5;split
    ·rw[aj rfl]
    ·rfl
   refine J1 ?_;refine jp (kF (i:=i) h18 h20 oO dO rB (jq (np [_,_] rfl rY hS oO hli ?_)));refine V5 ?_;by_cases hik:i=k
   ·refine V3 ?_;refine⟨i+1,_,rfl,⟨hlt,jY,jY,jY,jY,jY,jY,vi rfl oO,R,hR.congr λa _ b hb=> ?_,hS⟩,oO⟩;by_cases e:a=i
    ·rw[e,hrow b hb];unfold wQ u5;rw[aj oO,aj hik,hik]
    ·unfold wQ;by_cases e2:a<i
     ·rw[aj e2,aj oO]
     ·rw[ah e2,ah oO]
   ·refine V1 ?_;have hgi:(R.getD i oK).X.getD k Ay=f i k:=by rw[hR.get hlt hkm];exact hrow k hkm
    refine J2 ?_;refine jp (kF (i:=k) rfl rfl oO dO rK (jq (rL [_,_] (i:=i) (j:=k) Ay mS rfl oX hS rfl hli oO oO rfl (.inl rfl) ?_)));refine J1 ?_;intro b9 wz5 hS hBz5;refine J1 ?_;intro wz6 hS;refine ja ?_;rw[hgi]at hS;replace hS:St w0 _ ([(b9,223,mG (f i k)),(b6,223,mG (f k k)),(b5,223,mG last)]++mB mG 223 220 bo R H):=hS;obtain⟨bi,hbi⟩:=jz ((R.getD i oK).b);obtain⟨ci,hci⟩:=jz ((R.getD i oK).cap);have hvi:=hR.v hlt;rw[<-hbi,<-hci]at hvi;rw[hvi];refine ja ?_;refine nb (λρ'=>ρ' 0= .slice (some ⟨bo,0,none⟩) n n/\ρ' 1= .int .i64 k/\ρ' 5= .pointer (some ⟨b5,0,none⟩)/\ρ' 6= .pointer (some ⟨b6,0,none⟩)/\ρ' 8= .slice (some ⟨bi,0,none⟩) m ci/\ρ' 9= .pointer (some ⟨b9,0,none⟩)/\ρ' 18= .slice (some ⟨bo,0,none⟩) n n/\ρ' 19= .int .i64 n/\ρ' 20= .int .i64 i/\True) ⟨h0,h1,h5,h6,rfl,rfl,h18,h19,h20,trivial⟩ ?_;rintro ρk7 ⟨hk7_0,hk7_1,hk7_5,hk7_6,hk7_8,hk7_9,hk7_18,hk7_19,hk7_20,-⟩;refine J3 ?_;refine jb ?_;refine kz (λρ w'=>ρ 0= .slice (some ⟨bo,0,none⟩) n n/\ρ 1=iB k/\ρ 5=pB b5/\ρ 6=pB b6/\ρ 8= .slice (some ⟨bi,0,none⟩) m ci/\ρ 18= .slice (some ⟨bo,0,none⟩) n n/\ρ 19=iB n/\ρ 20=iB i/\
     ∃R,(R.getD i oK).b=bi/\mx R n m (Bo f k last i m)/\St w0 w' ([(b6,223,mG (f k k)),(b5,223,mG last)]++mB mG 223 220 bo R H)) ?_ ?_
    ·refine ja ?_;refine kx (σ:=Nat) (λj ρ w'=>j<=m/\ρ 0= .slice (some ⟨bo,0,none⟩) n n/\ρ 1=iB k/\ρ 5=pB b5/\ρ 6=pB b6/\ρ 8= .slice (some ⟨bi,0,none⟩) m ci/\ρ 9=pB b9/\ρ 18= .slice (some ⟨bo,0,none⟩) n n/\ρ 19=iB n/\ρ 20=iB i/\ρ 33=iB m/\ρ 34=iB j/\
      ∃R,(R.getD i oK).b=bi/\mx R n m (Bo f k last i j)/\St w0 w' ([(b9,223,mG (f i k)),(b6,223,mG (f k k)),(b5,223,mG last)]++mB mG 223 220 bo R H)) (λj=>m-j) 0
      ⟨ax _,jY,jY,jY,jY,jY,jY,jY,jY,jY,rfl,rfl,R,hbi.symm,hR.congr λa _ b _=>(ah oO).symm,hS⟩ ?_
     clear hS hli hlk hxi hgi hbi hci hvi hR;rintro j ρ w3 ⟨hj,h0,h1,h5,h6,h8,h9,h18,h19,h20,h33,h34,R,hb,hR,hS⟩;have hli:i<R.length:=by rw[hR.len];exact hlt
     have hlk:k<R.length:=by rw[hR.len];exact hk
     have hxi:=hR.xV hlt;have hxk:=hR.xV hk;refine V1 ?_;by_cases hjl:j<m
     ·refine V6 ?_;by_cases hjk:j=k
      ·refine V3 ?_;refine⟨j+1,_,rfl,⟨hjl,jY,jY,jY,jY,jY,jY,jY,jY,jY,jY,vi rfl oO,R,hb,hR.congr λa _ b _=> ?_,hS⟩,oO⟩;unfold Bo;by_cases e:a=i/\b<j/\b≠k
       ·rw[aj e,aj oO]
       ·rw[ah e,ah oO]
      ·refine V1 ?_;have hgi:(R.getD i oK).X.getD j Ay=f i j:=by
        rw[hR.get hlt hjl];unfold Bo;rw[ah oO];exact hrow j hjl
       have hgk:(R.getD k oK).X.getD j Ay=f k j:=by
        rw[hR.get hk hjl];unfold Bo;rw[ah oO];exact hrowk j hjl
       have q1:=hf k hk k hkm;have q2:=hf i hlt j hjl;have q3:=hf i hlt k hkm;have q4:=hf k hk j hjl;have t1:=xQ (f k k) (f i j);have t2:=xQ (f i k) (f k j);have t3:=E0 (tc (f k k) (f i j)) (tc (f i k) (f k j));refine ja ?_;refine kE [jo 0,jo 1,ju 2,jo 3,jo 4,jo 5,ju 6,ju 8,jo 9,jo 10,jo 11,ju 12,jo 13,jo 14,ju 15,ju 18,jv 7,jv 16,jv 17,jv 19,jo 20,jw 21] kR kR hS ?_;intro wz8 hS hBz8;refine J5 ?_;refine jl rfl (kF (i:=j) rfl rfl oO dO rK (jm rfl (rL [_,_,_] (i:=i) (j:=j) Ay mS rfl oX hS hb hli oO oO rfl (.inl rfl) ?_)));refine J3 ?_;refine jl rfl (kF (i:=k) rfl rfl oO dO rB (jm rfl (np [_,_,_] rfl rY hS oO hlk ?_)));refine J1 ?_;refine jl rfl (kF (i:=j) rfl rfl oO dO rK (jm rfl (rL [_,_,_] (i:=k) (j:=j) Ay mS rfl oX hS rfl hlk oO oO rfl (.inl rfl) ?_)));refine J1 ?_;rw[hgi,hgk];refine jn rfl (j7 Tryz.call174 rfl (Ev (f k k) (f i j) _ oO oO) ?_);rintro _ wc9 ⟨rfl,hBc9⟩;replace hS:=hS.ko hBc9;refine⟨hBc9,?_⟩;refine jn rfl (j7 Tryz.call174 rfl (Ev (f i k) (f k j) _ oO oO) ?_);rintro _ wc10 ⟨rfl,hBc10⟩;replace hS:=hS.ko hBc10;refine⟨hBc10,?_⟩;refine jn rfl (j7 Tryz.call175 rfl (Nx _ _ _ oO oO) ?_);rintro _ wc11 ⟨rfl,hBc11⟩;replace hS:=hS.ko hBc11;refine⟨hBc11,?_⟩;refine jn rfl (j7 Tryz.call176 rfl (OW _ last _ oO oO hl0) ?_);rintro _ wc12 ⟨rfl,hBc12⟩;replace hS:=hS.ko hBc12;refine⟨hBc12,?_⟩;refine jl rfl (kF (i:=j) rfl rfl oO dO rK (jx rfl (yl [_,_,_] (i:=i) (j:=j) (JU f k last i j) mS rfl rfl oX hS hb hli oO oO rfl rfl ?_)));intro wz13 hS;refine V2 ?_;refine⟨j+1,_,rfl,⟨hjl,jY,jY,jY,jY,jY,jY,jY,jY,jY,jY,vi rfl oO,_,?_,(hR.put hlt j (JU f k last i j)).congr λa _ b _=> ?_,hS⟩,oO⟩
       ·rw[nq _ _ _ hli,aj rfl];exact hb
       ·unfold Bo;by_cases e:a=i/\b=j
        ·rw[aj e,aj oO,e.2]
        ·rw[ah e];by_cases e2:a=i/\b<j/\b≠k
         ·rw[aj e2,aj oO]
         ·rw[ah e2,ah oO]
     ·refine J1 ?_;refine jt ?_;obtain rfl:j=m:=oO;exact⟨_,rfl,h0,h1,h5,h6,h8,h18,h19,h20,R,hb,hR,hS.drop (ab _ _)⟩
    clear hS hli hlk hxi hgi hbi hci hvi hR;rintro ρ w3 ⟨h0,h1,h5,h6,h8,h18,h19,h20,R,hb,hR,hS⟩;have hli:i<R.length:=by rw[hR.len];exact hlt
    have hxi:=hR.xV hlt;refine J2 ?_;refine jp (kQ rfl TM (jp (kF (i:=k) rfl rfl oO dO rK (jh (yl [_,_] (i:=i) (j:=k) Ay mS rfl rfl oX hS hb hli oO oO (by rw[Au];rfl) (by rw[Au];rfl) ?_)))));intro wz14 hS;refine V2 ?_;refine⟨i+1,_,rfl,⟨hlt,jY,jY,jY,jY,jY,jY,vi rfl oO,_,(hR.put hlt k Ay).congr λa _ b hb'=> ?_,hS⟩,oO⟩;by_cases e:a=i
    ·by_cases e2:b=k
     ·rw[aj ⟨e,e2⟩];unfold wQ u5;rw[aj oO,ah oO,aj e2]
     ·rw[ah (λq=>e2 q.2)];unfold Bo wQ u5;rw[aj ⟨e,hb',e2⟩,aj oO,ah oO,ah e2,e]
    ·rw[ah (λq=>e q.1)];unfold Bo wQ;rw[ah (λq=>e q.1)];by_cases e2:a<i
     ·rw[aj e2,aj oO]
     ·rw[ah e2,ah oO]
  ·refine J1 ?_;refine jt ?_;obtain rfl:i=n:=oO;exact⟨_,rfl,R,hR,hS⟩
 clear hS;rintro ρ w2 ⟨R,hR,hS⟩;refine ja ?_;exact qf rfl ⟨rfl,R,hR.congr λa ha b _=>aj ha,(hS.drop (ab _ _)).drop (ab _ _)⟩
def DJ (A:List (List RR)) (B:List RR):Mx:=λi j=>if j<A.length then RM A i j else if j=A.length then VX B i else 0
def NM (A:List (List RR)) (B:List RR):Rd:=lF A.length (DJ A B) A.length
def Lc (A:List (List RR)) (B:List RR):Int:=if OA A≠0 then OA A else if B.length≠A.length then 4 else if(NM A B).P.length=A.length then 0 else 5
def RN (A:List (List RR)) (B:List RR):List RR:=if Lc A B=0 then ku A.length λi=>j9 ((NM A B).M i A.length)else []
def Vb (q:Nat->Nat->Rat) (m:Nat):MZ:=λi j=>IM (q i) m j
def NK (q:Nat->Nat->Rat) (m:Nat):Mx:=λi j=>if j<m then((zv (Vb q m i j):Int):Rat)else 0
theorem MR (q:Nat->Nat->Rat) (m:Nat):vw (NK q m):=λi j=>by
 unfold NK;split
 ·exact⟨_,rfl⟩
 ·exact⟨0,rfl⟩
theorem Ln (q:Nat->Rat) (m:Nat):((vq q m:Int):Rat)≠0:=λe=>by
 have h:=BK q m;have:(vq q m:Int)=0:=gR.1 e;omega
theorem An {q:Nat->Nat->Rat} {m:Nat} (h0:∀i j,m<=j->q i j=0) (i j:Nat):NK q m i j=((vq (q i) m:Int):Rat)*q i j:=by
 unfold NK;by_cases h:j<m
 ·rw[aj h];exact RX (q i) h
 ·rw[ah h,h0 i j oO,dZ]
theorem Sd (A:List (List RR)) (B:List RR):∀i j,A.length+1<=j->DJ A B i j=0:=λi j h=>by
 unfold DJ;rw[ah oO,ah oO]
theorem N1 {n m:Nat} {q:Mx} (h0:∀i j,m<=j->q i j=0) (k:Nat):(lF n (NK q m) k).P.length=k↔(lF n q k).P.length=k:=by
 constructor
 ·intro h;refine(vB (A:=NK q m) (B:=q) (c:=λi=>((vq (q i) m:Int):Rat)⁻¹) (λi _ e=> ?_) (λi _ j=> ?_) k h).1
  ·have:=bX _ (Ln (q i) m);rw[e,dZ]at this;exact absurd this dD
  ·have:=bX _ (Ln (q i) m);rw[An h0];grind
 ·intro h;exact(vB (A:=q) (B:=NK q m) (c:=λi=>((vq (q i) m:Int):Rat)) (λi _=>Ln (q i) m) (λi _ j=>An h0 i j) k h).1
theorem MU {n m:Nat} {q:Mx} (h0:∀i j,m<=j->q i j=0) (h:(lF n q n).P.length=n):∀i,i<n->∀j,(lF n (NK q m) n).M i j=(lF n q n).M i j:=by
 obtain⟨_,c',_,e⟩:=vB (A:=q) (B:=NK q m) (c:=λi=>((vq (q i) m:Int):Rat)) (λi _=>Ln (q i) m) (λi _ j=>An h0 i j) n h;intro i hi j;rw[e i hi j,aj hi,dW]
theorem Et {n:Nat} {A:Mx}:∀d k,k+d=n->(lF n A n).P.length=n->(lF n A k).P.length=k
 |0,k,h,hf=>by obtain rfl:k=n:=oO;exact hf
 |d+1,k,h,hf=>(wF (Et d (k+1) oO hf)).1
theorem MO {n k:Nat} {A:Mx} (hk:k<n) (hp:¬pv (lF n A k).M k n k<n):(lF n A n).P.length≠n:=λhf=>hp (wF (Et (n-(k+1)) (k+1) oO hf)).2
theorem Sf {x y:Bool} {a b:Nat} (hb:b≠0):mkRat (sg (x !=y) a) b=((sg x a:Int):Rat)/((sg y b:Int):Rat):=by
 have h0:((b:Int):Rat)≠0:=λe=>hb (by have:=gR.1 (show((b:Int):Rat)=((0:Int):Rat)from e);omega);have hi:=bX _ h0;have hn:(-((b:Int):Rat))≠0:=λe=>h0 (by grind);have hi2:=bX _ hn;have he:(-((b:Int):Rat))⁻¹ = -((b:Int):Rat)⁻¹ :=by grind
 rw[gF];have hbb:((b:Nat):Rat)=((b:Int):Rat):=rfl;unfold sg;rw[hbb];cases x<;>cases y<;>simp only[bne_self_eq_false,jE,jG,gX,Bool.bne_false,Bool.bne_true,Bool.not_false,Rat.intCast_neg,bR,he]<;>grind
theorem M6 (p k:Nat) (vr:Value) (l:List ZZ) (w:World) (hp:At w ⟨p,0,none⟩ [.int .i64 k]) (hr:Sl mG 2 w vr l) (hk:k<l.length):
  lW Tryz.prog 144 #[vr,.pointer (some ⟨p,0,none⟩)] w λv w'=>v= .bool (decide ((l.getD k Ay).mag≠0))/\Below w.heap.size w w':=by
 have hS:=St.init w;refine enter Tryz.func144 rfl Tryz.ntmps144 rfl ?_;refine J2 ?_;refine jq (oL (cs:=[.int .i64 k]) rfl ni (hp.j5 hS.j5) rfl rfl (.inr rfl) (jp (kp (i:=k) rfl rfl (hr.j5 hS.j5) oO dO rK ?_)));refine jp (oG rfl (nc (hr.j5 hS.j5) (λ_=>rfl) dD dO) wS ?_);refine jq (oE (i:=k) (off:=1) Ay rfl t9 (hr.j5 hS.j5) (λ_=>rfl) dD dO rfl rfl (.inr rfl) ?_);refine jp (wv rfl rfl ?_);refine J1 ?_;refine jt ?_;refine kD rfl rfl ?_;exact⟨bI Value.bool (dP.2 (not_congr ob)),hS.j5⟩
def DI (pr:Nat->Bool):Nat->Nat->Int
 |0,_=> -1
 |d+1,i=>if pr i=true then i else DI pr d (i+1)
theorem NF (p k n m:Nat) (v:Value) (vs:List Value) (f:MZ) (w:World) (hp:At w ⟨p,0,none⟩ [.int .i64 k]) (hv:Sl sU 1 w v vs) (hn:vs.length=n) (hr:∀i,i<n->Sl mG 2 w (vs.getD i undef) (ku m (f i))) (hk:k<m):
  lW Tryz.prog 143 #[v,.func (.func 144) #[] #[.pointer (some ⟨p,0,none⟩)]] w λr w'=>r= .int .i64 (DI (λi=>decide ((f i k).mag≠0)) n 0)/\Below w.heap.size w w':=by
 have hmx:=hv.maxLen;have hS:=St.init w;refine enter Tryz.func143 rfl Tryz.ntmps143 rfl ?_;refine J2 ?_;refine jp (kj rfl (hv.j5 hS.j5) ⟨_,Tryz.underlying218⟩ ?_);refine J1 ?_;refine jb ?_;refine kz (λρ w'=>DI (λi=>decide ((f i k).mag≠0)) n 0= -1/\St w w' []) ?_ ?_
 ·refine ja ?_;refine kx (σ:=Nat) (λi ρ w'=>i<=n/\DI (λi=>decide ((f i k).mag≠0)) n 0=DI (λi=>decide ((f i k).mag≠0)) (n-i) i/\ρ 0=v/\ρ 1= .func (.func 144) #[] #[.pointer (some ⟨p,0,none⟩)]/\ρ 7=iB n/\ρ 8=iB i/\St w w' []) (λi=>n-i) 0
   ⟨ax _,rfl,rfl,rfl,vi rfl oO,rfl,hS⟩ ?_
  clear hS;rintro i ρ w2 ⟨hi,hf,h0,h1,h7,h8,hS⟩;refine V1 ?_;by_cases hlt:i<n
  ·refine V1 ?_;obtain⟨d,hd⟩:∃d,n-i=d+1:=⟨n-i-1,oO⟩;have hg:(ku m (f i)).getD k Ay=f i k:=kw _ _ hk;refine J5 ?_;refine jp (kp (i:=i) rfl rfl (hv.j5 hS.j5) oO dO rB (jq (ky (i:=i) undef rfl rY (hv.j5 hS.j5) dO rfl rfl (.inr rfl) (jh (zN Tryz.call144 rfl rfl (M6 p k _ (ku m (f i)) _ (hp.j5 hS.j5) ((hr i hlt).j5 hS.j5) (by rw[ka];exact hk)) ?_)))));rintro r w3 ⟨rfl,hB3⟩;replace hS:=hS.ko hB3;rw[hg];refine ja ?_;by_cases hne:(f i k).mag≠0
   ·refine k9 rfl (ak hne) ?_;refine ja ?_;have e:DI (λi=>decide ((f i k).mag≠0)) n 0=i:=by
     rw[hf,hd];show(if decide ((f i k).mag≠0)=true then(i:Int)else _)=i;rw[aj (ak hne)]
    rw[e];refine J2 ?_;refine jt ?_;refine kD rfl rfl ?_;exact⟨rfl,hS.j5⟩
   ·refine lx rfl (ae hne) ?_;refine V2 ?_;refine⟨i+1,_,rfl,⟨hlt,?_,jY,jY,jY,vi rfl oO,hS⟩,oO⟩;rw[hf,hd];show(if decide ((f i k).mag≠0)=true then(i:Int)else DI _ d (i+1))=_;rw[ah (by rw[ae hne];decide),show n-(i+1)=d by omega]
  ·refine J1 ?_;refine jt ?_;obtain rfl:n=i:=oO;rw[dU]at hf;exact⟨_,rfl,hf,hS⟩
 clear hS;rintro ρ w2 ⟨he,hS⟩;refine ja ?_;rw[he];refine J1 ?_;refine jt ?_;refine kD rfl rfl ?_;exact⟨rfl,hS.j5⟩
theorem qw {P:Program} {N:Nat} {ρ:Nat->Value} {w:World} {o:Oper} {K:Value->World->Prop} (h:qU P N ρ w o λv=>Below w.heap.size w w/\K v w):pi P N ρ w o λv w'=>Below w.heap.size w w'/\K v w':=by
 obtain⟨v,hr,hk⟩:=h;exact n7 (hr w (Below.refl _ _)) hk
theorem UE {A:List (List RR)} {B:List RR} {i:Nat}:RM [ku A.length (qM (RM A) i)++[B.getD i kP]] 0=λj=>if j<A.length then RM A i j else if j=A.length then VX B i else 0:=by
 funext j;have htl:=ka A.length (qM (RM A) i);show toQ ((ku A.length (qM (RM A) i)++[B.getD i kP]).getD j kP)=_;by_cases h:j<A.length
 ·rw[aj h,ai,cZ oO,<-ai,kw _ _ h];exact toQ_ofQ _
 ·rw[ah h,ai,bV oO,htl];by_cases h2:j=A.length
  ·rw[aj h2,h2,dU];rfl
  ·rw[ah h2,dg (by simp;omega)];exact Rp
theorem QY (A:List (List RR)) (B:List RR) (i:Nat):DJ A B i=RM [ku A.length (qM (RM A) i)++[B.getD i kP]] 0:=UE.symm
theorem Vp {A:List (List RR)} {B:List RR} {K i:Nat} (hB:Nq K A) (hBB:RB K B) (hi:i<A.length) (hiB:i<B.length) (hev:(A.getD i []).length=A.length):∀j,j<A.length+1->L (DJ A B i j)<=K:=by
 intro j hj;unfold DJ;by_cases h:j<A.length
 ·rw[aj h];exact ME hB hi oO
 ·rw[ah h,aj oO];exact dt (uK _) (hBB _ (kH B i kP hiB))
def SS (S:Nat):Nat->Nat
 |0=>S
 |k+1=>2*SS S k+1
theorem SH (S:Nat):∀k,SS S k+1=2^k*(S+1)
 |0=>by show S+1=_;rw[cO,dG]
 |k+1=>by
  have ih:=SH S k;show 2*SS S k+1+1=_;rw[bA,bF (2^k) 2,bf,<-ih];omega
theorem Vo {S k:Nat} (hk:k<=16):SS S k+1<=65536*(S+1):=by
 rw[SH];exact aH _ (dt (bM dD hk) dD)
theorem UM {n m k:Nat} {B:Mx} {f:MZ} (h:H7 n m B k λi j=>zv (f i j)) (hk:(lF n B k).P.length=k) (hkm:k<m) (i:Nat) (hi:i<n):(f i k).mag≠0↔(lF n B k).M i k≠0:=by
 have e:=N7 h hk hi hkm;exact not_congr (Po.symm.trans e)
theorem Ko (g:MZ) (k:Nat) (last:ZZ) (i j:Nat):zv (u5 g k last i j)=D7 (λi j=>zv (g i j)) k (zv last) i j:=by
 unfold u5 D7 JU;by_cases h:i=k
 ·rw[aj h,aj h]
 ·rw[ah h,ah h];by_cases h2:j=k
  ·rw[aj h2,aj h2];rfl
  ·rw[ah h2,ah h2,Sh,Qj,Hp,Hp]
def Hr (f:MZ) (k p:Nat):MZ:=λi j=>if i=p then f k j else if i=k then f p j else f i j
theorem TD (f:MZ) (k p:Nat):(λi j=>zv (Hr f k p i j))=Jn (λi j=>zv (f i j)) k p:=by
 funext i j;unfold Hr Jn;by_cases h:i=p
 ·rw[aj h];by_cases h2:i=k
  ·rw[aj h2,<-h2,h]
  ·rw[ah h2,aj h]
 ·rw[ah h];by_cases h2:i=k
  ·rw[aj h2,aj h2]
  ·rw[ah h2,ah h2,ah h]
theorem Nj {f:MZ} {n m S k p:Nat} (hk:k<n) (hp:p<n) (h:∀i,i<n->∀j,j<m->ye (f i j)<=S):∀i,i<n->∀j,j<m->ye (Hr f k p i j)<=S:=by
 intro i hi j hj;unfold Hr;split
 ·exact h k hk j hj
 ·split
  ·exact h p hp j hj
  ·exact h i hi j hj
def oF (g:Nat->Rat) (i a:Nat):Rat:=if a<i then g a else 0
theorem Tw (g:Nat->Rat) (n i:Nat):(ku n λa=>j9 (oF g i a)).set i (j9 (g i))=ku n λa=>j9 (oF g (i+1) a):=by
 rw[zm];refine kB λa _=> ?_;unfold oF;by_cases h:a=i
 ·rw[aj h,aj oO,h]
 ·rw[ah h];by_cases h2:a<i
  ·rw[aj h2,aj oO]
  ·rw[ah h2,ah oO]
theorem Sz (g:Nat->Rat) (n:Nat):List.replicate n kP=ku n λa=>j9 (oF g 0 a):=by
 rw[ur];refine kB λa _=> ?_;unfold oF;rw[ah (aS _),oC];rfl
theorem RL {α:Type} (z a b:α) (L D:List α):(z::a::b::(L++D)).Perm (a::b::(L++[z]++D)):=by
 have h1:(z::a::b::(L++D)).Perm (a::b::z::(L++D)):=(List.Perm.swap a z _).trans (List.Perm.cons _ (List.Perm.swap b z _));refine h1.trans (List.Perm.cons _ (List.Perm.cons _ ?_));rw[aF];exact List.perm_middle.symm
theorem Ob {α:Type} (z a b:α) (L D:List α):(a::b::(L++z::D)).Perm (a::b::(L++D)++[z]):=by
 refine List.Perm.cons _ (List.Perm.cons _ ?_);exact List.perm_middle.trans (ew _ _).symm
theorem Ss {R:List (Rw RR)} {n m:Nat} {f:Nat->Nat->RR} (hR:mx R n m f) (hF:FF R) {i:Nat} (hi:i<n) (t:TypeId):Gl j6 t 3 (R.getD i oK).v (ku m (f i)) [(R.getD i oK).x4 j6 t]:=by
 have hl:i<R.length:=by rw[hR.len];exact hi
 have hf:=hF _ (kH R i oK hl);obtain⟨hc1,hc2⟩:=hR.cap i hi;have hr:=hR.row i hi;have htl:=ka m (f i);refine⟨lK kt _,.inr ⟨(R.getD i oK).b,(R.getD i oK).cap,(R.getD i oK).sp,?_,?_,?_,?_,?_⟩⟩
 ·rw[hR.v hi,htl]
 ·rw[<-hr];rfl
 ·rw[htl];exact hc1
 ·unfold Go.maxLen;omega
 ·rw[<-hr];exact hf
theorem ML (v vb_:Value) (A:List (List RR)) (vs:List Value) (B:List RR) (K:Nat) (w:World) (hA:qE j6 3 w v A vs) (hBv:Sl j6 3 w vb_ B) (hB:Nq K A) (hBB:RB K B) (hK:200000000*K+300000000<=MX):
  lW Tryz.prog 106 #[v,vb_] w λr w'=>(∃v',r= .tuple #[v',.int .i64 (Lc A B)]/\Sl j6 3 w' v' (RN A B))/\Below w.heap.size w w':=by
 have hM:MX=1099511627776:=rfl;have hno:Lc A B≠0->RN A B=[]:=λh=>ah h;have hS:=St.init w;have hlen:=hA.len;have hmx:=hBv.maxLen;refine enter Tryz.func106 rfl Tryz.ntmps106 rfl ?_;refine J3 ?_;refine jh (j7 Tryz.call140 rfl (Jk v A vs _ (hA.j5 hS.j5)) ?_);rintro _ wc1 ⟨rfl,hBc1⟩;replace hS:=hS.ko hBc1;refine V3 ?_;by_cases he:OA A≠0
 ·have e1:Lc A B=OA A:=aj he;refine J4 ?_;refine jt ?_;refine rH rfl rfl rfl ?_;refine⟨⟨_,by rw[e1];rfl,?_⟩,hS.j5⟩;rw[hno (by rw[e1];exact he)];exact Sl.nil _ _ _
 replace he:=fw.1 he;obtain⟨hs0,hsq⟩:=PM he;obtain⟨h1,h2,h3,h4,h5⟩:=xz hs0;refine J2 ?_;refine jp (kj rfl (hA.sl.j5 hS.j5) ⟨_,Tryz.underlying35⟩ ?_);refine J2 ?_;refine jp (kj rfl (hBv.j5 hS.j5) ⟨_,Tryz.underlying34⟩ ?_);refine V2 ?_;by_cases hx:B.length≠A.length
 ·have e1:Lc A B=4:=by unfold Lc;rw[ah oO,aj hx]
  refine J3 ?_;refine jt ?_;refine rH rfl rfl rfl ?_;refine⟨⟨_,by rw[e1];rfl,?_⟩,hS.j5⟩;rw[hno (by rw[e1];decide)];exact Sl.nil _ _ _
 replace hx:=fw.1 hx;refine V1 ?_;rw[hlen];have e1:Lc A B=if(NM A B).P.length=A.length then 0 else 5:=by unfold Lc;rw[ah oO,ah oO]
 obtain⟨n,hn⟩:=jz A.length;rw[<-hn]at h1 h2 h5 hx e1 hsq⊢;rw[<-hsq]at h5;have hAL:∀i,i<n->∀j,j<n+1->L (DJ A B i j)<=K:=λi hi=>by
  rw[hn];exact Vp hB hBB oO oO (by rw[h5 i hi,hn])
 have haug:∀i,DJ A B i=RM [ku n (qM (RM A) i)++[B.getD i kP]] 0:=λi=>by rw[hn];exact QY A B i
 have hout:∀i j,n+1<=j->DJ A B i j=0:=by rw[hn];exact Sd A B
 have hslD:NM A B=lF n (DJ A B) n:=by rw[hn];rfl
 have hslL:Lc A B=0->RN A B=ku n λi=>j9 ((lF n (DJ A B) n).M i n):=λh=>by rw[hn];exact aj h
 rw[hslD]at e1;obtain⟨q,hq⟩:=jz (DJ A B);rw[<-hq]at hAL haug hout e1 hslL;refine J1 ?_;refine jh (AE (n:=n) rfl rfl rB oO oO oO oO hS ?_);intro bw wz2 hS hBz2;refine V1 ?_;replace hS:St w _ [(bw,220,rep n [ke])]:=hS;rw[F2]at hS;refine ja ?_;refine nb (λρ'=>ρ' 0=v/\ρ' 1=vb_/\ρ' 7= .int .i64 n/\ρ' 8= .slice (some ⟨bw,0,none⟩) n n/\True) ⟨rfl,rfl,rfl,rfl,trivial⟩ ?_;rintro ρk3 ⟨hk3_0,hk3_1,hk3_7,hk3_8,-⟩;refine J1 ?_;refine jh (j7 Tryz.call141 rfl (Am v A vs n K _ (hA.j5 hS.j5) oO oO h1 oO (by rw[<-hn];exact h5) hB oO) ?_);rintro r w2 ⟨⟨bc,RC,rfl,hRC,hFC,hS2⟩,hB2⟩;rw[<-hn]at hRC⊢;replace hS:=hS.join hS2;clear hS2;rw[GG]at hS;refine J2 ?_;refine jb ?_;replace hS:St w _ ((bc,34,RC.map Rw.v)::(bw,220,([]:List (Rw ZZ)).map Rw.v++List.replicate (n-0) ke)::(([]:List (Rw ZZ)).map (Rw.x4 mG 223)++(RC.drop 0).map (Rw.x4 j6 32))):=hS.perm (List.Perm.cons _ (ew _ _));refine kz (λρ w'=>ρ 7=iB n/\ρ 8= .slice (some ⟨bw,0,none⟩) n n/\∃RW,mx RW n (n+1) (Vb q (n+1))/\St w w' (mB mG 223 220 bw RW [])) ?_ ?_
 ·refine ja ?_;refine kx (σ:=Nat) (λi ρ w'=>i<=n/\ρ 1=vb_/\ρ 7=iB n/\ρ 8= .slice (some ⟨bw,0,none⟩) n n/\ρ 31= .slice (some ⟨bc,0,none⟩) n n/\ρ 32=iB n/\ρ 33=iB i/\
   ∃RW,mx RW i (n+1) (Vb q (n+1))/\St w w' ((bc,34,RC.map Rw.v)::(bw,220,RW.map Rw.v++List.replicate (n-i) ke)::(RW.map (Rw.x4 mG 223)++(RC.drop i).map (Rw.x4 j6 32)))) (λi=>n-i) 0
   ⟨ax _,jY,jY,jY,rfl,rfl,rfl,[],⟨rfl,λi hi=>absurd hi (aS _),λi hi=>absurd hi (aS _)⟩,hS⟩ ?_
  clear hS;rintro i ρ w3 ⟨hi,h1',h7,h8,h31,h32,h33,RW,hRW,hS⟩;refine V1 ?_;by_cases hlt:i<n
  ·refine V1 ?_;have hlc:i<RC.length:=by rw[hRC.len];exact hlt
   obtain⟨d,hd⟩:∃d,n-i=d+1:=⟨n-i-1,oO⟩;have hdrop:RC.drop i=RC.getD i oK::RC.drop (i+1):=by rw[nz RC oK hlc];exact dJ hlc
   have hG:=Ss hRC hFC hlt 32;have htl:=ka n (qM (RM A) i);have hLb:=hBB _ (kH B i kP oO);rw[hdrop,df,hd,fR]at hS;replace hS:=hS.perm (Ob _ _ _ _ _);refine J1 ?_;refine jp (kF (i:=i) h31 h33 oO dO lL (jq (LH (k:=0) rfl lV hS rfl (by rw[bZ,eC];exact Dj hlc) ?_)));refine J7 ?_;refine jp (kp (i:=i) rfl rfl (hBv.j5 hS.j5) oO dO kM (jq (ky (i:=i) kP rfl ki (hBv.j5 hS.j5) dO rfl rfl (.inl rfl) (jh (mO (vs:=[lu (B.getD i kP)]) rfl kM rfl dD dD dD (by simp[Value.cells,lu]) rfl hS ?_)))));intro b45 wz4 hS hBz4;refine jh (mz [B.getD i kP] rfl rfl kM dD hG hS rfl rfl kt (tZ [B.getD i kP]) dL dL ?_);intro va5 La5 wa5 hG hS hga5;obtain⟨aq,cq,rfl⟩:=hG.len;refine jh (mO (vs:=[.slice aq (ku n (qM (RM A) i)++[B.getD i kP]).length cq]) rfl lL rfl dD dD dD (by simp[Value.cells]) rfl hS ?_);intro b47 wz6 hS hBz6;have hX:=hS.drop ((ap ((bc,34,RC.map Rw.v)::(bw,220,RW.map Rw.v++ke::List.replicate d ke)::(RW.map (Rw.x4 mG 223)++(RC.drop (i+1)).map (Rw.x4 j6 32))) _).trans (ab _ _));have hsl1:=hS.sle (k:=0) (enc:=sU) (L:=[.slice aq (ku n (qM (RM A) i)++[B.getD i kP]).length cq]) (n:=1) (cap:=1) rfl (λ_=>rfl) (aB _) (aB _) oO;have hslr:=hG.sl (H:=(b47,34,[Value.slice aq (ku n (qM (RM A) i)++[B.getD i kP]).length cq])::(bc,34,RC.map Rw.v)::(bw,220,RW.map Rw.v++ke::List.replicate d ke)::(RW.map (Rw.x4 mG 223)++(RC.drop (i+1)).map (Rw.x4 j6 32))) hS kt;have hx1:(ku n (qM (RM A) i)++[B.getD i kP]).length=n+1:=by rw[aw,htl];rfl
   have hmts:qE j6 3 _ (.slice (some ⟨b47,0,none⟩) 1 1) [ku n (qM (RM A) i)++[B.getD i kP]] [.slice aq (ku n (qM (RM A) i)++[B.getD i kP]).length cq]:=⟨rfl,hsl1,λa ha=>by
    obtain rfl:a=0:=Nat.lt_one_iff.1 ha;exact hslr⟩
   have hBM:Nq K [ku n (qM (RM A) i)++[B.getD i kP]]:=λa ha r hr=>by
    rw[aQ.1 ha]at hr;rcases bB.1 hr with g|g
    ·obtain⟨j,hj,rfl⟩:=rD g;rw[Lr_ofQ];exact ME hB oO (by rw[h5 i hlt];exact hj)
    ·rw[aQ.1 g];exact hLb
   refine jh (j7 Tryz.call141 rfl (Am _ [ku n (qM (RM A) i)++[B.getD i kP]] _ (n+1) K _ hmts (aB _) dM oO oO (λa ha=>by obtain rfl:a=0:=Nat.lt_one_iff.1 ha;exact hx1) hBM oO) ?_);rintro r w4 ⟨⟨b1,R1,rfl,hR1,-,hT⟩,hB4⟩;replace hX:=hX.ko hB4;have hl1:0<R1.length:=by rw[hR1.len];exact Nat.one_pos
   have hrow1:=hR1.sl hT kt (i:=0) Nat.one_pos;rw[show qM (RM [ku n (qM (RM A) i)++[B.getD i kP]]) 0=λj=>j9 (q i j) by rw[haug i]]at hrow1;refine jp (kF (i:=0) rfl rfl oO dO lL (jq (np [] rfl lV hT oO hl1 (jh (j7 Tryz.call142 rfl (Fj _ (q i) (n+1) K _ hrow1 oO (hAL i hlt) oO) ?_)))));rintro r w5 ⟨⟨bz,rfl,hZ⟩,-⟩;have hlenR:(RW.map Rw.v).length=i:=by rw[aO,hRW.len]
   have hfit:i<(RW.map Rw.v++ke::List.replicate d ke).length:=by rw[aw,hlenR,ba];omega
   clear hS;have hS:=hX.join hZ;clear hX hZ;refine jp (kF (i:=i) rfl rfl oO dO rB (jh (nW (k:=2) rfl rfl rY hS rfl (by rw[bZ,eC];exact hfit) rfl ?_)));intro wz7 hS;refine ja ?_;replace hS:St w _ ((bz,223,(ku (n+1) (IM (q i) (n+1))).flatMap mG)::(bc,34,RC.map Rw.v)::(bw,220,(RW.map Rw.v++ke::List.replicate d ke).set (0+i*1) (.slice (some ⟨bz,0,none⟩) (n+1) (n+1)))::(RW.map (Rw.x4 mG 223)++(RC.drop (i+1)).map (Rw.x4 j6 32))):=hS;rw[bZ,eC,BG _ _ _ _ hlenR]at hS;replace hS:=hS.perm (RL _ _ _ _ _);obtain⟨nr,hnr⟩:∃nr:Rw ZZ,nr=⟨bz,n+1,ku (n+1) (IM (q i) (n+1)),[]⟩:=⟨_,rfl⟩;have hnX:nr.X=ku (n+1) (Vb q (n+1) i):=by rw[hnr];rfl
   have hnc:nr.cap=n+1:=by rw[hnr]
   have hvz:nr.v= .slice (some ⟨bz,0,none⟩) (n+1) (n+1):=by
    rw[hnr];show Value.slice _ (ku (n+1) (IM (q i) (n+1))).length _=_;rw[ka]
   have hbz:nr.x4 mG 223=(bz,223,(ku (n+1) (IM (q i) (n+1))).flatMap mG):=by
    rw[hnr];show(bz,223,(ku (n+1) (IM (q i) (n+1))).flatMap mG++[])=_;rw[aK]
   rw[<-hbz,<-hvz]at hS;refine V2 ?_;refine⟨i+1,_,rfl,⟨hlt,jY,jY,jY,jY,jY,vi rfl oO,RW++[nr],AJ hRW hnX ⟨oO,oO⟩,?_⟩,oO⟩;rw[bO,bO,show n-(i+1)=d by omega,aF];exact hS
  ·refine J1 ?_;refine jt ?_;obtain rfl:n=i:=oO;rw[dU,jj,aK,eY (by rw[hRC.len];exact aB _),jO]at hS;exact⟨_,rfl,h7,h8,RW,hRW,hS.drop (ab _ _)⟩
 clear hS;rintro ρ w3 ⟨h7,h8,RW,hRW,hS⟩;obtain⟨S0,hS0⟩:=jz (1001*K+1);have hSS:∀k,k<=n->SS S0 k+1<=65536*(S0+1):=λk hk=>Vo oO;have hsz0:∀i,i<n->∀j,j<n+1->ye (Vb q (n+1) i j)<=S0:=by
  intro i hi j hj;have g1:=OG (hAL i hi) hj;have g2:=IW (hAL i hi) (n+1) (aB _);have g3:(n+1)*K<=1000*K:=aH _ oO;show ye (IM (q i) (n+1) j)<=S0;omega
 obtain⟨Bm,hBm⟩:=jz (NK q (n+1));have hWh:vw Bm:=by rw[hBm];exact MR _ _
 have hfi:=λk=>N1 (n:=n) hout k;have hfs:=MU (n:=n) hout;rw[<-hBm]at hfi hfs;have hrep0:H7 n (n+1) Bm 0 λi j=>zv (Vb q (n+1) i j):=by
  intro i hi j hj;rw[hBm];show _=1*NK q (n+1) i j;unfold NK;rw[aj hj,dW]
 refine jr ?_;refine jh (j7 Tryz.call113 rfl (sE 1 _ dD) ?_);rintro _ wc8 ⟨rfl,hBc8⟩;replace hS:=hS.ko hBc8;refine jp (kQ rfl (wc _ _) ?_);refine J1 ?_;intro b11 wz9 hS hBz9;refine J1 ?_;intro wz10 hS;refine ja ?_;replace hS:St w _ ([(b11,223,mG ⟨false,1⟩)]++mB mG 223 220 bw RW []):=hS;refine J2 ?_;refine jb ?_;refine kz (λρ w'=>(lF n Bm n).P.length=n/\ρ 7=iB n/\ρ 8= .slice (some ⟨bw,0,none⟩) n n/\∃RW f,mx RW n (n+1) f/\H7 n (n+1) Bm n (λi j=>zv (f i j))/\(∀i,i<n->∀j,j<n+1->ye (f i j)<=SS S0 n)/\St w w' (mB mG 223 220 bw RW [])) ?_ ?_
 ·refine ja ?_;refine kx (σ:=Nat) (λk ρ w'=>k<=n/\(lF n Bm k).P.length=k/\ρ 7=iB n/\ρ 8= .slice (some ⟨bw,0,none⟩) n n/\ρ 11=pB b11/\ρ 56=iB n/\ρ 57=iB k/\∃RW f last,mx RW n (n+1) f/\H7 n (n+1) Bm k (λi j=>zv (f i j))/\(∀i,i<n->∀j,j<n+1->ye (f i j)<=SS S0 k)/\((zv last:Int):Rat)=dd n Bm k/\ye last<=SS S0 k/\
   St w w' ([(b11,223,mG last)]++mB mG 223 220 bw RW [])) (λk=>n-k) 0
   ⟨ax _,rfl,jY,jY,rfl,rfl,rfl,RW,_,⟨false,1⟩,hRW,hrep0,hsz0,rfl,(by show(kG 1).size<=S0;rw[pL];omega),hS⟩ ?_
  clear hS hRW hrep0 hsz0;rintro k ρ w4 ⟨hk,hkP,h7,h8,h11,h56,h57,RW,f,last,hRW,hrep,hsz,hlv,hlz,hS⟩;have hSk:=hSS k hk;refine V1 ?_;by_cases hkn:k<n
  ·refine V1 ?_;have hlk:k<RW.length:=by rw[hRW.len];exact hkn
   refine J2 ?_;intro b12 wz11 hS hBz11;refine jh (nW (k:=0) rfl rfl ni hS rfl dM rfl ?_);intro wz12 hS;refine ja ?_;have hmB:=hS.drop (ao [(b12,3,[Value.int .i64 k]),(b11,223,mG last)] (mB mG 223 220 bw RW []));have hO:=hRW.outer hmB (aB n) oO;have hmap:(RW.map Rw.v).length=n:=by rw[aO,hRW.len]
   have hp:At _ ⟨b12,0,none⟩ [.int .i64 k]:=hS.at (k:=0) rfl 0 1;have hO2:=hO.sub (λ_=>rfl) dD (lo:=k) (hi:=(RW.map Rw.v).length) oO (aB _);rw[aU (by rw[eN];exact aB _)]at hO2;have hrows:∀i,i<n-k->Sl mG 2 _ (((RW.map Rw.v).drop k).getD i undef) (ku (n+1) (f (k+i))):=λi hi=>by
    have:=hRW.sl hmB mS (i:=k+i) oO;have e:((RW.map Rw.v).drop k).getD i undef=(RW.getD (k+i) oK).v:=by
     rw[ai,jC,Dj (by rw[hRW.len];omega)];rfl
    rw[e];exact this
   refine jr ?_;refine jp (ks h8 (jq (kX (k:=0) rfl ni hS rfl rfl rfl (.inr rfl) (jp (Sv rfl rfl hO rfl oO rB (jp (PF rfl ?_)))))));refine jh (j7 Tryz.call143 rfl (NF b12 k (n-k) (n+1) _ _ (λi j=>f (k+i) j) _ hp hO2 (by rw[eN,hmap]) hrows oO) ?_);rintro r w5 ⟨rfl,hB5⟩;replace hS:=hS.ko hB5;have hpr:=UM hrep hkP (by omega:k<n+1);obtain⟨p,hpp⟩:=jz (pv (lF n Bm k).M k n k);have hps:=py (lF n Bm k).M k (n:=n) (r:=k) oO;rw[<-hpp]at hps;obtain⟨hkp,_,_,_⟩:=hps;have hfst:DI (λi=>decide ((f (k+i) k).mag≠0)) (n-k) 0=if p<n then((p-k:Nat):Int)else-1:=by
    have hpf:NO (lF n Bm k).M k (n-k) k=p:=hpp.symm;have hcong:∀d i,i+d=n-k->DI (λi=>decide ((f (k+i) k).mag≠0)) d i=if NO (lF n Bm k).M k d (k+i)<k+i+d then((NO (lF n Bm k).M k d (k+i)-k:Nat):Int)else-1:=by
     intro d;induction d with
     |zero=>
      intro i _;show(-1:Int)=if k+i<k+i+0 then _ else-1
      rw[ah oO]
     |succ d ih=>
      intro i hid;have hi:=hpr (k+i) oO;show(if decide ((f (k+i) k).mag≠0)=true then(i:Int)else DI _ d (i+1))=_;unfold NO;by_cases e:(lF n Bm k).M (k+i) k=0
      ·rw[ah (λq=>hi.1 (gl q) e),aj e,ih (i+1) oO];rw[show k+(i+1)=k+i+1 by omega,show k+i+1+d=k+i+(d+1) by omega]
      ·rw[aj (ak (hi.2 e)),ah e,aj oO,show k+i-k=i by omega]
    have:=hcong (n-k) 0 oO;rw[d9,hpf,show k+(n-k)=n by omega]at this;exact this
   rw[hfst];refine V3 ?_;by_cases hpn:¬p<n
   ·rw[ah hpn];refine k9 rfl (ak dD) ?_;refine ja ?_;have hnf:(lF n q n).P.length≠n:=λg=>MO hkn (by rw[<-hpp];exact hpn) ((hfi n).2 g);have e5:Lc A B=5:=by rw[e1,ah hnf]
    refine J2 ?_;refine jt ?_;refine rH rfl rfl rfl ?_;refine⟨⟨_,by rw[e5];rfl,?_⟩,hS.j5⟩;rw[hno (by rw[e5];decide)];exact Sl.nil _ _ _
   replace hpn:=fw.1 hpn;rw[aj hpn];refine V1 ?_;have hlp:p<RW.length:=by rw[hRW.len];exact hpn
   replace hS:St w _ ([(b12,3,[Value.int .i64 k]),(b11,223,mG last)]++mB mG 223 220 bw RW []):=hS;refine kz (λρ w'=>ρ 7=iB n/\ρ 8= .slice (some ⟨bw,0,none⟩) n n/\ρ 11=pB b11/\ρ 12=pB b12/\ρ 56=iB n/\ρ 57=iB k/\St w w' ([(b12,3,[Value.int .i64 k]),(b11,223,mG last)]++mB mG 223 220 bw (CW RW k p) [])) ?_ ?_
   ·refine ja ?_;refine Bk 20 [jo 0,ju 1,jo 2,jv 3,jo 4,jo 5,jo 6,ju 7,jo 8,jo 9,jo 10,ju 11,jo 12,ju 13,jo 14,ju 15,jo 16,jw 17,jo 18,jw 19] kR kR hS ?_;intro wz13 hS hBz13;refine kO (i:=0) (U':=[ju 1,jo 2,jv 3,jo 4,jo 5,jo 6,ju 7,jo 8,jo 9,jo 10,ju 11,jo 12,ju 13,jo 14,ju 15,jo 16,jw 17,jo 18,jw 19]) kR kR rfl rfl (ks h8 (pb (i:=1) (U':=[jo 2,jv 3,jo 4,jo 5,jo 6,ju 7,jo 8,jo 9,jo 10,ju 11,jo 12,ju 13,jo 14,ju 15,jo 16,jw 17,jo 18,jw 19]) kR kR rfl rfl (kX (k:=0) rfl ni hS rfl rfl rfl (.inr rfl) (kO (i:=2) (U':=[jv 3,jo 4,jo 5,jo 6,ju 7,jo 8,jo 9,jo 10,ju 11,jo 12,ju 13,jo 14,ju 15,jo 16,jw 17,jo 18,jw 19]) kR kR rfl rfl (ks h8 (kO (i:=4) (U':=[jv 3,jo 5,jo 6,ju 7,jo 8,jo 9,jo 10,ju 11,jo 12,ju 13,jo 14,ju 15,jo 16,jw 17,jo 18,jw 19]) kR kR rfl rfl (ks rfl (kO (i:=6) (U':=[jv 3,jo 5,ju 7,jo 8,jo 9,jo 10,ju 11,jo 12,ju 13,jo 14,ju 15,jo 16,jw 17,jo 18,jw 19]) kR kR rfl rfl (ks h8 (pb (i:=7) (U':=[jv 3,jo 5,jo 8,jo 9,jo 10,ju 11,jo 12,ju 13,jo 14,ju 15,jo 16,jw 17,jo 18,jw 19]) kR kR rfl rfl (kX (k:=0) rfl ni hS rfl rfl rfl (.inr rfl) (kO (i:=8) (U':=[jv 3,jo 5,jo 9,jo 10,ju 11,jo 12,ju 13,jo 14,ju 15,jo 16,jw 17,jo 18,jw 19]) kR kR rfl rfl (ks rfl (kO (i:=9) (U':=[jv 3,jo 5,jo 10,ju 11,jo 12,ju 13,jo 14,ju 15,jo 16,jw 17,jo 18,jw 19]) kR kR rfl rfl (pe rfl rfl (cx _ oO) (kO (i:=10) (U':=[jv 3,jo 5,ju 11,jo 12,ju 13,jo 14,ju 15,jo 16,jw 17,jo 18,jw 19]) kR kR rfl rfl (kF (i:=p) rfl rfl oO dO rB (pb (i:=11) (U':=[jv 3,jo 5,jo 12,ju 13,jo 14,ju 15,jo 16,jw 17,jo 18,jw 19]) kR kR rfl rfl (np [_,_] rfl rY hS oO hlp (kO (i:=12) (U':=[jv 3,jo 5,ju 13,jo 14,ju 15,jo 16,jw 17,jo 18,jw 19]) kR kR rfl rfl (ks h8 (pb (i:=13) (U':=[jv 3,jo 5,jo 14,ju 15,jo 16,jw 17,jo 18,jw 19]) kR kR rfl rfl (kX (k:=0) rfl ni hS rfl rfl rfl (.inr rfl) (kO (i:=14) (U':=[jv 3,jo 5,ju 15,jo 16,jw 17,jo 18,jw 19]) kR kR rfl rfl (kF (i:=k) rfl rfl oO dO rB (pb (i:=15) (U':=[jv 3,jo 5,jo 16,jw 17,jo 18,jw 19]) kR kR rfl rfl (np [_,_] rfl rY hS oO hlk ?_)))))))))))))))))))))))))));refine kO (i:=16) (U':=[jv 3,jo 5,jw 17,jo 18,jw 19]) kR kR rfl rfl (kF (i:=k) rfl rfl oO dO rB ?_);refine qt (x:=jv 3) (y:=jw 17) (U':=[jo 5,jw 17,jo 18,jw 19]) (U'':=[jv 3,jo 5,jo 18,jw 19]) kR kR kR ?_ ?_
    ·refine kI rfl rfl (qw (kX (k:=0) rfl ni hS rfl rfl rfl (.inr rfl) ?_));refine⟨Below.refl _ _,?_⟩;refine kO (i:=5) (U':=[jw 17,jo 18,jw 19]) kR kR rfl rfl (pe rfl rfl (cx _ oO) (kT (x:=jw 17) (U':=[jo 18,jw 19]) kR kR (kY rfl rfl (r8 [_,_] (i:=k) rfl rfl rY hS oO (by rw[aO];exact hlk) (AC _) ?_))));intro wz14 hS;refine kO (i:=18) (U':=[jw 19]) kR kR rfl rfl (kF (i:=p) rfl rfl oO dO rB (kT (x:=jw 19) (U':=[]) kR kR (kY rfl rfl (r8 [_,_] (i:=p) rfl rfl rY hS oO (by rw[cj,aO];exact hlp) (AC _) ?_))));intro wz15 hS;refine na ?_;refine ja ?_;exact⟨_,rfl,jY,jY,jY,rfl,jY,jY,FB [_,_] hlk hlp hS⟩
    ·refine kY rfl rfl (r8 [_,_] (i:=k) rfl rfl rY hS oO (by rw[aO];exact hlk) (AC _) ?_);intro wz16 hS;refine kT (x:=jv 3) (U':=[jo 5,jo 18,jw 19]) kR kR (kI rfl rfl (qw (kX (k:=0) rfl ni hS rfl rfl rfl (.inr rfl) ?_)));refine⟨Below.refl _ _,?_⟩;refine kO (i:=5) (U':=[jo 18,jw 19]) kR kR rfl rfl (pe rfl rfl (cx _ oO) (kO (i:=18) (U':=[jw 19]) kR kR rfl rfl (kF (i:=p) rfl rfl oO dO rB (kT (x:=jw 19) (U':=[]) kR kR (kY rfl rfl (r8 [_,_] (i:=p) rfl rfl rY hS oO (by rw[cj,aO];exact hlp) (AC _) ?_))))));intro wz17 hS;refine na ?_;refine ja ?_;exact⟨_,rfl,jY,jY,jY,rfl,jY,jY,FB [_,_] hlk hlp hS⟩
   clear hS;rintro ρ wsw ⟨h7,h8,h11,h12,h56,h57,hS⟩;refine ja ?_;have hR2:mx (CW RW k p) n (n+1) (Hr f k p):=hRW.GR hkn hpn;have hsz2:=Nj hkn hpn hsz;have hl0:last.mag≠0:=λg=>HG k hkP (by rw[<-hlv,Po.2 g];rfl);have hrs:=OX hWh hrep hkP oO (by rw[<-hpp];exact hpn) hlv;rw[<-hpp,<-TD]at hrs;have hnx:=(wJ hkP (by rw[<-hpp];exact hpn)).1;have hel:=λwx h=>DT (H:=[(b12,3,[Value.int .i64 k]),(b11,223,mG last)]++[]) (w0:=w) (bo:=bw) k last (SS S0 k) wx hR2 oO oO hkn oO hsz2 hlz hl0 oO h;refine J3 ?_;refine jh (j7 Tryz.call145 rfl (hel _ (hS.perm (BT _ _))) ?_);rintro u w6 ⟨rfl,R',hR',hS'⟩;clear hS;have hS:=hS'.perm (BT _ _).symm;clear hS';have hlk':k<R'.length:=by rw[hR'.len];exact hkn
   have hxk':=hR'.xV hkn;have hgk':(R'.getD k oK).X.getD k Ay=u5 (Hr f k p) k last k k:=hR'.get hkn oO _;have hsz3:=I6 hsz2 last hkn (by omega:k<n+1);refine ja ?_;refine kE [jo 0,ju 1,jo 2,ju 3,ju 4,jo 5,ju 6,jw 7] kR kR hS ?_;intro wz18 hS hBz18;refine J2 ?_;refine jl rfl (kF (i:=k) rfl rfl oO dO rB (jm rfl (np [_,_] rfl rY hS oO hlk' ?_)));refine J1 ?_;refine jl rfl (kF (i:=k) rfl rfl oO dO rK (jm rfl (rL [_,_] (i:=k) (j:=k) Ay mS rfl oX hS rfl hlk' oO oO (bI _ (bI _ hgk')) (.inl rfl) ?_)));refine J1 ?_;intro wz19 hS;refine ja ?_;replace hS:St w _ ([(b12,3,[Value.int .i64 k]),(b11,223,mG (u5 (Hr f k p) k last k k))]++mB mG 223 220 bw R' []):=hS;refine V2 ?_;refine⟨k+1,_,rfl,⟨hkn,hnx,jY,jY,jY,jY,vi rfl oO,R',_,_,hR',?_,hsz3,?_,hsz3 k hkn k oO,hS.drop (ab _ _)⟩,oO⟩
   ·intro i hi j hj;show((zv (u5 (Hr f k p) k last i j):Int):Rat)=_;rw[Ko];exact hrs.1 i hi j hj
   ·rw[Ko];exact hrs.2
  ·refine J1 ?_;refine jt ?_;obtain rfl:n=k:=oO;exact⟨_,rfl,hkP,h7,h8,RW,f,hRW,hrep,hsz,hS.drop (ab _ _)⟩
 clear hS hRW;rintro ρ w4 ⟨hfull,h7,h8,RW,f,hRW,hrep,hsz,hS⟩;have hqf:=(hfi n).1 hfull;have hIn:=rinv n Bm n;have hdn:=HG n hfull;have hSn:=hSS n (aB _);have e0:Lc A B=0:=by rw[e1,aj hqf]
 rw[hslL e0,e0];have hval:∀i,i<n->(f i i).mag≠0/\((zv (f i n):Int):Rat)/((zv (f i i):Int):Rat)=(lF n q n).M i n:=by
  intro i hi;have g1:((zv (f i i):Int):Rat)=dd n Bm n*(lF n Bm n).M i i:=hrep i hi i oO;have g2:((zv (f i n):Int):Rat)=dd n Bm n*(lF n Bm n).M i n:=hrep i hi n oO;rw[Ai hIn hfull hi hi,wY,fp]at g1;rw[hfs hqf i hi n]at g2;refine⟨λg=>hdn (by rw[<-g1,Po.2 g];rfl),?_⟩;rw[g1,g2,bR];have:=bX _ hdn;grind
 obtain⟨gM,hgM⟩:∃gM:Nat->Rat,gM=λi=>(lF n q n).M i n:=⟨_,rfl⟩;rw[show(ku n λi=>j9 ((lF n q n).M i n))=ku n λi=>j9 (gM i) by rw[hgM]];replace hval:∀i,i<n->(f i i).mag≠0/\((zv (f i n):Int):Rat)/((zv (f i i):Int):Rat)=gM i:=by rw[hgM];exact hval
 refine J1 ?_;refine jh (lU (enc:=j6) (n:=n) kP rfl rfl kM rfl oO oO oO oO hS ?_);intro b98 wz20 hS hBz20;refine V1 ?_;replace hS:St w _ ([(b98,32,(List.replicate n kP).flatMap j6)]++mB mG 223 220 bw RW []):=hS;rw[Sz gM]at hS;refine J3 ?_;refine jb ?_;refine kz (λρ w'=>ρ 14= .slice (some ⟨b98,0,none⟩) n n/\St w w' ([(b98,32,(ku n λa=>j9 (oF gM n a)).flatMap j6)]++mB mG 223 220 bw RW [])) ?_ ?_
 ·refine ja ?_;refine kx (σ:=Nat) (λi ρ w'=>i<=n/\ρ 7=iB n/\ρ 14= .slice (some ⟨b98,0,none⟩) n n/\ρ 99= .slice (some ⟨bw,0,none⟩) n n/\ρ 100=iB n/\ρ 101=iB i/\St w w' ([(b98,32,(ku n λa=>j9 (oF gM i a)).flatMap j6)]++mB mG 223 220 bw RW [])) (λi=>n-i) 0
   ⟨ax _,jY,rfl,rfl,rfl,rfl,hS⟩ ?_
  clear hS;rintro i ρ w5 ⟨hi,h7,h14,h99,h100,h101,hS⟩;have hto:=ka n λa=>j9 (oF gM i a);refine V1 ?_;by_cases hlt:i<n
  ·refine V1 ?_;have hli:i<RW.length:=by rw[hRW.len];exact hlt
   have htr:=ka (n+1) (f i);have hgn:(ku (n+1) (f i)).getD n Ay=f i n:=kw _ _ oO;have hgi:(ku (n+1) (f i)).getD i Ay=f i i:=kw _ _ oO;have q1:=hsz i hlt n oO;have q2:=hsz i hlt i oO;unfold ye at q1 q2;obtain⟨hm0,hqv⟩:=hval i hlt;have hmk:=λw=>Hx ((f i n).neg !=(f i i).neg) (kG (f i n).mag) (kG (f i i).mag) w oO oO (by rw[li];exact hm0);rw[li,li,Sf hm0]at hmk;have hmk2:((sg (f i n).neg (f i n).mag:Int):Rat)/((sg (f i i).neg (f i i).mag:Int):Rat)=gM i:=hqv;rw[hmk2]at hmk;refine J1 ?_;refine jp (kF (i:=i) h99 h101 oO dO rB (jq (np [_] rfl rY hS oO hli ?_)));refine V2 ?_;have hrow:=hRW.sl (hS.drop (ab _ _)) mS hlt;refine ja ?_;refine kE [jo 0,jo 1,jo 2,jo 3,jo 4,jo 5,ju 6,jo 7,jo 8,jo 9,jo 10,ju 11,jo 12,jo 13,jo 14,jo 15,jo 16,ju 17,jo 18,jo 19,jo 20,jo 21,ju 22,jv 23,jo 24,jo 25,jo 26,jo 27,jw 28] kR kR hS ?_;intro wz21 hS hBz21;refine J4 ?_;refine jl rfl (kp (i:=n) rfl rfl (hRW.sl (hS.drop (ab _ _)) mS hlt) oO dO rK ?_);refine jl rfl (oG rfl (nc (hRW.sl (hS.drop (ab _ _)) mS hlt) (λ_=>rfl) dD dO) y7 ?_);refine jm rfl (oE (i:=n) (off:=0) Ay rfl qn (hRW.sl (hS.drop (ab _ _)) mS hlt) (λ_=>rfl) dD dO rfl rfl (.inr rfl) ?_);refine J2 ?_;refine jl rfl (kp (i:=i) rfl rfl (hRW.sl (hS.drop (ab _ _)) mS hlt) oO dO rK ?_);refine jl rfl (oG rfl (nc (hRW.sl (hS.drop (ab _ _)) mS hlt) (λ_=>rfl) dD dO) y7 ?_);refine jm rfl (oE (i:=i) (off:=0) Ay rfl qn (hRW.sl (hS.drop (ab _ _)) mS hlt) (λ_=>rfl) dD dO rfl rfl (.inr rfl) ?_);refine jl rfl (Co rfl rfl Tryz.underlying4 ?_);refine J2 ?_;refine jl rfl (kp (i:=n) rfl rfl (hRW.sl (hS.drop (ab _ _)) mS hlt) oO dO rK ?_);refine jl rfl (oG rfl (nc (hRW.sl (hS.drop (ab _ _)) mS hlt) (λ_=>rfl) dD dO) wS ?_);refine jm rfl (oE (i:=n) (off:=1) Ay rfl t9 (hRW.sl (hS.drop (ab _ _)) mS hlt) (λ_=>rfl) dD dO rfl rfl (.inr rfl) ?_);refine J2 ?_;refine jl rfl (kp (i:=i) rfl rfl (hRW.sl (hS.drop (ab _ _)) mS hlt) oO dO rK ?_);refine jl rfl (oG rfl (nc (hRW.sl (hS.drop (ab _ _)) mS hlt) (λ_=>rfl) dD dO) wS ?_);refine jm rfl (oE (i:=i) (off:=1) Ay rfl t9 (hRW.sl (hS.drop (ab _ _)) mS hlt) (λ_=>rfl) dD dO rfl rfl (.inr rfl) ?_);rw[hgn,hgi];refine jn rfl (j7 Tryz.call146 rfl (hmk _) ?_);rintro _ wc22 ⟨rfl,hBc22⟩;replace hS:=hS.ko hBc22;refine⟨hBc22,?_⟩;refine J3 ?_;refine jl rfl (kF (i:=i) rfl rfl oO dO kM ?_);refine jx rfl (zy (k:=0) (i:=i) (enc:=j6) (j9 (gM i)) (λ_=>rfl) rfl rfl ki hS rfl (by first|omega|simp) dO rfl rfl ?_);intro wz23 hS;refine ja ?_;replace hS:St w _ ([(b98,32,((ku n λa=>j9 (oF gM i a)).set i (j9 (gM i))).flatMap j6)]++mB mG 223 220 bw RW []):=hS;rw[Tw]at hS;refine V2 ?_;exact⟨i+1,_,rfl,⟨hlt,jY,jY,jY,jY,vi rfl oO,hS⟩,oO⟩
  ·refine J1 ?_;refine jt ?_;obtain rfl:n=i:=oO;exact⟨_,rfl,h14,hS⟩
 clear hS;rintro ρ w5 ⟨h14,hS⟩;have e3:(ku n λa=>j9 (oF gM n a))=ku n λi=>j9 (gM i):=kB λa ha=>by unfold oF;rw[aj ha]
 rw[e3]at hS;refine V3 ?_;have hTT:=hS.sle (k:=0) (n:=n) (cap:=n) rfl kt (by rw[ka];omega) oO oO;rw[aU (by rw[ka];omega)]at hTT;refine jt ?_;refine rH rfl rfl rfl ?_;exact⟨⟨_,rfl,hTT⟩,hS.j5⟩
structure Pa where
 c:Int
 q:Rat
structure Tr where
 ps:List Pa
 sm:Rat
def TX:Pa:=⟨0,0⟩
def r6:Tr:=⟨[],0⟩
def pq (p:Pa):List Value:= .int .i64 p.c::j6 (j9 p.q)
def nh (p:Tr×Value):List Value:=p.2::j6 (j9 p.1.sm)
theorem Eh:∀p,(pq p).length=4:=λ_=>rfl
theorem sf:∀p,(nh p).length=4:=λ_=>rfl
theorem NH (xs:List Pa):∀u∈xs.flatMap pq,u.oneCell'=true:=by
 intro u hu;obtain⟨x,_,hx⟩:=du.1 hu;simp only[pq,j6,bC,ct,fo]at hx;rcases hx with rfl|rfl|rfl|rfl<;>rfl
def Tn (p:Pa):Value:= .agg #[.int .i64 p.c,.bool (j9 p.q).neg,.string (j9 p.q).num,.string (j9 p.q).den]
def zj (t:Tr) (v:Value):Value:= .agg #[v,.bool (j9 t.sm).neg,.string (j9 t.sm).num,.string (j9 t.sm).den]
structure IQ (w:World) (v:Value) (T:List Tr) (vs:List Value):Prop where
 len:vs.length=T.length
 sl:Sl nh 4 w v (T.zip vs)
 ps:∀i,i<T.length->Sl pq 4 w (vs.getD i undef) (T.getD i r6).ps
section
variable {w w' : World} {v : Value} {T : List Tr} {vs : List Value}
theorem IQ.j5 (h:IQ w v T vs) (hb:Below w.heap.size w w'):IQ w' v T vs:=⟨h.len,h.sl.j5 hb,λi hi=>(h.ps i hi).j5 hb⟩
theorem IQ.P5 (h:IQ w v T vs):(T.zip vs).length=T.length:=by rw[j4,h.len,Nat.min_self]
theorem IQ.OU (h:IQ w v T vs) {i:Nat} (hi:i<T.length):(T.zip vs).getD i (r6,undef)=(T.getD i r6,vs.getD i undef):=by
 have h1:i<vs.length:=by rw[h.len];exact hi
 rw[nz _ _ (by rw[h.P5];exact hi),List.getElem_zip,nz T r6 hi,nz vs undef h1]
end
def sK (T:List Tr) (k:Nat):Rat:=kg (λj=>(T.getD j r6).sm) k
def md:List Tr->Rat->Nat
 | [],_=>0
 |t::T,m=>if m<t.sm then 0 else md T (m-t.sm)+1
theorem tG:∀(T:List Tr) (m:Rat),md T m<=T.length
 | [],_=>aB _
 |t::T,m=>by
  unfold md;split
  ·exact ax _
  ·have:=tG T (m-t.sm);rw[ba];omega
theorem tI (t:Tr) (T:List Tr):∀k,sK (t::T) (k+1)=t.sm+sK T k
 |0=>by show(0:Rat)+t.sm=t.sm+0;grind
 |k+1=>by
  show sK (t::T) (k+1)+_=t.sm+(sK T k+_);rw[tI t T k,Rat.add_assoc];rfl
theorem FX:∀ {T:List Tr} {m:Rat} {k:Nat},k<=T.length->(∀j,j<k->¬m-sK T j<(T.getD j r6).sm)->(k<T.length->m-sK T k<(T.getD k r6).sm)->md T m=k
 | [],_,k,hk,_,_=>by
  obtain rfl:k=0:=Nat.le_zero.1 hk;rfl
 |t::T,m,0,_,_,h2=>by
  have:=h2 (iN _);have e:m-sK (t::T) 0=m:=by show m-0=m;grind
  rw[e]at this;exact aj this
 |t::T,m,k+1,hk,h1,h2=>by
  have e:m-sK (t::T) 0=m:=by show m-0=m;grind
  have h0:¬m<t.sm:=by
   have h0:=h1 0 (iN _);rw[e]at h0;exact h0
  have e2:∀j,m-sK (t::T) (j+1)=(m-t.sm)-sK T j:=λj=>by rw[tI];grind
  have ih:=FX (T:=T) (m:=m-t.sm) (k:=k) (by rw[ba]at hk;omega) (λj hj=>by have:=h1 (j+1) oO;rw[e2]at this;exact this) (λhk'=>by have:=h2 (by rw[ba];omega);rw[e2]at this;exact this);unfold md;rw[ah h0,ih]
def rz (T:List Tr) (m:Rat):Rat:=m-sK T (md T m)
def xX (T:List Tr):Nat:=(T.map λt=>L t.sm+1).sum
theorem zO (t:Tr) (T:List Tr):xX (t::T)=L t.sm+1+xX T:=by unfold xX;rw[df,iC]
theorem Qs:∀(T:List Tr) (k:Nat),k<=T.length->L (sK T k)<=xX T+1
 |_,0,_=>by show L 0<=_;rw[n8];omega
 | [],k+1,h=>absurd h (Nat.not_succ_le_zero _)
 |t::T,k+1,h=>by
  have ih:=Qs T k (by rw[ba]at h;omega);have:=Bc t.sm (sK T k);rw[tI,zO];omega
theorem zf:∀(T:List Tr) {k:Nat},k<T.length->L (T.getD k r6).sm+1<=xX T
 | [],_,h=>absurd h (aS _)
 |t::T,0,_=>by rw[zO];exact jS _ _
 |t::T,k+1,h=>by
  have:=zf T (k:=k) (by rw[ba]at h;omega);rw[zO];show L (T.getD k r6).sm+1<=_;omega
theorem GF (T:List Tr) (m:Rat) {k:Nat} (hk:k<=T.length):L (m-sK T k)<=L m+xX T+2:=by
 have:=tV m (sK T k);have:=Qs T k hk;omega
theorem AH (v:Value) (T:List Tr) (vs:List Value) (m:Rat) (w:World) (hT:IQ w v T vs) (hK:2*(L m+xX T+2)<=MX):
  lW Tryz.prog 130 #[v,lu (j9 m)] w λr w'=>r= .tuple #[.int .i64 (md T m),lu (j9 (rz T m))]/\Below w.heap.size w w':=by
 have hzl:=hT.P5;have hmx:=hT.sl.maxLen;rw[hzl]at hmx;have hS:=St.init w;have e0:j9 m=j9 (m-sK T 0):=by congr 1;show m=m-0;grind
 refine enter Tryz.func130 rfl Tryz.ntmps130 rfl ?_;refine jr ?_;refine jh (lj (new:=j6 (j9 m)) rfl rfl hS ?_);intro b3 wz1 hS hBz1;refine J2 ?_;intro b5 wz2 hS hBz2;refine J1 ?_;refine jp (kj rfl (hT.sl.j5 hS.j5) ⟨_,Tryz.underlying109⟩ ?_);refine V1 ?_;rw[hzl];rw[e0]at hS;refine kx (σ:=Nat) (λk ρ w'=>k<=T.length/\(∀j,j<k->¬m-sK T j<(T.getD j r6).sm)/\ρ 0=v/\ρ 3=pB b3/\ρ 5=pB b5/\ρ 8=v/\ρ 9=iB T.length/\ρ 10=iB k/\
   St w w' [(b5,32,j6 kP),(b3,32,j6 (j9 (m-sK T k)))]) (λk=>T.length-k) 0
  ⟨ax _,λj hj=>absurd hj (aS _),rfl,rfl,rfl,rfl,rfl,rfl,hS⟩ ?_
 clear hS e0;rintro k ρ w2 ⟨hk,hall,h0,h3,h5,h8,h9,h10,hS⟩;have hLm:=GF T m hk;refine V1 ?_;by_cases hlt:k<T.length
 ·refine V1 ?_;have hzg:=hT.OU hlt;have hLk:=zf T hlt;obtain⟨pa,pc,hpe,_⟩:=(hT.ps k hlt).form;rw[hpe]at hzg;obtain⟨pn,hpn⟩:=jz ((T.getD k r6).ps.length);rw[<-hpn]at hzg;refine J1 ?_;refine jp (kp (i:=k) h8 h10 (hT.sl.j5 hS.j5) oO dO se (jq (ky (v:=zj (T.getD k r6) (.slice pa pn pc)) (i:=k) (r6,undef) rfl tj (hT.sl.j5 hS.j5) oO rfl (by rw[hzg];rfl) (.inl rfl) ?_)));refine J1 ?_;intro b7 wz3 hS hBz3;refine J2 ?_;intro wz4 hS;refine ja ?_;replace hS:St w _ [(b7,157,nh (T.getD k r6,.slice pa pn pc)),(b5,32,j6 kP),(b3,32,j6 (j9 (m-sK T k)))]:=hS;refine J3 ?_;refine jh (j7 Tryz.call50 rfl (pm (j9 (m-sK T k)) (j9 (T.getD k r6).sm) _ (by rw[Lr_ofQ,Lr_ofQ];omega)) ?_);rintro _ wc5 ⟨rfl,hBc5⟩;replace hS:=hS.ko hBc5;refine V1 ?_;rw[toQ_ofQ,toQ_ofQ];by_cases hc:m-sK T k<(T.getD k r6).sm
  ·have hf:md T m=k:=FX hk hall λ_=>hc;refine k9 rfl (ak (Dr.2 hc)) ?_;refine ja ?_;refine kE [jo 0,ju 1,jo 2,jw 3] kR kR hS ?_;intro wz6 hS hBz6;refine J4 ?_;intro wz7 hS;refine jt ?_;refine tY (k:=1) rfl h5 rfl ki hS rfl rfl ?_;exact⟨by unfold rz;rw[hf];rfl,hS.j5⟩
  ·refine lx rfl (ae (λg=>hc (Dr.1 g))) ?_;refine J3 ?_;refine jh (j7 Tryz.call16 rfl (mD (j9 (m-sK T k)) (j9 (T.getD k r6).sm) _ (by rw[Lr_ofQ,Lr_ofQ];omega)) ?_);rintro r w3 ⟨rfl,hB3⟩;have e1:m-sK T k-(T.getD k r6).sm=m-sK T (k+1):=by show _=m-(sK T k+(T.getD k r6).sm);grind
   rw[toQ_ofQ,toQ_ofQ,e1];replace hS:=hS.ko hB3;refine J1 ?_;intro wz8 hS;refine ja ?_;replace hS:St w _ [(b7,157,nh (T.getD k r6,.slice pa pn pc)),(b5,32,j6 kP),(b3,32,j6 (j9 (m-sK T (k+1))))]:=hS;refine V2 ?_;refine⟨k+1,_,rfl,⟨hlt,λj hj=> ?_,h0,h3,h5,h8,h9,vi rfl oO,hS.drop (ab _ _)⟩,oO⟩;by_cases e:j=k
   ·rw[e];exact hc
   ·exact hall j oO
 ·refine J1 ?_;refine jt ?_;have hf:md T m=k:=FX hk hall λh=>absurd h hlt;obtain rfl:k=T.length:=oO;refine ja ?_;refine kE [jo 0,jo 1,ju 2,jo 3,jw 4] kR kR hS ?_;intro wz9 hS hBz9;refine J1 ?_;refine jl rfl (kj rfl (hT.sl.j5 hS.j5) ⟨_,Tryz.underlying109⟩ ?_);refine J3 ?_;intro wz10 hS;refine ja ?_;rw[hzl];refine jt ?_;refine tY (k:=0) rfl h5 rfl ki hS rfl rfl ?_;exact⟨by unfold rz;rw[hf];rfl,hS.j5⟩
end Go.Proofs.YtoeiejliehgopaaGreatDoor
