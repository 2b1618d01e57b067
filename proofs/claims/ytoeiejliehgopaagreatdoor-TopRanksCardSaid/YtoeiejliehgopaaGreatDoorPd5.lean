import Derived.Test.YtoeiejliehgopaaGreatDoorPd4
set_option maxRecDepth 20000
set_option maxHeartbeats 8000000
namespace Go.Proofs.YtoeiejliehgopaaGreatDoor
open Go Go.RowKit Go.Sx
def nI (L:List Nat):List Int:=L.map λi:Nat=>(i:Int)
theorem kJ (L:List Nat):(nI L).length=L.length:=List.length_map _
theorem ED (L:List Nat) (c:Nat):nI (L++[c])=nI L++[(c:Int)]:=by unfold nI;rw[List.map_append];rfl
def BB (K r:Nat):Nat:=4^r*(K+1)
theorem Fe (K r:Nat):BB K (r+1)=4*BB K r:=by unfold BB;rw[Nat.pow_succ];rw[Nat.mul_comm (4^r) 4,Nat.mul_assoc]
theorem u3 (K:Nat) {r s:Nat} (h:r<=s):BB K r<=BB K s:=Nat.mul_le_mul_right _ (Nat.pow_le_pow_right dD h)
theorem Np {M:Mx} {n m r p b:Nat} (hp:p<n) (hr:r<n) (h:∀i,i<n->∀j,j<m->L (M i j)<=b):∀i,i<n->∀j,j<m->L (gi M r p i j)<=b:=by
 intro i hi j hj;unfold gi;split
 ·exact h _ hp j hj
 ·split
  ·exact h _ hr j hj
  ·exact h _ hi j hj
theorem Bs {n m:Nat} {M:Mx} {K:Nat} (h:∀i,i<n->∀j,j<m->L (M i j)<=K):∀c,c<=m->(∀i,i<n->∀j,j<m->L ((cI n M c).M i j)+1<=BB K (cI n M c).P.length)/\L (cI n M c).d<=BB K (cI n M c).P.length
 |0,_=>by
  refine⟨λi hi j hj=> ?_,?_⟩
  ·have:=h i hi j hj;show L (M i j)+1<=BB K 0;unfold BB;omega
  ·show L 1<=BB K 0;have:L (((1:Int):Rat))<=1:=PW 1 dD dD;unfold BB;have e:((1:Int):Rat)=1:=rfl;rw[e]at this;omega
 |c+1,hc=>by
  obtain⟨h1,h2⟩:=Bs h c oO;show(∀i,i<n->∀j,j<m->L ((kT n c (cI n M c)).M i j)+1<=BB K (kT n c (cI n M c)).P.length)/\L (kT n c (cI n M c)).d<=BB K (kT n c (cI n M c)).P.length;have hlen:=(rinv n M c).len;generalize cI n M c=s at*;obtain⟨q1,_,_,_⟩:=ig s.M c hlen;unfold kT;by_cases g:pv s.M c n s.P.length<n
  ·rw[if_pos g];generalize pv s.M c n s.P.length=p at*;dsimp only;rw[List.length_append,List.length_singleton,Fe];have hs:=Np (M:=s.M) (m:=m) (r:=s.P.length) (b:=BB K s.P.length-1) g oO (λi hi j hj=>by have:=h1 i hi j hj;omega);have hap:=h1 p g c oO;refine⟨λi hi j hj=> ?_,?_⟩
   ·have hr:=hs s.P.length oO j hj;have hd:=ri (gi s.M s.P.length p s.P.length j) (s.M p c);by_cases e:i=s.P.length
    ·rw[e,l9];omega
    ·rw[kb _ e];have hi':=hs i hi j hj;have hc':=hs i hi c oO;have hm:=su (gi s.M s.P.length p i c) (gi s.M s.P.length p s.P.length j/s.M p c);have hsb:=mw (gi s.M s.P.length p i j) (gi s.M s.P.length p i c*(gi s.M s.P.length p s.P.length j/s.M p c));omega
   ·split
    ·have:=su s.d (s.M p c);omega
    ·have:=su (-s.d) (s.M p c);have:=vK s.d;omega
  ·rw[if_neg g];exact⟨h1,h2⟩
def xm (X:Mx) (r:Nat) (a:Rat) (k:Nat):Mx:=λi j=>if i=r/\j<k then X r j/a else X i j
def s8 (X:Mx) (r c:Nat) (a:Rat) (k:Nat):Mx:=λi j=>if i=r then X r j/a else if i<k then X i j-X i c*(X r j/a)else X i j
theorem IA (X:Mx) (r c:Nat) (a:Rat) {n i:Nat} (hi:i<n) (j:Nat):s8 X r c a n i j=elim X r a (λi=>X i c) i j:=by
 unfold s8;by_cases e:i=r
 ·rw[if_pos e,e,l9]
 ·rw[if_neg e,if_pos hi,kb _ e]
theorem KV (M:Mx) (r p a b:Nat):(if a=p then M r b else if a=r then M p b else M a b)=gi M r p a b:=by
 by_cases h2:a=p
 ·rw[if_pos h2,h2,kW]
 ·rw[if_neg h2];by_cases h1:a=r
  ·rw[if_pos h1,h1,iK]
  ·rw[if_neg h1,nh M h1 h2]
theorem u6 {α:Type} {enc:α->List Value} {tR tS:TypeId} {bo:Nat} {R:List (Rw α)} (pre H:List bQ):(pre++mB enc tR tS bo R H).Perm (mB enc tR tS bo R (pre++H)):=by
 unfold mB;refine List.perm_middle.trans (List.Perm.cons _ ?_);rw[<-List.append_assoc,<-List.append_assoc];exact List.Perm.append_right _ List.perm_append_comm
theorem FY {n c:Nat} {M:Mx} (h:¬pv (cI n M c).M c n (cI n M c).P.length<n):cI n M (c+1)=cI n M c:=by
 show kT n c (cI n M c)=_;unfold kT;rw[if_neg h]
theorem Cy {n c:Nat} {M:Mx} (h:pv (cI n M c).M c n (cI n M c).P.length<n):cI n M (c+1)=⟨elim (gi (cI n M c).M (cI n M c).P.length (pv (cI n M c).M c n (cI n M c).P.length)) (cI n M c).P.length ((cI n M c).M (pv (cI n M c).M c n (cI n M c).P.length) c) λi=>gi (cI n M c).M (cI n M c).P.length (pv (cI n M c).M c n (cI n M c).P.length) i c,(cI n M c).P++[c],
  (if pv (cI n M c).M c n (cI n M c).P.length=(cI n M c).P.length then(cI n M c).d else-(cI n M c).d)*(cI n M c).M (pv (cI n M c).M c n (cI n M c).P.length) c⟩:=by
 show kT n c (cI n M c)=_;unfold kT;rw[if_pos h]
theorem Ef {R0:List (Rw RR)} {n m:Nat} {M:Mx} {w0:World} {bo:Nat} {H:List bQ} (cols K:Nat) (w:World) (hR0:dA R0 n m (qM M)) (hn:n<=1000) (hm:m<=1000) (hcm:cols<=m) (hL:∀i,i<n->∀j,j<m->L (M i j)<=K) (hK:8*BB K n<=MX) (hS:St w0 w (mB ae 32 34 bo R0 H)):
  dj Tryz.prog 171 #[.slice (some ⟨bo,0,none⟩) n n,.int .i64 cols] w λv w'=>∃vp LP R',v= .tuple #[vp,cw (aj (cI n M cols).d)]/\Gl lD 3 1 vp (nI (cI n M cols).P) LP/\dA R' n m (qM (cI n M cols).M)/\St w0 w' (mB ae 32 34 bo R' (H++LP)):=by
 have hM:MX=1099511627776:=rfl;refine enter Tryz.func171 rfl Tryz.ntmps171 rfl ?_;refine J2 ?_;intro b5 wz1 hS hBz1;refine Y1 ?_;refine jh (ah Tryz.call33 rfl (dN 1 _ dD dD) ?_);rintro _ wc2 ⟨rfl,hBc2⟩;replace hS:=hS.aG hBc2;refine J1 ?_;intro b7 wz3 hS hBz3;refine J1 ?_;intro wz4 hS;refine J1 ?_;refine jb ?_;rw[<-List.append_nil H]at hS;refine aW (λρ w'=>ρ 5=pB b5/\ρ 7=pB b7/\∃vp LP R,ρ 6=vp/\Gl lD 3 1 vp (nI (cI n M cols).P) LP/\dA R n m (qM (cI n M cols).M)/\St w0 w' ([(b7,32,ae (aj (cI n M cols).d)),(b5,32,ae bM)]++mB ae 32 34 bo R (H++LP))) ?_ ?_
 ·refine ja ?_;refine aQ (σ:=Nat) (λc ρ w'=>c<=cols/\ρ 0= .slice (some ⟨bo,0,none⟩) n n/\ρ 1=iB cols/\ρ 5=pB b5/\ρ 7=pB b7/\ρ 8=iB c/\
    ∃vp LP R,ρ 6=vp/\Gl lD 3 1 vp (nI (cI n M c).P) LP/\dA R n m (qM (cI n M c).M)/\St w0 w' ([(b7,32,ae (aj (cI n M c).d)),(b5,32,ae bM)]++mB ae 32 34 bo R (H++LP))) (λc=>cols-c) 0
   ⟨Nat.zero_le _,rfl,rfl,rfl,rfl,rfl,_,[],R0,rfl,Gl.nil _ _ _,hR0,hS⟩ ?_
  clear hS;rintro c ρ w2 ⟨hc,h0,h1,h5,h7,h8,vp,LP,R,h6,hG,hR,hS⟩;have hlen:=(rinv n M c).len;obtain⟨hB1,hB2⟩:=Bs hL c oO;obtain⟨av,cv,hvp⟩:=hG.len;rw[kJ]at hvp;obtain⟨r,hr⟩:=jz ((cI n M c).P.length);rw[<-hr]at hlen hB1 hB2 hvp;subst hvp;refine ja ?_;by_cases hcl:c<cols
  ·by_cases hrn:r<n
   ·refine J4 ?_;refine ax (ai 18 kR rfl dT) (aI h6 (ax (ai 18 kR rfl dT) (gV rfl ⟨_,Tryz.underlying46⟩ (ax (ai 18 kR rfl dT) (aI h0 (ax (ai 18 kR rfl dT) (gV rfl ⟨_,Tryz.underlying35⟩ (ax (ai 18 kR rfl dT) (oE rfl rfl (jp (aZ (vb rfl dT) rfl ?_)))))))))));refine V1 ?_;have hmts:=hR.FV (hS.drop (List.sublist_append_right _ _)) aK (cap:=n) (Nat.le_refl _) oO;refine J6 ?_;refine jh (ah Tryz.call196 rfl (G1 _ _ n m (cI n M c).M r c _ hmts oO oO) ?_);rintro _ wc5 ⟨rfl,hBc5⟩;replace hS:=hS.aG hBc5;refine V3 ?_;obtain⟨p,hp⟩:=jz (pv (cI n M c).M c n r);have hpI:Pv (cI n M c).M c n r=if p<n then(p:Int)else-1:=by rw[hp];rfl
    by_cases hpn:p<n
    ·rw[if_pos hpn]at hpI;refine ct rfl (decide_eq_false (by rw[hpI];omega)) ?_;refine ja ?_;have hp3:=ig (cI n M c).M c (n:=n) (r:=r) oO;rw[<-hp]at hp3;obtain⟨hrp,_,_,ha⟩:=hp3;replace ha:=ha hpn;have hyes:=Cy (n:=n) (c:=c) (M:=M) (by rw[<-hr,<-hp];exact hpn);rw[<-hr,<-hp]at hyes;obtain⟨s,hs⟩:=jz (cI n M c);rw[<-hs]at hyes hB1 hB2 hR hS hG ha hr;obtain⟨a,ha'⟩:∃a,a=s.M p c:=⟨_,rfl⟩;obtain⟨X,hX⟩:=jz (gi s.M r p);obtain⟨d1,hd1⟩:∃d1:Rat,d1=if p=r then s.d else-s.d:=⟨_,rfl⟩
     rw[<-ha',<-hX,<-hd1]at hyes;rw[<-ha']at ha;have hbm:=u3 K (r:=r+1) (s:=n) hrn;rw[Fe]at hbm;obtain⟨b,hb⟩:=jz (BB K r);rw[<-hb]at hB1 hB2 hbm;have hLs:∀i,i<n->∀j,j<m->L (s.M i j)<=b-1:=λi hi j hj=>by have:=hB1 i hi j hj;omega
     have hLX:∀i,i<n->∀j,j<m->L (X i j)<=b-1:=by rw[hX];exact Np hpn hrn hLs
     have hLa:L a<=b-1:=by rw[ha'];exact hLs p hpn c oO
     have hb1:1<=b:=by have:=hB1 p hpn c oO;omega
     have hLd:L d1<=b:=by
      rw[hd1];split
      ·exact hB2
      ·rw[vK];exact hB2
     have hXa:X r c=a:=by rw[hX,ha',iK]
     rw[hpI];refine V3 ?_;refine aW (λρ w'=>ρ 0= .slice (some ⟨bo,0,none⟩) n n/\ρ 1=iB cols/\ρ 5=pB b5/\ρ 6= .slice av r cv/\ρ 7=pB b7/\ρ 8=iB c/\ρ 9=iB r/\
      ∃R,dA R n m (qM X)/\St w0 w' ([(b7,32,ae (aj d1)),(b5,32,ae bM)]++mB ae 32 34 bo R (H++LP))) ?_ ?_
     ·have hlr:r<R.length:=by rw[hR.len];exact hrn
      have hlp:p<R.length:=by rw[hR.len];exact hpn
      by_cases hpr:p=r
      ·have eX:X=s.M:=by rw[hX,hpr,yM]
       have ed:d1=s.d:=by rw[hd1,if_pos hpr]
       refine V1 ?_;rw[eX,ed];exact⟨_,rfl,jY,jY,jY,jY,jY,jY,rfl,R,hR,hS⟩
      ·have ed:d1= -s.d:=by rw[hd1,if_neg hpr]
       have hR2:=(hR.A8 hrn hpn).congr (g:=qM X) λi _ j _=>by
        rw[hX];show(if i=p then aj (s.M r j)else if i=r then aj (s.M p j)else aj (s.M i j))=aj (gi s.M r p i j);rw[<-KV];split
        ·rfl
        ·split<;>rfl
       have hneg:=λw=>qH (aj s.d) w (by rw[Lr_ofQ];omega);rw[toQ_ofQ]at hneg;refine V1 ?_;refine bk [jo 0,jo 1,jo 2,jo 3,jo 4,jo 5,jo 6,ju 7,jo 8,jo 9,jo 10,ju 11,jo 12,jw 13,jo 14,jw 15] kR kR hS ?_;intro wz6 hS hBz6;refine J6 ?_;refine jl rfl (bn (i:=r) rfl rfl oO dO cZ (jm rfl (eJ [_,_] rfl dh hS oO hlr ?_)));refine J2 ?_;refine jl rfl (bn (i:=p) rfl rfl oO dO cZ (jm rfl (eJ [_,_] rfl dh hS oO hlp (jl rfl (bn (i:=p) rfl rfl oO dO cZ (jx rfl (kF [_,_] (i:=p) rfl rfl dh hS oO (by rw[List.length_map];exact hlp) (tr _) ?_)))))));intro wz7 hS;refine jl rfl (bn (i:=r) rfl rfl oO dO cZ (jx rfl (kF [_,_] (i:=r) rfl rfl dh hS oO (by rw[List.length_set,List.length_map];exact hlr) (tr _) ?_)));intro wz8 hS;refine ja ?_;rw[List.set_comm _ _ hpr]at hS;have hS2:=AG [_,_] hlr hlp hS;clear hS;rename _=>hS
       refine J1 ?_;refine jh (ah Tryz.call105 rfl (hneg _) ?_);rintro _ wc9 ⟨rfl,hBc9⟩;replace hS:=hS.aG hBc9;refine J1 ?_;intro wz10 hS;refine ja ?_;rw[ed];exact⟨_,rfl,jY,jY,jY,jY,jY,jY,rfl,_,hR2,hS⟩
     clear hS hR;rintro ρ w3 ⟨h0,h1,h5,h6,h7,h8,h9,R,hR,hS⟩;have hlr:r<R.length:=by rw[hR.len];exact hrn
     have hxr:=hR.ql hrn;have hgr:(R.getD r gn).X.getD c bM=aj a:=by rw[hR.get hrn oO];show aj (X r c)=_;rw[hXa]
     refine J2 ?_;refine jp (bn (i:=r) rfl rfl oO dO cZ (jq (eJ [_,_] rfl dh hS oO hlr ?_)));refine J1 ?_;refine jp (bn (i:=c) rfl rfl oO dO bJ (jq (ke [_,_] (i:=r) (j:=c) bM aK rfl aB hS rfl hlr oO oO rfl (.inl rfl) ?_)));refine J1 ?_;intro b11 wz11 hS hBz11;refine J1 ?_;intro wz12 hS;refine ja ?_;rw[hgr]at hS;have hmul:=λw=>ka (aj d1) (aj a) w (by rw[Lr_ofQ,Lr_ofQ];omega);rw[toQ_ofQ,toQ_ofQ]at hmul;refine J2 ?_;refine jh (ah Tryz.call11 rfl (hmul _) ?_);rintro _ wc13 ⟨rfl,hBc13⟩;replace hS:=hS.aG hBc13;refine J1 ?_;intro wz14 hS;refine ja ?_;refine fi (λρ'=>ρ' 0= .slice (some ⟨bo,0,none⟩) n n/\ρ' 1= .int .i64 cols/\ρ' 5= .pointer (some ⟨b5,0,none⟩)/\ρ' 6= .slice av r cv/\ρ' 7= .pointer (some ⟨b7,0,none⟩)/\ρ' 8= .int .i64 c/\ρ' 9= .int .i64 r/\ρ' 11= .pointer (some ⟨b11,0,none⟩)/\True) ⟨h0,h1,h5,h6,h7,h8,h9,rfl,trivial⟩ ?_;rintro ρk15 ⟨hk15_0,hk15_1,hk15_5,hk15_6,hk15_7,hk15_8,hk15_9,hk15_11,-⟩;refine J2 ?_;refine jp (bn (i:=r) rfl rfl oO dO cZ (jq (eJ [_,_,_] rfl dh hS oO hlr ?_)));refine J2 ?_;refine jb ?_;refine aW (λρ w'=>ρ 0= .slice (some ⟨bo,0,none⟩) n n/\ρ 1=iB cols/\ρ 5=pB b5/\ρ 6= .slice av r cv/\ρ 7=pB b7/\ρ 8=iB c/\ρ 9=iB r/\
      ∃R,dA R n m (qM (xm X r a m))/\St w0 w' ([(b11,32,ae (aj a)),(b7,32,ae (aj (d1*a))),(b5,32,ae bM)]++mB ae 32 34 bo R (H++LP))) ?_ ?_
     ·refine ja ?_;refine aQ (σ:=Nat) (λk ρ w'=>k<=m/\ρ 0= .slice (some ⟨bo,0,none⟩) n n/\ρ 1=iB cols/\ρ 5=pB b5/\ρ 6= .slice av r cv/\ρ 7=pB b7/\ρ 8=iB c/\ρ 9=iB r/\ρ 11=pB b11/\ρ 68=iB m/\ρ 69=iB k/\
       ∃R,dA R n m (qM (xm X r a k))/\St w0 w' ([(b11,32,ae (aj a)),(b7,32,ae (aj (d1*a))),(b5,32,ae bM)]++mB ae 32 34 bo R (H++LP))) (λk=>m-k) 0
       ⟨Nat.zero_le _,jY,jY,jY,jY,jY,jY,jY,jY,vi rfl oO,rfl,R,hR.congr λi _ j _=>by show aj (X i j)=aj (xm X r a 0 i j);unfold xm;rw[if_neg oO],hS⟩ ?_
      clear hS hR hlr hxr hgr;rintro k ρ w4 ⟨hk,h0,h1,h5,h6,h7,h8,h9,h11,h68,h69,R,hR,hS⟩;have hlr:r<R.length:=by rw[hR.len];exact hrn
      have hxr:=hR.ql hrn;refine V1 ?_;by_cases hkl:k<m
      ·refine V1 ?_;have hgr:(R.getD r gn).X.getD k bM=aj (X r k):=by rw[hR.get hrn hkl];show aj (xm X r a k r k)=_;unfold xm;rw[if_neg oO]
       have hLk:=hLX r hrn k hkl;have hdiv:=λw=>oo (aj (X r k)) (aj a) w (by rw[Lr_ofQ,Lr_ofQ];omega) (by rw[toQ_ofQ];exact ha);rw[toQ_ofQ,toQ_ofQ]at hdiv;refine V2 ?_;refine bk [jo 0,jo 1,jo 2,ju 3,jo 4,jo 5,jo 6,jo 7,ju 8,jo 9,jo 10,ju 11,ju 12,jv 13,jo 14,jo 15,jo 16,jo 17,jw 18] kR kR hS ?_;intro wz16 hS hBz16;refine J2 ?_;refine jl rfl (bn (i:=r) rfl rfl oO dO cZ (jm rfl (eJ [_,_,_] rfl dh hS oO hlr ?_)));refine J3 ?_;refine jl rfl (bn (i:=r) rfl rfl oO dO cZ (jm rfl (eJ [_,_,_] rfl dh hS oO hlr ?_)));refine J1 ?_;refine jl rfl (bn (i:=k) rfl rfl oO dO bJ (jm rfl (ke [_,_,_] (i:=r) (j:=k) bM aK rfl aB hS rfl hlr oO oO rfl (.inl rfl) ?_)));refine J1 ?_;rw[hgr];refine jn rfl (ah Tryz.call108 rfl (hdiv _) ?_);rintro _ wc17 ⟨rfl,hBc17⟩;replace hS:=hS.aG hBc17;refine⟨hBc17,?_⟩;refine J3 ?_;refine jl rfl (bn (i:=k) rfl rfl oO dO bJ (jx rfl (qJ [_,_,_] (i:=r) (j:=k) (aj (X r k/a)) aK rfl rfl aB hS rfl hlr oO oO rfl rfl ?_)));intro wz18 hS;refine V2 ?_;refine⟨k+1,_,rfl,⟨hkl,jY,jY,jY,jY,jY,jY,jY,jY,jY,vi rfl oO,_,(hR.put hrn k (aj (X r k/a))).congr λi _ j _=> ?_,hS⟩,oO⟩;show(if i=r/\j=k then aj (X r k/a)else aj (xm X r a k i j))=aj (xm X r a (k+1) i j);unfold xm;by_cases g:i=r/\j=k
       ·rw[if_pos g,if_pos oO,g.2]
       ·rw[if_neg g];by_cases g2:i=r/\j<k
        ·rw[if_pos g2,if_pos oO]
        ·rw[if_neg g2,if_neg oO]
      ·refine J1 ?_;refine jt ?_;obtain rfl:k=m:=oO;exact⟨_,rfl,h0,h1,h5,h6,h7,h8,h9,R,hR,hS⟩
     clear hS hR hlr hxr hgr;rintro ρ w4 ⟨h0,h1,h5,h6,h7,h8,h9,R,hR,hS⟩;replace hR:dA R n m (qM (s8 X r c a 0)):=hR.congr λi _ j hj=>by
      show aj (xm X r a m i j)=aj (s8 X r c a 0 i j);unfold xm s8;by_cases e:i=r
      ·rw[if_pos ⟨e,hj⟩,if_pos e]
      ·rw[if_neg (λq=>e q.1),if_neg e,if_neg (Nat.not_lt_zero _)]
     replace hS:=hS.drop (List.sublist_cons_self _ _);refine J3 ?_;refine jb ?_;refine aW (λρ w'=>ρ 0= .slice (some ⟨bo,0,none⟩) n n/\ρ 1=iB cols/\ρ 5=pB b5/\ρ 6= .slice av r cv/\ρ 7=pB b7/\ρ 8=iB c/\
      ∃R,dA R n m (qM (s8 X r c a n))/\St w0 w' ([(b7,32,ae (aj (d1*a))),(b5,32,ae bM)]++mB ae 32 34 bo R (H++LP))) ?_ ?_
     ·refine ja ?_;refine aQ (σ:=Nat) (λi ρ w'=>i<=n/\ρ 0= .slice (some ⟨bo,0,none⟩) n n/\ρ 1=iB cols/\ρ 5=pB b5/\ρ 6= .slice av r cv/\ρ 7=pB b7/\ρ 8=iB c/\ρ 9=iB r/\ρ 92=iB n/\ρ 93=iB i/\
       ∃R,dA R n m (qM (s8 X r c a i))/\St w0 w' ([(b7,32,ae (aj (d1*a))),(b5,32,ae bM)]++mB ae 32 34 bo R (H++LP))) (λi=>n-i) 0
       ⟨Nat.zero_le _,jY,jY,jY,jY,jY,jY,jY,rfl,rfl,R,hR,hS⟩ ?_
      clear hS hR;rintro i ρ w4 ⟨hi,h0,h1,h5,h6,h7,h8,h9,h92,h93,R,hR,hS⟩;have hlr:r<R.length:=by rw[hR.len];exact hrn
      refine V1 ?_;by_cases hin:i<n
      ·refine V1 ?_;have hli:i<R.length:=by rw[hR.len];exact hin
       have hxi:=hR.ql hin;have hstep:∀i',i'<n->∀j,i'≠i->s8 X r c a i i' j=s8 X r c a (i+1) i' j:=by
        intro i' _ j hne;unfold s8;by_cases e:i'=r
        ·rw[if_pos e,if_pos e]
        ·rw[if_neg e,if_neg e];by_cases e2:i'<i
         ·rw[if_pos e2,if_pos oO]
         ·rw[if_neg e2,if_neg oO]
       refine V2 ?_;by_cases hir:i=r
       ·refine J4 ?_;refine bI (ak 99 kR rfl dF) (bI (ak 99 kR rfl dF) (bI (ak 99 kR rfl dF) (bI (ak 99 kR rfl dF) (bI (ak 99 kR rfl dF) (bI (ak 99 kR rfl dF) (bI (ak 99 kR rfl dF) (bI (ak 99 kR rfl dF) (bI (ak 99 kR rfl dF) (jp (aZ (vb rfl dF) rfl ?_))))))))));refine ja ?_;refine ct rfl (rfl) ?_;refine V2 ?_;refine⟨i+1,_,rfl,⟨hin,jY,jY,jY,jY,jY,jY,jY,jY,vi rfl oO,R,hR.congr λi' hi' j _=> ?_,hS⟩,oO⟩;show aj (s8 X r c a i i' j)=aj (s8 X r c a (i+1) i' j);by_cases e:i'=i
        ·unfold s8;rw[if_pos oO,if_pos oO]
        ·rw[hstep i' hi' j e]
       ·have hgi:(R.getD i gn).X.getD c bM=aj (X i c):=by rw[hR.get hin oO];show aj (s8 X r c a i i c)=_;unfold s8;rw[if_neg hir,if_neg (Nat.lt_irrefl _)]
        refine J4 ?_;refine ax (ai 99 kR rfl dT) (aI h0 (ax (ai 99 kR rfl dT) (aI rfl (ax (ai 99 kR rfl dT) (bn (i:=i) rfl rfl oO dO cZ (bW (ai 99 kR rfl dT) (eJ [_,_] rfl dh hS oO hli (ax (ai 99 kR rfl dT) (aI h8 (ax (ai 99 kR rfl dT) (bn (i:=c) rfl rfl oO dO bJ (bW (ai 99 kR rfl dT) (ke [_,_] (i:=i) (j:=c) bM aK rfl aB hS rfl hli oO oO rfl (.inl rfl) ?_)))))))))))));rw[hgi];refine fB (ai 99 kR rfl dT) (ah Tryz.call197 rfl (tH _ _) ?_);rintro r w5 ⟨rfl,hB5⟩;replace hS:=hS.aG hB5;refine ax (ai 99 kR rfl dT) (mJ rfl (jp (aZ (vb rfl dT) rfl ?_)));refine ja ?_;by_cases hz:X i c=0
        ·refine ct rfl (by rw[decide_eq_true hz];rfl) ?_;refine V2 ?_;refine⟨i+1,_,rfl,⟨hin,jY,jY,jY,jY,jY,jY,jY,jY,vi rfl oO,R,hR.congr λi' hi' j _=> ?_,hS⟩,oO⟩;show aj (s8 X r c a i i' j)=aj (s8 X r c a (i+1) i' j);by_cases e:i'=i
         ·rw[e];unfold s8;rw[if_neg hir,if_neg hir,if_neg (Nat.lt_irrefl _),if_pos (Nat.lt_succ_self _),hz];congr 1;grind
         ·rw[hstep i' hi' j e]
        ·refine bZ rfl (by rw[decide_eq_false hz];rfl) ?_;refine ja ?_;have hLe:∀j,j<m->L (s8 X r c a i i j)<=2*b/\L (s8 X r c a i r j)<=2*b:=by
          intro j hj;have q1:=hLX i hin j hj;have q2:=hLX r hrn j hj;have q3:=ri (X r j) a;constructor
          ·unfold s8;rw[if_neg hir,if_neg (Nat.lt_irrefl _)];omega
          ·unfold s8;rw[if_pos rfl];omega
         have hmin:=λw h=>GG (H:=[(b7,32,ae (aj (d1*a))),(b5,32,ae bM)]++(H++LP)) (w0:=w0) (bo:=bo) i r (X i c) (2*b) w hR hm hin hrn hir hLe (by have:=hLX i hin c oO;omega) oO h;refine ja ?_;refine bk [jo 0,jo 1,jo 2,ju 3,jo 4,jo 5,jo 6,ju 7,jo 8,jo 9,jo 10,ju 11,jo 12,jo 13,ju 14,jw 15] kR kR hS ?_;intro wz19 hS hBz19;refine J2 ?_;refine jl rfl (bn (i:=i) rfl rfl oO dO cZ (jm rfl (eJ [_,_] rfl dh hS oO hli ?_)));refine J2 ?_;refine jl rfl (bn (i:=r) rfl rfl oO dO cZ (jm rfl (eJ [_,_] rfl dh hS oO hlr ?_)));refine J2 ?_;refine jl rfl (bn (i:=i) rfl rfl oO dO cZ (jm rfl (eJ [_,_] rfl dh hS oO hli ?_)));refine J1 ?_;refine jl rfl (bn (i:=c) rfl rfl oO dO bJ (jm rfl (ke [_,_] (i:=i) (j:=c) bM aK rfl aB hS rfl hli oO oO rfl (.inl rfl) ?_)));rw[hgi];refine jx rfl (ah Tryz.call198 rfl (hmin _ (hS.perm (u6 _ _))) ?_);rintro u w6 ⟨rfl,R',hR',hS'⟩;clear hS;have hS:=hS'.perm (u6 _ _).symm;refine V2 ?_;refine⟨i+1,_,rfl,⟨hin,jY,jY,jY,jY,jY,jY,jY,jY,vi rfl oO,R',hR'.congr λi' hi' j _=> ?_,hS⟩,oO⟩;show aj (if i'=i then s8 X r c a i i j-X i c*s8 X r c a i r j else s8 X r c a i i' j)=aj (s8 X r c a (i+1) i' j);by_cases e:i'=i
         ·rw[if_pos e,e];unfold s8;rw[if_neg hir,if_neg hir,if_neg (Nat.lt_irrefl _),if_pos rfl,if_pos (Nat.lt_succ_self _)]
         ·rw[if_neg e,hstep i' hi' j e]
      ·refine J1 ?_;refine jt ?_;obtain rfl:n=i:=oO;exact⟨_,rfl,h0,h1,h5,h6,h7,h8,R,hR,hS⟩
     clear hS hR;rintro ρ w4 ⟨h0,h1,h5,h6,h7,h8,R,hR,hS⟩;replace hR:dA R n m (qM (cI n M (c+1)).M):=hR.congr λi hi j _=>by
      show aj (s8 X r c a n i j)=aj ((cI n M (c+1)).M i j);rw[hyes,IA X r c a hi j]
     replace hS:St w0 w4 ([(b7,32,ae (aj (cI n M (c+1)).d)),(b5,32,ae bM)]++mB ae 32 34 bo R (H++LP)):=by rw[hyes];exact hS
     rw[<-z5,<-List.append_assoc]at hS;have hnl:(nI s.P).length=r:=by rw[kJ,hr]
     refine J2 ?_;refine jh (dI (vs:=[.int .i64 c]) rfl ga rfl dD dD dD (by simp[Value.cells]) rfl hS ?_);intro b20 wz21 hS hBz21;refine jh (dK [(c:Int)] rfl rfl ga dD hG hS rfl rfl (λ_=>rfl) (λu hu=>by rw[List.mem_singleton.1 (show u∈[Value.int .i64 (c:Int)]from hu)];rfl) dL dL ?_);intro va22 La22 wa22 hG hS hga22;refine V1 ?_;rw[<-ED]at hG;rw[List.append_assoc,z5]at hS;refine V3 ?_;exact⟨c+1,_,rfl,⟨hcl,jY,jY,jY,jY,vi rfl oO,_,_,R,rfl,by rw[hyes];exact hG,hR,hS⟩,oO⟩
    ·rw[if_neg hpn]at hpI;refine bZ rfl (decide_eq_true (by rw[hpI];decide)) ?_;refine V3 ?_;have e:=FY (n:=n) (c:=c) (M:=M) (by rw[<-hr,<-hp];exact hpn);exact⟨c+1,_,rfl,⟨hcl,jY,jY,jY,jY,vi rfl oO,_,LP,R,jY,by rw[e];exact hG,by rw[e];exact hR,by rw[e];exact hS⟩,oO⟩
   ·refine J4 ?_;refine ax (ai 18 kR rfl dT) (aI h6 (ax (ai 18 kR rfl dT) (gV rfl ⟨_,Tryz.underlying46⟩ (ax (ai 18 kR rfl dT) (aI h0 (ax (ai 18 kR rfl dT) (gV rfl ⟨_,Tryz.underlying35⟩ (ax (ai 18 kR rfl dT) (oE rfl rfl (jp (aZ (vb rfl dT) rfl ?_)))))))))));refine J1 ?_;refine jt ?_;have e:cI n M cols=cI n M c:=by
     have:=vO (n:=n) (A:=M) (c:=c) oO (cols-c);rwa[show c+(cols-c)=cols by omega]at this
    rw[e];exact⟨_,rfl,h5,h7,_,LP,R,h6,hG,hR,hS⟩
  ·refine J4 ?_;refine bI (ak 18 kR rfl dF) (bI (ak 18 kR rfl dF) (bI (ak 18 kR rfl dF) (bI (ak 18 kR rfl dF) (bI (ak 18 kR rfl dF) (jp (aZ (vb rfl dF) rfl ?_))))));refine ja ?_;refine ct rfl (rfl) ?_;refine jt ?_;obtain rfl:c=cols:=oO;exact⟨_,rfl,h5,h7,_,LP,R,h6,hG,hR,hS⟩
 clear hS;rintro ρ w2 ⟨h5,h7,vp,LP,R,h6,hG,hR,hS⟩;refine ja ?_;refine bk [jo 0,ju 1,jo 2,jw 3] kR kR hS ?_;intro wz23 hS hBz23;refine J4 ?_;intro wz24 hS;refine ja ?_;replace hS:St w0 _ ([(b7,32,ae (aj (cI n M cols).d)),(b5,32,ae (aj (cI n M cols).d))]++mB ae 32 34 bo R (H++LP)):=hS;refine jt ?_;refine mL (k:=1) rfl h5 rfl aB hS rfl rfl ?_;exact⟨vp,LP,R,rfl,hG,hR,hS.drop (List.sublist_append_right _ _)⟩
theorem Q1 (K n:Nat):K+1<=BB K n:=by
 have:=u3 K (Nat.zero_le n);unfold BB at this⊢;omega
def AQ (A:List (List RR)):Rd:=cI A.length (RM A) (ew A)
def QH (A:List (List RR)):List (List RR):=if mN A=0 then oR A.length (ew A) (qM (AQ A).M)else []
def QF (A:List (List RR)):List Nat:=if mN A=0 then(AQ A).P else []
theorem kj.nil {α:Type} (enc:α->List Value) (size:Nat) (w:World):kj enc size w (.slice none 0 0) [] []:=⟨rfl,Sl.nil _ _ _,λ_ h=>absurd h (Nat.not_lt_zero _)⟩
theorem Eh (v:Value) (A:List (List RR)) (vs:List Value) (K:Nat) (w:World) (hA:kj ae 3 w v A vs) (hB:Hf K A) (hK:8*BB K A.length<=MX):
  dj Tryz.prog 138 #[v] w λr w'=>(∃v' vs' vp,r= .tuple #[v',vp,.int .i64 (mN A)]/\kj ae 3 w' v' (QH A) vs'/\Sl lD 1 w' vp (nI (QF A)))/\Below w.heap.size w w':=by
 have hM:MX=1099511627776:=rfl;have hBK:=Q1 K A.length;have hS:=St.init w;have hlen:=hA.len;refine enter Tryz.func138 rfl Tryz.ntmps138 rfl ?_;refine J4 ?_;refine jh (ah Tryz.call170 rfl (yE v A vs _ (hA.ab hS.ab)) ?_);rintro _ wc1 ⟨rfl,hBc1⟩;replace hS:=hS.aG hBc1;refine V3 ?_;by_cases he:mN A≠0
 ·have e1:QH A=[]:=if_neg he;have e2:QF A=[]:=if_neg he;rw[e1,e2];refine J5 ?_;refine jt ?_;refine Ay rfl rfl rfl rfl ?_;exact⟨⟨_,[],_,rfl,kj.nil _ _ _,Sl.nil _ _ _⟩,hS.ab⟩
 replace he:=Decidable.not_not.1 he;obtain⟨h1,h2,h3,h4,h5⟩:=pJ he;have hr0:=hA.row 0 oO;have hc0:ew A=(A.getD 0 []).length:=rfl;have e1:QH A=oR A.length (ew A) (qM (AQ A).M):=if_pos he;have e2:QF A=(AQ A).P:=if_pos he;rw[e1,e2,he];refine J2 ?_;refine jh (ah Tryz.call141 rfl (ti v A vs (ew A) K _ (hA.ab hS.ab) h1 oO h3 oO h5 hB oO) ?_);rintro r w2 ⟨⟨bo,R,rfl,hR,-,hS2⟩,hB2⟩;replace hS:=(hS.join hS2).cast (List.append_nil _);clear hS2;refine J3 ?_;refine jp (aH (i:=0) rfl rfl (hA.sl.ab hS.ab) oO dO cZ (jq (aO (i:=0) undef rfl dh (hA.sl.ab hS.ab) dO rfl rfl (.inr rfl) (jp (aF rfl (hr0.ab hS.ab) ⟨_,Tryz.underlying34⟩ ?_)))));refine jh (ah Tryz.call171 rfl (Ef (ew A) K _ hR oO oO (Nat.le_refl _) (λi hi j hj=>Hl hB hi (by rw[h5 i hi];exact hj)) hK hS) ?_);rintro r w3 ⟨vp,LP,R',rfl,hG,hR',hS'⟩;clear hS;rename _=>hS
 refine J4 ?_;intro b8 wz2 hS hBz2;refine J2 ?_;intro wz3 hS;refine ja ?_;have hS2:=hS.drop (List.sublist_cons_self _ _);have hmt:=hR'.FV hS2 aK (cap:=A.length) (Nat.le_refl _) oO;rw[<-z5]at hS2;have hsl:=hG.sl hS2 (λ_=>rfl);refine J5 ?_;refine jt ?_;refine Ay rfl rfl rfl rfl ?_;exact⟨⟨_,_,_,rfl,hmt,hsl⟩,hS.ab⟩
theorem JL {A:List (List RR)} (h:JJ A=0):mN A=0/\A.length=ew A:=by
 unfold JJ at h;split at h
 ·next h1=>exact absurd h h1
 ·next h1=>
  split at h
  ·cases h
  ·next h2=>exact⟨Decidable.not_not.1 h1,Decidable.not_not.1 h2⟩
theorem GR (v:Value) (l:List Int) (x:Int) (w:World) (hv:Sl lD 1 w v l):
  dj Tryz.prog 172 #[v,.int .i64 x] w λr w'=>(∃k:Int,r= .int .i64 k/\(0<=k↔x∈l))/\w'=w:=by
 have hmax:=hv.maxLen;refine enter Tryz.func172 rfl Tryz.ntmps172 rfl ?_;refine J2 ?_;refine jp (aF rfl hv ⟨_,Tryz.underlying46⟩ ?_);refine V1 ?_;refine aQ (σ:=Nat) (λi ρ w'=>i<=l.length/\x∉l.take i/\ρ 0=v/\ρ 1=iB x/\ρ 7=iB l.length/\ρ 8=iB i/\w'=w) (λi=>l.length-i) 0
  ⟨Nat.zero_le _,by simp,rfl,rfl,rfl,rfl,rfl⟩ ?_
 rintro i ρ w2 ⟨hi,hn,h0,h1,h7,h8,rfl⟩;refine V1 ?_;by_cases hlt:i<l.length
 ·refine V1 ?_;have ht:=cH l i 0 hlt;refine J5 ?_;refine jp (aH (i:=i) rfl rfl hv oO dO ga (jq (aO (i:=i) 0 rfl eI hv dO rfl rfl (.inr rfl) ?_)));refine V1 ?_;by_cases hx:x=l.getD i 0
  ·refine bZ rfl (decide_eq_true hx) ?_;refine J2 ?_;refine jt ?_;refine bj rfl rfl ?_;exact⟨⟨_,rfl,⟨λ_=>by rw[hx];exact bC l i 0 hlt,λ_=>oO⟩⟩,rfl⟩
  ·refine ct rfl (decide_eq_false hx) ?_;refine V2 ?_;exact⟨i+1,_,rfl,⟨hlt,by rw[ht,List.mem_append,List.mem_singleton];exact λg=>g.elim hn hx,h0,h1,h7,vi rfl oO,rfl⟩,oO⟩
 ·refine J1 ?_;refine jt ?_;obtain rfl:i=l.length:=oO;rw[List.take_length]at hn;refine J1 ?_;refine jt ?_;refine bj rfl rfl ?_;exact⟨⟨_,rfl,⟨λh=>oO,λh=>absurd h hn⟩⟩,rfl⟩
theorem Ak (v:Value) (l:List Int) (x:Int) (w:World) (hv:Sl lD 1 w v l):
  dj Tryz.prog 139 #[v,.int .i64 x] w λr w'=>r= .bool (decide (x∈l))/\w'=w:=by
 refine enter Tryz.func139 rfl Tryz.ntmps139 rfl ?_;refine J3 ?_;refine jh (ah Tryz.call172 rfl (GR v l x _ hv) ?_);rintro r w3 ⟨⟨k,rfl,hk⟩,rfl⟩;refine J2 ?_;refine jt ?_;refine bj rfl rfl ?_;exact⟨congrArg Value.bool (decide_eq_decide.2 hk),rfl⟩
theorem HP {P:List Nat} {f:Nat}:(f:Int)∈nI P↔f∈P:=by
 unfold nI;rw[List.mem_map];constructor
 ·rintro⟨a,ha,e⟩;rw[<-Int.natCast_inj.1 e];exact ha
 ·intro h;exact⟨f,h,rfl⟩
def Gm (P:List Nat) (n:Nat):List Nat:=(List.range n).filter λf=> !decide (f∈P)
theorem HK (P:List Nat) (n:Nat):Gm P (n+1)=if n∈P then Gm P n else Gm P n++[n]:=by
 unfold Gm;rw[List.range_succ,List.filter_append];by_cases h:n∈P
 ·rw[if_pos h,List.filter_cons_of_neg (by simp[h])];simp
 ·rw[if_neg h,List.filter_cons_of_pos (by simp[h])];rfl
def jU (M:Mx) (P:List Nat) (m f:Nat):List RR:=aS m λj=>aj (kv P M f j)
def Db (A:List (List RR)):List (List RR):=if mN A=0 then(Gm (AQ A).P (ew A)).map (jU (AQ A).M (AQ A).P (ew A))else []
def Ow {α:Type} (R:List (Rw α)):Prop:=∀r∈R,r.X.length<=r.cap/\r.cap<=9223372036854775807
theorem H5 {α:Type} {enc:α->List Value} {size:Nat} (hu:∀x,(enc x).length=size) {t tS:TypeId} {R:List (Rw α)} {vo:Value} {LO:List bQ} {w0 w:World} (hok:Ow R) (hG:Gl lj tS 1 vo (R.map Rw.v) LO) (hS:St w0 w (R.map (Rw.qj enc t)++LO)):
  kj enc size w vo (R.map (·.X)) (R.map Rw.v):=by
 refine⟨by rw[List.length_map,List.length_map],hG.sl hS (λ_=>rfl),λi hi=> ?_⟩;rw[List.length_map]at hi;have hr:=hok _ (bC R i gn hi);have hk:(R.map (Rw.qj enc t)++LO)[i]?=some ((R.getD i gn).b,t,(R.getD i gn).X.flatMap enc++(R.getD i gn).sp):=by
  rw[List.getElem?_append_left (by rw[List.length_map];exact hi),List.getElem?_map,List.getElem?_eq_getElem hi,ff R gn hi];rfl
 have h:=hS.Rv hk hu (n:=(R.getD i gn).X.length) (cap:=(R.getD i gn).cap) (Nat.le_refl _) hr.1 hr.2;rw[List.take_of_length_le (Nat.le_refl _)]at h;have e1:(R.map Rw.v).getD i undef=(R.getD i gn).v:=by rw[List.getD_eq_getElem?_getD,xX hi];rfl
 have e2:(R.map (·.X)).getD i []=(R.getD i gn).X:=by rw[ff _ _ (by rw[List.length_map];exact hi),List.getElem_map,ff R gn hi]
 rw[e1,e2];exact h
def HC (P:List Nat) (M:Mx) (f k j:Nat):Rat:=if j=f then 1 else if j∈P.take k then-M (P.idxOf j) f else 0
theorem L5 (P:List Nat) (M:Mx) (f j:Nat):HC P M f P.length j=kv P M f j:=by unfold HC kv;rw[List.take_length]
theorem Lf {P:List Nat} {M:Mx} {f k m:Nat} (hi:P.Pairwise (· < ·)) (hf:f∉P) (hk:k<P.length):(aS m λj=>aj (HC P M f k j)).set (P.getD k 0) (aj (-M k f))=aS m λj=>aj (HC P M f (k+1) j):=by
 rw[sh];refine bA λj _=> ?_;congr 1;have ht:=cH P k 0 hk;unfold HC;by_cases h:j=P.getD k 0
 ·have hm:P.getD k 0∈P:=bC P k 0 hk;rw[if_pos h,h,if_neg (λe=>hf (by rw[<-e];exact hm)),ht,if_pos (by simp)];have:P.idxOf (P.getD k 0)=k:=by
   rw[ff P 0 hk];exact(qd hi).idxOf_getElem k hk
  rw[this]
 ·rw[if_neg h];by_cases h2:j=f
  ·rw[if_pos h2,if_pos h2]
  ·rw[if_neg h2,if_neg h2,ht];by_cases h3:j∈P.take k
   ·rw[if_pos h3,if_pos (List.mem_append_left _ h3)]
   ·rw[if_neg h3,if_neg (λe=>by
     rcases List.mem_append.1 e with g|g
     ·exact h3 g
     ·exact h (List.mem_singleton.1 g))]
theorem HQ {m f:Nat} (P:List Nat) (M:Mx):(List.replicate m bM).set f (aj ((1:Int):Rat))=aS m λj=>aj (HC P M f 0 j):=by
 rw[mW,eP];refine bA λj _=> ?_;unfold HC;by_cases h:j=f
 ·rw[if_pos h,if_pos h];rfl
 ·rw[if_neg h,if_neg h,List.take_zero,if_neg (by simp),gm];rfl
theorem Dl (v:Value) (A:List (List RR)) (vs:List Value) (K:Nat) (w:World) (hA:kj ae 3 w v A vs) (hB:Hf K A) (hK:8*BB K A.length<=MX):
  dj Tryz.prog 102 #[v] w λr w'=>(∃v' vs',r= .tuple #[v',.int .i64 (mN A)]/\kj ae 3 w' v' (Db A) vs')/\Below w.heap.size w w':=by
 have hM:MX=1099511627776:=rfl;have hS:=St.init w;refine enter Tryz.func102 rfl Tryz.ntmps102 rfl ?_;refine J3 ?_;refine jh (ah Tryz.call138 rfl (Eh v A vs K _ (hA.ab hS.ab) hB hK) ?_);rintro r w2 ⟨⟨v',vs',vp,rfl,hm,hp⟩,hB2⟩;replace hS:=hS.aG hB2;refine V9 ?_;by_cases he:mN A≠0
 ·have e1:Db A=[]:=if_neg he;rw[e1];refine J4 ?_;refine jt ?_;refine j6 rfl rfl rfl ?_;exact⟨⟨_,[],rfl,kj.nil _ _ _⟩,hS.ab⟩
 replace he:=Decidable.not_not.1 he;obtain⟨h1,h2,h3,h4,h5⟩:=pJ he;have e1:Db A=(Gm (AQ A).P (ew A)).map (jU (AQ A).M (AQ A).P (ew A)):=if_pos he;have e2:QH A=oR A.length (ew A) (qM (AQ A).M):=if_pos he;have e3:QF A=(AQ A).P:=if_pos he;have hI:G2 A.length (ew A) (AQ A):=rinv A.length (RM A) (ew A);have hLs:=(Bs (n:=A.length) (M:=RM A) (K:=K) (λi hi j hj=>Hl hB hi (by rw[h5 i hi];exact hj)) (ew A) (Nat.le_refl _)).1;have hbk:=hK;have hbm:=u3 K hI.len;change∀i,i<A.length->∀j,j<ew A->L ((AQ A).M i j)+1<=BB K (AQ A).P.length at hLs;rw[e1];rw[e2]at hm;rw[e3]at hp;obtain⟨n,hn⟩:=jz A.length;obtain⟨m,hm'⟩:∃m,m=ew A:=⟨_,rfl⟩;obtain⟨s,hs⟩:=jz (AQ A);rw[<-hn,<-hm',<-hs]at hI hm;rw[<-hn,<-hm',<-hs]at hLs;rw[<-hs]at hp hbm;rw[<-hn]at h1 h2 hbk hbm;rw[<-hm']at h3 h4;rw[<-hm',<-hs,he];refine V1 ?_;have hf0:=hm.row 0 (by rw[eg];omega);rw[iw _ oO]at hf0;have htl0:=ao m (qM s.M 0);have hsl:=hm.sl;have hvl:=hm.len;rw[eg]at hvl;have hS0:=hS;refine J2 ?_;refine jp (aH (i:=0) rfl rfl hsl oO dO cZ (jq (aO (i:=0) undef rfl dh hsl dO rfl rfl (.inr rfl) (jp (aF rfl hf0 ⟨_,Tryz.underlying34⟩ ?_)))));refine J1 ?_;refine jb ?_;refine aW (λρ w'=>∃vo LO R,ρ 7=vo/\Ow R/\R.map (·.X)=(Gm s.P m).map (jU s.M s.P m)/\Gl lj 34 1 vo (R.map Rw.v) LO/\St w2 w' (R.map (Rw.qj ae 32)++LO)) ?_ ?_
 ·refine ja ?_;refine aQ (σ:=Nat) (λf ρ w'=>f<=m/\ρ 4=v'/\ρ 5=vp/\ρ 24=iB m/\ρ 25=iB f/\∃vo LO R,ρ 7=vo/\Ow R/\R.map (·.X)=(Gm s.P f).map (jU s.M s.P m)/\Gl lj 34 1 vo (R.map Rw.v) LO/\St w2 w' (R.map (Rw.qj ae 32)++LO)) (λf=>m-f) 0
   ⟨Nat.zero_le _,rfl,rfl,vi rfl oO,rfl,_,[],[],rfl,(λ_ h=>by cases h),rfl,Gl.nil _ _ _,St.init w2⟩ ?_
  rintro f ρ w3 ⟨hf,h4',h5',h24,h25,vo,LO,R,h7,hok,hRX,hG,hT⟩;clear hS;have hS:=hT;clear hT;refine V1 ?_;by_cases hlt:f<m
  ·refine J5 ?_;refine jh (ah Tryz.call139 rfl (Ak vp (nI s.P) f _ (hp.ab hS.ab)) ?_);rintro _ wq1 ⟨rfl,hq1⟩;replace hq1:=hq1.symm;subst hq1;refine ja ?_;have hfs:=HK s.P f;by_cases hfP:f∈s.P
   ·rw[if_pos hfP]at hfs;refine bZ rfl (decide_eq_true (HP.2 hfP)) ?_;refine V2 ?_;exact⟨f+1,_,rfl,⟨hlt,jY,jY,jY,vi rfl oO,vo,LO,R,jY,hok,by rw[hfs];exact hRX,hG,hS⟩,oO⟩
   ·rw[if_neg hfP]at hfs;refine ct rfl (decide_eq_false (λh=>hfP (HP.1 h))) ?_;refine ja ?_;have hnl:=kJ s.P;refine J1 ?_;refine jp (aH (i:=0) rfl rfl (hsl.ab hS.ab) oO dO cZ (jq (aO (i:=0) undef rfl dh (hsl.ab hS.ab) dO rfl rfl (.inr rfl) (jp (aF rfl (hf0.ab hS.ab) ⟨_,Tryz.underlying34⟩ (jh (de (enc:=ae) (n:=m) bM rfl rfl bJ rfl oO oO oO oO hS ?_)))))));intro b35 wz2 hS hBz2;refine J3 ?_;refine jh (ah Tryz.call33 rfl (dN 1 _ dD dD) ?_);rintro _ wc3 ⟨rfl,hBc3⟩;replace hS:=hS.aG hBc3;refine jp (bn (i:=f) rfl rfl oO dO bJ ?_);refine jh (sa (k:=0) (i:=f) (enc:=ae) (aj ((1:Int):Rat)) (λ_=>rfl) rfl rfl aB hS rfl (by first|omega|simp) dO rfl rfl ?_);intro wz4 hS;refine ja ?_;replace hS:St w2 _ ((b35,32,((List.replicate m bM).set f (aj ((1:Int):Rat))).flatMap ae)::(R.map (Rw.qj ae 32)++LO)):=hS;rw[HQ s.P s.M]at hS;refine J1 ?_;refine jp (aF rfl (hp.ab hS.ab) ⟨_,Tryz.underlying46⟩ ?_);refine J1 ?_;refine jb ?_;refine aW (λρ w'=>ρ 4=v'/\ρ 5=vp/\ρ 7=vo/\ρ 9= .slice (some ⟨b35,0,none⟩) m m/\ρ 24=iB m/\ρ 25=iB f/\St w2 w' ((b35,32,(jU s.M s.P m f).flatMap ae)::(R.map (Rw.qj ae 32)++LO))) ?_ ?_
    ·refine ja ?_;refine aQ (σ:=Nat) (λk ρ w'=>k<=s.P.length/\ρ 4=v'/\ρ 5=vp/\ρ 7=vo/\ρ 8=iB f/\ρ 9= .slice (some ⟨b35,0,none⟩) m m/\ρ 24=iB m/\ρ 25=iB f/\ρ 40=vp/\ρ 41=iB s.P.length/\ρ 42=iB k/\St w2 w' ((b35,32,(aS m λj=>aj (HC s.P s.M f k j)).flatMap ae)::(R.map (Rw.qj ae 32)++LO))) (λk=>s.P.length-k) 0
      ⟨Nat.zero_le _,jY,jY,jY,rfl,rfl,jY,jY,rfl,vi rfl oO,rfl,hS⟩ ?_
     clear hS;rintro k ρ w4 ⟨hk,h4',h5',h7,h8,h9,h24,h25,h40,h41,h42,hS⟩;have htl:=ao m λj=>aj (HC s.P s.M f k j);refine V1 ?_;by_cases hkl:k<s.P.length
     ·refine V1 ?_;have hrk:=hm.row k (by rw[eg];have:=hI.len;omega);have hkn:k<n:=by have:=hI.len;omega
      rw[iw _ hkn]at hrk;have htk:=ao m (qM s.M k);have hgk:(aS m (qM s.M k)).getD f bM=aj (s.M k f):=aV _ _ hlt;have hpk:s.P.getD k 0<m:=hI.lt _ (bC _ _ _ hkl);have hpv:(nI s.P).getD k 0=((s.P.getD k 0:Nat):Int):=by
       unfold nI;rw[ff _ _ (by rw[List.length_map];exact hkl),List.getElem_map,ff s.P 0 hkl]
      have hLk:=hLs k hkn f hlt;have hneg:=λw=>qH (aj (s.M k f)) w (by rw[Lr_ofQ];omega);rw[toQ_ofQ]at hneg;refine J1 ?_;refine jp (aH (i:=k) h40 h42 (hp.ab hS.ab) oO dO ga (jq (aO (i:=k) 0 rfl eI (hp.ab hS.ab) dO rfl rfl (.inr rfl) ?_)));refine V2 ?_;rw[hpv];refine J4 ?_;refine jp (aH (i:=k) rfl rfl (hsl.ab hS.ab) oO dO cZ (jq (aO (i:=k) undef rfl dh (hsl.ab hS.ab) dO rfl rfl (.inr rfl) ?_)));refine J1 ?_;refine jp (aH (i:=f) rfl rfl (hrk.ab hS.ab) oO dO bJ (jq (aO (i:=f) bM rfl aB (hrk.ab hS.ab) dO rfl rfl (.inl rfl) ?_)));rw[hgk];refine jh (ah Tryz.call105 rfl (hneg _) ?_);rintro _ wc5 ⟨rfl,hBc5⟩;replace hS:=hS.aG hBc5;refine jp (bn (i:=(s.P.getD k 0)) rfl rfl oO dO bJ ?_);refine jh (sa (k:=0) (i:=(s.P.getD k 0)) (enc:=ae) (aj (-s.M k f)) (λ_=>rfl) rfl rfl aB hS rfl (by first|omega|simp) dO rfl rfl ?_);intro wz6 hS;refine ja ?_;replace hS:St w2 _ ((b35,32,((aS m λj=>aj (HC s.P s.M f k j)).set (s.P.getD k 0) (aj (-s.M k f))).flatMap ae)::(R.map (Rw.qj ae 32)++LO)):=hS;rw[Lf hI.inc hfP hkl]at hS;refine V2 ?_;exact⟨k+1,_,rfl,⟨hkl,jY,jY,jY,jY,jY,jY,jY,jY,jY,vi rfl oO,hS⟩,oO⟩
     ·refine J1 ?_;refine jt ?_;obtain rfl:k=s.P.length:=oO;have ek:(aS m λj=>aj (HC s.P s.M f s.P.length j))=jU s.M s.P m f:=bA λj _=>by rw[L5]
      rw[ek]at hS;exact⟨_,rfl,h4',h5',h7,h9,h24,h25,hS⟩
    clear hS;rintro ρ w4 ⟨h4',h5',h7,h9,h24,h25,hS⟩;have hkl:=ao m λj=>aj (kv s.P s.M f j);have hvn:(R.map Rw.v).length=R.length:=List.length_map _;have hRl:R.length<=f:=by
     have:=congrArg List.length hRX;rw[List.length_map,List.length_map]at this;have h2:=List.length_filter_le (λf=> !decide (f∈s.P)) (List.range f);rw[List.length_range]at h2;unfold Gm at this;omega
    refine ja ?_;rw[<-List.cons_append]at hS;refine J2 ?_;refine jh (dI (vs:=[.slice (some ⟨b35,0,none⟩) m m]) rfl cZ rfl dD dD dD (by simp[Value.cells]) rfl hS ?_);intro b7 wz8 hS hBz8;refine jh (dK [Value.slice (some ⟨b35,0,none⟩) m m] rfl rfl cZ dD hG hS rfl rfl (λ_=>rfl) (λu hu=>by rw[List.mem_singleton.1 (show u∈[Value.slice (some ⟨b35,0,none⟩) m m]from hu)];rfl) dL dL ?_);intro va9 La9 wa9 hG hS hga9;refine V3 ?_;obtain⟨nr,hnr⟩:∃nr:Rw RR,nr=⟨b35,m,jU s.M s.P m f,[]⟩:=⟨_,rfl⟩;have evv:R.map Rw.v++[Value.slice (some ⟨b35,0,none⟩) m m]=(R++[nr]).map Rw.v:=by
     rw[List.map_append,hnr];show _=R.map Rw.v++[Value.slice (some ⟨b35,0,none⟩) (jU s.M s.P m f).length m];unfold jU;rw[hkl]
    have eb:∀T:List bQ,((b35,32,(jU s.M s.P m f).flatMap ae)::R.map (Rw.qj ae 32)++T).Perm ((R++[nr]).map (Rw.qj ae 32)++T):=by
     intro T;have:List.map (Rw.qj ae 32) [nr]=[(b35,32,(jU s.M s.P m f).flatMap ae)]:=by
      rw[hnr];show [(b35,32,(jU s.M s.P m f).flatMap ae++[])]=_;rw[List.append_nil]
     rw[List.map_append,this];exact List.Perm.append_right _ (List.perm_append_singleton _ _).symm
    rw[evv]at hG;have hS2:=hS.perm (eb _);refine⟨f+1,_,rfl,⟨hlt,jY,jY,jY,vi rfl oO,_,_,R++[nr],rfl,?_,?_,hG,hS2⟩,oO⟩
    ·intro r hr;rcases List.mem_append.1 hr with g|g
     ·exact hok r g
     ·rw[List.mem_singleton.1 g,hnr];exact⟨by show(jU s.M s.P m f).length<=m;unfold jU;omega,by show m<=_;omega⟩
    ·rw[hfs,List.map_append,List.map_append,hRX,hnr];rfl
  ·refine J1 ?_;refine jt ?_;obtain rfl:f=m:=oO;exact⟨_,rfl,vo,LO,R,h7,hok,hRX,hG,hS⟩
 clear hS;rintro ρ w3 ⟨vo,LO,R,h7,hok,hRX,hG,hS⟩;refine ja ?_;have hmt:=H5 (size:=3) aK hok hG hS;rw[hRX]at hmt;refine J3 ?_;refine jt ?_;refine j6 rfl rfl rfl ?_;exact⟨⟨vo,_,rfl,hmt⟩,hS0.ab.trans (hS.ab.mono hS0.ab.size)⟩
structure ZZ where
 neg:Bool
 mag:Nat
def dQ (z:ZZ):List Value:=[.bool z.neg,.string (bB z.mag)]
def yj (z:ZZ):Value:= .agg #[.bool z.neg,.string (bB z.mag)]
def tI:ZZ:=⟨false,0⟩
theorem ec:∀z,(dQ z).length=2:=λ_=>rfl
theorem tJ:dQ tI=[.bool false,.string ⟨#[]⟩]:=by
 have:bB 0=⟨#[]⟩:=fR.2 rfl;show [Value.bool false,.string (bB 0)]=_;rw[this]
def zv (z:ZZ):Int:=sg z.neg z.mag
def qo (z:ZZ):Nat:=(bB z.mag).size
def lB (a b:ZZ):ZZ:=⟨a.neg !=b.neg,a.mag*b.mag⟩
def lF (a b:ZZ):ZZ:=if a.neg≠b.neg then⟨a.neg,a.mag+b.mag⟩else if b.mag<=a.mag then⟨a.neg,a.mag-b.mag⟩else⟨!a.neg,b.mag-a.mag⟩
def CK (a b:ZZ):ZZ:=⟨a.neg !=b.neg,a.mag/b.mag⟩
theorem Cp (a b:ZZ):zv (lB a b)=zv a*zv b:=by
 obtain⟨x,m⟩:=a;obtain⟨y,n⟩:=b;unfold zv lB sg;cases x<;>cases y<;>simp[Int.neg_mul,Int.mul_neg]
theorem Jc (a b:ZZ):zv (lF a b)=zv a-zv b:=by
 obtain⟨x,m⟩:=a;obtain⟨y,n⟩:=b;unfold zv lF sg;by_cases h:n<=m
 ·cases x<;>cases y<;>simp[h]<;>omega
 ·cases x<;>cases y<;>simp[h]<;>omega
theorem KH (a b:ZZ):zv (CK a b)=(zv a).tdiv (zv b):=by
 obtain⟨x,m⟩:=a;obtain⟨y,n⟩:=b;unfold zv CK sg;cases x<;>cases y<;>simp[Int.neg_tdiv,Int.tdiv_neg]
theorem Kv {z:ZZ}:zv z=0↔z.mag=0:=by
 unfold zv sg;split<;>omega
theorem pK (a b:ZZ):qo (lB a b)<=qo a+qo b:=cS _ _
theorem yB (a b:ZZ):qo (lF a b)<=max (qo a) (qo b)+1:=by
 unfold lF qo;split
 ·exact np _ _
 ·split
  ·have:=db (Nat.sub_le a.mag b.mag);show(bB (a.mag-b.mag)).size<=_;omega
  ·have:=db (Nat.sub_le b.mag a.mag);show(bB (b.mag-a.mag)).size<=_;omega
theorem Ir (a b:ZZ):qo (CK a b)<=qo a:=db (Nat.div_le_self _ _)
theorem JI:qo tI=0:=by
 show(bB 0).size=0;rw[fR.2 rfl];rfl
theorem od (b:Bool) (s:ByteArray):Tryz.prog.built 223 [(0,.bool b),(1,.string s)]=some #[.bool b,.string s]:=by kernel_rfl
theorem yU (a b:ZZ) (w:World) (ha:qo a<=4398046511104) (hb:qo b<=4398046511104):
  dj Tryz.prog 174 #[yj a,yj b] w λv w'=>v=yj (lB a b)/\Below w.heap.size w w':=by
 have hS:=St.init w;refine enter Tryz.func174 rfl Tryz.ntmps174 rfl ?_;refine jr ?_;refine jh (bY (new:=dQ a) rfl rfl hS ?_);intro b1 wz2 hS hBz2;refine jh (bY (new:=dQ b) rfl rfl hS ?_);intro b3 wz4 hS hBz4;refine J1 ?_;intro b5 wz6 hS hBz6;refine ja ?_;refine bk [jo 0,ju 1,jo 2,ju 3,jo 4,jo 5,ju 6,jo 7,ju 8,jv 9,jo 10,jw 11] kR kR hS ?_;intro wz7 hS hBz7;refine J4 ?_;refine jl rfl (ub rfl rfl Tryz.underlying4 ?_);refine J4 ?_;refine jn rfl (ah Tryz.call30 rfl (oG a.mag b.mag _ ha hb) ?_);rintro _ wc8 ⟨rfl,hBc8⟩;replace hS:=hS.aG hBc8;refine⟨hBc8,?_⟩;refine jl rfl (bR rfl (od _ _) ?_);refine J1 ?_;intro wz9 hS;refine jt ?_;refine dx (k:=0) rfl rfl gN hS rfl rfl ?_;exact⟨rfl,hS.ab⟩
theorem Gh (a b:ZZ) (w:World) (ha:qo a<=4398046511104) (hb:qo b<=4398046511104):
  dj Tryz.prog 175 #[yj a,yj b] w λv w'=>v=yj (lF a b)/\Below w.heap.size w w':=by
 have hS:=St.init w;refine enter Tryz.func175 rfl Tryz.ntmps175 rfl ?_;refine jr ?_;refine jh (bY (new:=dQ a) rfl rfl hS ?_);intro b1 wz2 hS hBz2;refine jh (bY (new:=dQ b) rfl rfl hS ?_);intro b3 wz4 hS hBz4;refine J1 ?_;intro b5 wz6 hS hBz6;refine J4 ?_;refine jp (ub rfl rfl Tryz.underlying4 ?_);refine ja ?_;by_cases hn:a.neg≠b.neg
 ·have e:lF a b=⟨a.neg,a.mag+b.mag⟩:=if_pos hn;rw[e];refine bZ rfl (by simpa using hn) ?_;refine ja ?_;refine bk [jo 0,ju 1,jo 2,ju 3,jo 4,ju 5,jv 6,jo 7,jw 8] kR kR hS ?_;intro wz7 hS hBz7;refine J6 ?_;refine jn rfl (ah Tryz.call74 rfl (Nt a.mag b.mag _ ha hb) ?_);rintro _ wc8 ⟨rfl,hBc8⟩;replace hS:=hS.aG hBc8;refine⟨hBc8,?_⟩;refine jl rfl (bR rfl (od _ _) ?_);refine J1 ?_;intro wz9 hS;refine jt ?_;refine dx (k:=0) rfl rfl gN hS rfl rfl ?_;exact⟨rfl,hS.ab⟩
 refine ct rfl (by simpa using hn) ?_;refine J4 ?_;by_cases hle:b.mag<=a.mag
 ·have e:lF a b=⟨a.neg,a.mag-b.mag⟩:=by unfold lF;rw[if_neg hn,if_pos hle]
  rw[e];refine jh (ah Tryz.call75 rfl (F7 a.mag b.mag _ ha hb hle) ?_);rintro _ wc10 ⟨rfl,hBc10⟩;replace hS:=hS.aG hBc10;refine V6 ?_;refine bZ rfl (rfl) ?_;refine J3 ?_;refine jp (bR rfl (od _ _) ?_);refine J1 ?_;intro wz11 hS;refine jt ?_;refine dx (k:=0) rfl rfl gN hS rfl rfl ?_;exact⟨rfl,hS.ab⟩
 ·have e:lF a b=⟨!a.neg,b.mag-a.mag⟩:=by unfold lF;rw[if_neg hn,if_neg hle]
  rw[e];refine jh (ah Tryz.call75 rfl (Cg a.mag b.mag _ ha hb oO) ?_);rintro _ wc12 ⟨rfl,hBc12⟩;replace hS:=hS.aG hBc12;refine V6 ?_;refine ct rfl (rfl) ?_;refine J4 ?_;refine jh (ah Tryz.call75 rfl (F7 b.mag a.mag _ hb ha oO) ?_);rintro _ wc13 ⟨rfl,hBc13⟩;replace hS:=hS.aG hBc13;refine J9 ?_;refine jp (bR rfl (od _ _) ?_);refine J1 ?_;intro wz14 hS;refine jt ?_;refine dx (k:=0) rfl rfl gN hS rfl rfl ?_;exact⟨rfl,hS.ab⟩
theorem HB (a b:ZZ) (w:World) (ha:qo a<=4398046511104) (hb:qo b<=4398046511104) (h0:b.mag≠0):
  dj Tryz.prog 176 #[yj a,yj b] w λv w'=>v=yj (CK a b)/\Below w.heap.size w w':=by
 have hS:=St.init w;refine enter Tryz.func176 rfl Tryz.ntmps176 rfl ?_;refine jr ?_;refine jh (bY (new:=dQ a) rfl rfl hS ?_);intro b1 wz2 hS hBz2;refine jh (bY (new:=dQ b) rfl rfl hS ?_);intro b3 wz4 hS hBz4;refine J1 ?_;intro b5 wz6 hS hBz6;refine J4 ?_;refine jh (ah Tryz.call68 rfl (BP a.mag b.mag _ ha hb h0) ?_);rintro _ wc7 ⟨rfl,hBc7⟩;replace hS:=hS.aG hBc7;refine Ru ?_;refine jp (ub rfl rfl Tryz.underlying4 ?_);refine J1 ?_;refine jp (bR rfl (od _ _) ?_);refine J1 ?_;intro wz8 hS;refine jt ?_;refine dx (k:=0) rfl rfl gN hS rfl rfl ?_;exact⟨rfl,hS.ab⟩
theorem o4 (q:Rat) (w:World):
  dj Tryz.prog 173 #[cw (aj q)] w λv w'=>v= .string (bB q.den)/\Below w.heap.size w w':=by
 have hS:=St.init w;refine enter Tryz.func173 rfl Tryz.ntmps173 rfl ?_;refine jr ?_;refine jh (bY (new:=ae (aj q)) rfl rfl hS ?_);intro b1 wz2 hS hBz2;refine J3 ?_;refine jp (lL rfl rfl ?_);refine ja ?_;by_cases h:q.den=1
 ·refine bZ rfl (decide_eq_true (by show(if q.den=1 then(⟨#[]⟩:ByteArray)else bB q.den)=_;rw[if_pos h])) ?_;refine jr ?_;refine jh (ah Tryz.call113 rfl (lh 1 _ dD) ?_);rintro _ wc3 ⟨rfl,hBc3⟩;replace hS:=hS.aG hBc3;refine J1 ?_;refine jt ?_;refine bj rfl rfl ?_;exact⟨by rw[h];rfl,hS.ab⟩
 ·have hd:(aj q).den=bB q.den:=if_neg h;refine ct rfl (decide_eq_false (by rw[hd];exact λg=>q.den_nz (fR.1 g))) ?_;refine J3 ?_;refine jt ?_;refine bj rfl rfl ?_;exact⟨congrArg Value.string hd,hS.ab⟩
def ol (q:Nat->Rat):Nat->Nat
 |0=>1
 |j+1=>ol q j*((q j).den/Nat.gcd (ol q j) (q j).den)
theorem u5 (q:Nat->Rat):∀j,0<ol q j
 |0=>Nat.one_pos
 |j+1=>Nat.mul_pos (u5 q j) (Nat.div_pos (Nat.le_of_dvd (q j).den_pos (Nat.gcd_dvd_right _ _)) (Nat.gcd_pos_of_pos_left _ (u5 q j)))
theorem Ln (q:Nat->Rat) (j:Nat):ol q j∣ol q (j+1):=⟨_,rfl⟩
theorem Ms (q:Nat->Rat) (j:Nat):(q j).den∣ol q (j+1):=by
 obtain⟨a,ha⟩:=Nat.gcd_dvd_left (ol q j) (q j).den;have hg:Nat.gcd (ol q j) (q j).den*((q j).den/Nat.gcd (ol q j) (q j).den)=(q j).den:=Nat.mul_div_cancel' (Nat.gcd_dvd_right _ _);refine⟨a,?_⟩;show ol q j*((q j).den/Nat.gcd (ol q j) (q j).den)=_;conv=>lhs;lhs;rw[ha]
 conv=>rhs;lhs;rw[<-hg]
 rw[Nat.mul_assoc,Nat.mul_assoc,Nat.mul_comm a]
theorem Cv (q:Nat->Rat) {i:Nat}:∀ {j:Nat},i<=j->ol q i∣ol q j
 |0,h=>by obtain rfl:i=0:=oO;exact Nat.dvd_refl _
 |j+1,h=>by
  by_cases e:i=j+1
  ·rw[e];exact Nat.dvd_refl _
  ·exact Nat.dvd_trans (Cv q oO) (Ln q j)
theorem K9 (q:Nat->Rat) {j m:Nat} (h:j<m):(q j).den∣ol q m:=Nat.dvd_trans (Ms q j) (Cv q h)
def OU (q:Nat->Rat) (j:Nat):Nat:=(bB (ol q j)).size
theorem Di {q:Nat->Rat} {K m:Nat} (h:∀j,j<m->L (q j)<=K):∀j,j<=m->OU q j<=1+j*K
 |0,_=>by show(bB 1).size<=_;rw[iD];omega
 |j+1,hj=>by
  have ih:=Di h j oO;have h1:=cS (ol q j) ((q j).den/Nat.gcd (ol q j) (q j).den);have h2:=db (Nat.div_le_self (q j).den (Nat.gcd (ol q j) (q j).den));have h3:=lN (q j);have h4:=h j oO;show(bB (ol q j*((q j).den/Nat.gcd (ol q j) (q j).den))).size<=_;unfold OU at ih;rw[Nat.add_mul];omega
def Da (q:Nat->Rat) (m j:Nat):ZZ:=⟨decide ((q j).num<0),(q j).num.natAbs*(ol q m/(q j).den)⟩
theorem MK (b:Bool) (x y:Nat):sg b (x*y)=sg b x*(y:Int):=by
 unfold sg;cases b<;>simp[Int.neg_mul]
theorem KY (q:Nat->Rat) {m j:Nat} (h:j<m):((zv (Da q m j):Int):Rat)=((ol q m:Int):Rat)*q j:=by
 obtain⟨c,hc⟩:=K9 q h;have hd:=(q j).den_pos;have e:ol q m/(q j).den=c:=by rw[hc];exact Nat.mul_div_cancel_left _ hd
 unfold zv Da;rw[e,MK,wY,hc];have hq:q j=((q j).num:Rat)/(((q j).den:Int):Rat):=by
  conv=>lhs;rw[<-Rat.mkRat_self (q j),Rat.mkRat_eq_div]
  rfl
 have hd0:((((q j).den:Nat):Int):Rat)≠0:=λe=>by
  have:=Rat.intCast_inj.1 (show(((q j).den:Int):Rat)=((0:Int):Rat)from e);omega
 conv=>rhs;rhs;rw[hq]
 rw[Int.natCast_mul,Rat.intCast_mul,Rat.intCast_mul,Rat.div_def];have:=Rat.mul_inv_cancel _ hd0;grind
theorem H8 {q:Nat->Rat} {K m j:Nat} (h:∀j,j<m->L (q j)<=K) (hj:j<m):qo (Da q m j)<=K+OU q m:=by
 have h1:=cS (q j).num.natAbs (ol q m/(q j).den);have h2:=db (Nat.div_le_self (ol q m) (q j).den);have h3:=mz (q j);have h4:=h j hj;unfold qo OU;show(bB ((q j).num.natAbs*(ol q m/(q j).den))).size<=_;omega
theorem Ra (n:Nat):rep n [Value.bool false,.string ⟨#[]⟩]=(List.replicate n tI).flatMap dQ:=by
 rw[<-tJ,CF]
def uc (q:Nat->Rat) (m i j:Nat):ZZ:=if j<i then Da q m j else tI
theorem G4 (q:Nat->Rat) (m i:Nat):(aS m (uc q m i)).set i (Da q m i)=aS m (uc q m (i+1)):=by
 rw[eP];refine bA λj _=> ?_;unfold uc;by_cases h:j=i
 ·rw[if_pos h,if_pos oO,h]
 ·rw[if_neg h];by_cases h2:j<i
  ·rw[if_pos h2,if_pos oO]
  ·rw[if_neg h2,if_neg oO]
theorem Au (v:Value) (q:Nat->Rat) (m K:Nat) (w:World) (hv:Sl ae 3 w v (aS m λj=>aj (q j))) (hm:m<=1000) (hL:∀j,j<m->L (q j)<=K) (hK:2000*K+2000<=MX):
  dj Tryz.prog 142 #[v] w λr w'=>(∃b,r= .slice (some ⟨b,0,none⟩) m m/\St w w' [(b,223,(aS m (Da q m)).flatMap dQ)])/\Below w.heap.size w w':=by
 have hM:MX=1099511627776:=rfl;have htl:=ao m λj=>aj (q j);have hget:∀j,j<m->(aS m λj=>aj (q j)).getD j bM=aj (q j):=λj hj=>aV _ _ hj;have hC:∀j,j<=m->OU q j<=1+1000*K:=λj hj=>Nat.le_trans (Di hL j hj) (Nat.add_le_add_left (Nat.mul_le_mul_right _ oO) _);have hS:=St.init w;refine enter Tryz.func142 rfl Tryz.ntmps142 rfl ?_;refine Y1 ?_;refine jh (ah Tryz.call113 rfl (lh 1 _ dD) ?_);rintro _ wc1 ⟨rfl,hBc1⟩;replace hS:=hS.aG hBc1;refine J2 ?_;refine jp (aF rfl (hv.ab hS.ab) ⟨_,Tryz.underlying34⟩ ?_);refine J1 ?_;refine jb ?_;refine aW (λρ w'=>ρ 0=v/\ρ 3= .string (bB (ol q m))/\St w w' []) ?_ ?_
 ·refine ja ?_;refine aQ (σ:=Nat) (λi ρ w'=>i<=m/\ρ 0=v/\ρ 3= .string (bB (ol q i))/\ρ 17=v/\ρ 18=iB m/\ρ 19=iB i/\St w w' []) (λi=>m-i) 0
   ⟨Nat.zero_le _,rfl,rfl,rfl,vi rfl oO,rfl,hS⟩ ?_
  clear hS;rintro i ρ w2 ⟨hi,h0,h3,h17,h18,h19,hS⟩;refine V1 ?_;by_cases hlt:i<m
  ·refine V1 ?_;have hCi:=hC i oO;have hLi:=hL i hlt;have hLd:=lN (q i);unfold OU at hCi;have hgz:=db (Nat.le_of_dvd (q i).den_pos (Nat.gcd_dvd_right (ol q i) (q i).den));have hdz:=db (Nat.div_le_self (q i).den (Nat.gcd (ol q i) (q i).den));have hg0:Nat.gcd (ol q i) (q i).den≠0:=Nat.pos_iff_ne_zero.1 (Nat.gcd_pos_of_pos_left _ (u5 q i));refine jr ?_;refine jp (aH (i:=i) h17 h19 (hv.ab hS.ab) oO dO bJ (jq (aO (i:=i) bM rfl aB (hv.ab hS.ab) dO rfl rfl (.inl rfl) ?_)));refine J1 ?_;intro b5 wz2 hS hBz2;refine J1 ?_;intro wz3 hS;refine ja ?_;rw[hget i hlt]at hS;refine J1 ?_;refine jh (ah Tryz.call173 rfl (o4 (q i) _) ?_);rintro _ wc4 ⟨rfl,hBc4⟩;replace hS:=hS.aG hBc4;refine J4 ?_;refine jh (ah Tryz.call67 rfl (Nb _ _ _ oO oO) ?_);rintro _ wc5 ⟨rfl,hBc5⟩;replace hS:=hS.aG hBc5;refine jh (ah Tryz.call68 rfl (BP _ _ _ oO oO hg0) ?_);rintro _ wc6 ⟨rfl,hBc6⟩;replace hS:=hS.aG hBc6;refine J9 ?_;refine jh (ah Tryz.call30 rfl (oG _ _ _ oO oO) ?_);rintro _ wc7 ⟨rfl,hBc7⟩;replace hS:=hS.aG hBc7;refine V3 ?_;exact⟨i+1,_,rfl,⟨hlt,jY,rfl,jY,jY,vi rfl oO,hS.drop (List.nil_sublist _)⟩,oO⟩
  ·refine J1 ?_;refine jt ?_;obtain rfl:i=m:=oO;exact⟨_,rfl,h0,h3,hS⟩
 clear hS;rintro ρ w2 ⟨h0,h3,hS⟩;refine J1 ?_;refine jp (aF rfl (hv.ab hS.ab) ⟨_,Tryz.underlying34⟩ (jh (tD (n:=m) rfl rfl j3 oO oO oO oO hS ?_)));intro b40 wz8 hS hBz8;refine V1 ?_;replace hS:St w _ [(b40,223,rep m [Value.bool false,.string ⟨#[]⟩])]:=hS;rw[Ra,mW,show(aS m λ_=>tI)=aS m (uc q m 0)from bA λj _=>by unfold uc;rw[if_neg (Nat.not_lt_zero _)]]at hS;refine J1 ?_;refine jp (aF rfl (hv.ab hS.ab) ⟨_,Tryz.underlying34⟩ ?_);refine J1 ?_;refine jb ?_;refine aW (λρ w'=>ρ 10= .slice (some ⟨b40,0,none⟩) m m/\St w w' [(b40,223,(aS m (Da q m)).flatMap dQ)]) ?_ ?_
 ·refine ja ?_;refine aQ (σ:=Nat) (λi ρ w'=>i<=m/\ρ 3= .string (bB (ol q m))/\ρ 10= .slice (some ⟨b40,0,none⟩) m m/\ρ 41=v/\ρ 42=iB m/\ρ 43=iB i/\St w w' [(b40,223,(aS m (uc q m i)).flatMap dQ)]) (λi=>m-i) 0
   ⟨Nat.zero_le _,h3,rfl,rfl,vi rfl oO,rfl,hS⟩ ?_
  clear hS;rintro i ρ w3 ⟨hi,h3,h10,h41,h42,h43,hS⟩;have htf:=ao m (uc q m i);refine V1 ?_;by_cases hlt:i<m
  ·refine V1 ?_;have hCi:=hC m (Nat.le_refl _);have hLi:=hL i hlt;have hLd:=lN (q i);have hLn:=mz (q i);unfold OU at hCi;have hdz:=db (Nat.div_le_self (ol q m) (q i).den);refine J1 ?_;refine jp (aH (i:=i) h41 h43 (hv.ab hS.ab) oO dO bJ (jq (aO (i:=i) bM rfl aB (hv.ab hS.ab) dO rfl rfl (.inl rfl) ?_)));refine J1 ?_;intro b12 wz9 hS hBz9;refine J2 ?_;intro wz10 hS;refine ja ?_;rw[hget i hlt]at hS;refine J2 ?_;refine jh (ah Tryz.call173 rfl (o4 (q i) _) ?_);rintro _ wc11 ⟨rfl,hBc11⟩;replace hS:=hS.aG hBc11;refine jh (ah Tryz.call68 rfl (BP _ _ _ oO oO (q i).den_nz) ?_);rintro _ wc12 ⟨rfl,hBc12⟩;replace hS:=hS.aG hBc12;refine V7 ?_;refine bk [jo 0,jo 1,jo 2,ju 3,jo 4,ju 5,jo 6,jv 7,jo 8,jo 9,jw 10] kR kR hS ?_;intro wz13 hS hBz13;refine J7 ?_;refine jn rfl (ah Tryz.call30 rfl (oG _ _ _ (by show(bB _).size<=_;omega) oO) ?_);rintro _ wc14 ⟨rfl,hBc14⟩;replace hS:=hS.aG hBc14;refine⟨hBc14,?_⟩;refine jl rfl (bR rfl (od _ _) (jl rfl (bn (i:=i) rfl rfl oO dO j3 ?_)));refine jx rfl (sa (k:=1) (i:=i) (enc:=dQ) (Da q m i) (λ_=>rfl) rfl rfl gN hS rfl (by first|omega|simp) dO rfl rfl ?_);intro wz15 hS;refine ja ?_;replace hS:=hS.drop (List.sublist_cons_self _ _);rw[G4]at hS;refine V2 ?_;exact⟨i+1,_,rfl,⟨hlt,jY,jY,jY,jY,vi rfl oO,hS⟩,oO⟩
  ·refine J1 ?_;refine jt ?_;obtain rfl:i=m:=oO;rw[show aS i (uc q i i)=aS i (Da q i)from bA λj hj=>if_pos hj]at hS;exact⟨_,rfl,h10,hS⟩
 clear hS;rintro ρ w3 ⟨h10,hS⟩;refine J2 ?_;refine jt ?_;refine bj rfl rfl ?_;exact⟨⟨_,rfl,hS⟩,hS.ab⟩
abbrev MZ:=Nat->Nat->ZZ
def DJ (f:MZ) (k:Nat) (last:ZZ) (i j:Nat):ZZ:=CK (lF (lB (f k k) (f i j)) (lB (f i k) (f k j))) last
def nK (f:MZ) (k:Nat) (last:ZZ):MZ:=λi j=>if i=k then f k j else if j=k then tI else DJ f k last i j
def pi (f:MZ) (k:Nat) (last:ZZ) (i:Nat):MZ:=λa b=>if a<i then nK f k last a b else f a b
def uq (f:MZ) (k:Nat) (last:ZZ) (i j:Nat):MZ:=λa b=>if a=i/\b<j/\b≠k then DJ f k last i b else pi f k last i a b
theorem Gn {f:MZ} {n m S:Nat} (h:∀i,i<n->∀j,j<m->qo (f i j)<=S) {k i j:Nat} (last:ZZ) (hk:k<n) (hkm:k<m) (hi:i<n) (hj:j<m):qo (DJ f k last i j)<=2*S+1:=by
 have h1:=Ir (lF (lB (f k k) (f i j)) (lB (f i k) (f k j))) last;have h2:=yB (lB (f k k) (f i j)) (lB (f i k) (f k j));have h3:=pK (f k k) (f i j);have h4:=pK (f i k) (f k j);have:=h k hk k hkm;have:=h i hi j hj;have:=h i hi k hkm;have:=h k hk j hj;unfold DJ;omega
theorem D6 {f:MZ} {n m S:Nat} (h:∀i,i<n->∀j,j<m->qo (f i j)<=S) {k:Nat} (last:ZZ) (hk:k<n) (hkm:k<m):∀i,i<n->∀j,j<m->qo (nK f k last i j)<=2*S+1:=by
 intro i hi j hj;unfold nK;split
 ·have:=h k hk j hj;omega
 ·split
  ·rw[JI];omega
  ·exact Gn h last hk hkm hi hj
theorem x9 {R0:List (Rw ZZ)} {n m:Nat} {f:MZ} {w0:World} {bo:Nat} {H:List bQ} (k:Nat) (last:ZZ) (S:Nat) (w:World) (hR0:dA R0 n m f) (hn:n<=1000) (hm:m<=1000) (hk:k<n) (hkm:k<m) (hf:∀i,i<n->∀j,j<m->qo (f i j)<=S) (hls:qo last<=S) (hl0:last.mag≠0) (hK:2*S+2<=MX) (hS:St w0 w (mB dQ 223 220 bo R0 H)):
  dj Tryz.prog 145 #[.slice (some ⟨bo,0,none⟩) n n,.int .i64 k,yj last] w λv w'=>v= .tuple #[]/\∃R',dA R' n m (nK f k last)/\St w0 w' (mB dQ 223 220 bo R' H):=by
 have hM:MX=1099511627776:=rfl;have hlk0:k<R0.length:=by rw[hR0.len];exact hk
 have hxk0:=hR0.ql hk;have hg0:(R0.getD k gn).X.getD k tI=f k k:=hR0.get hk hkm _;refine enter Tryz.func145 rfl Tryz.ntmps145 rfl ?_;refine jr ?_;refine jh (bY (new:=dQ last) rfl rfl hS ?_);intro b5 wz1 hS hBz1;refine ja ?_;replace hS:St w0 _ ([(b5,223,dQ last)]++mB dQ 223 220 bo R0 H):=hS;refine J2 ?_;refine jp (bn (i:=k) rfl rfl oO dO j2 (jq (eJ [_] rfl ku hS oO hlk0 ?_)));refine J1 ?_;refine jp (bn (i:=k) rfl rfl oO dO j3 (jq (ke [_] (i:=k) (j:=k) tI ec rfl gN hS rfl hlk0 oO oO rfl (.inl rfl) ?_)));refine J1 ?_;intro b6 wz2 hS hBz2;refine J1 ?_;intro wz3 hS;refine ja ?_;rw[hg0]at hS;replace hS:St w0 _ ([(b6,223,dQ (f k k)),(b5,223,dQ last)]++mB dQ 223 220 bo R0 H):=hS;refine ja ?_;refine fi (λρ'=>ρ' 0= .slice (some ⟨bo,0,none⟩) n n/\ρ' 1= .int .i64 k/\ρ' 5= .pointer (some ⟨b5,0,none⟩)/\ρ' 6= .pointer (some ⟨b6,0,none⟩)/\True) ⟨rfl,rfl,rfl,rfl,trivial⟩ ?_;rintro ρk4 ⟨hk4_0,hk4_1,hk4_5,hk4_6,-⟩;refine J3 ?_;refine jb ?_;refine aW (λρ w'=>∃R,dA R n m (pi f k last n)/\St w0 w' ([(b6,223,dQ (f k k)),(b5,223,dQ last)]++mB dQ 223 220 bo R H)) ?_ ?_
 ·refine ja ?_;refine aQ (σ:=Nat) (λi ρ w'=>i<=n/\ρ 0= .slice (some ⟨bo,0,none⟩) n n/\ρ 1=iB k/\ρ 5=pB b5/\ρ 6=pB b6/\ρ 18= .slice (some ⟨bo,0,none⟩) n n/\ρ 19=iB n/\ρ 20=iB i/\
   ∃R,dA R n m (pi f k last i)/\St w0 w' ([(b6,223,dQ (f k k)),(b5,223,dQ last)]++mB dQ 223 220 bo R H)) (λi=>n-i) 0
   ⟨Nat.zero_le _,jY,jY,jY,jY,rfl,rfl,rfl,R0,hR0.congr λa _ b _=>(if_neg (Nat.not_lt_zero _)).symm,hS⟩ ?_
  clear hS hlk0 hxk0 hg0;rintro i ρ w2 ⟨hi,h0,h1,h5,h6,h18,h19,h20,R,hR,hS⟩;refine V1 ?_;by_cases hlt:i<n
  ·refine V1 ?_;have hli:i<R.length:=by rw[hR.len];exact hlt
   have hlk:k<R.length:=by rw[hR.len];exact hk
   have hxi:=hR.ql hlt;have hrow:∀b,b<m->pi f k last i i b=f i b:=λb _=>if_neg (Nat.lt_irrefl _);have hrowk:∀b,b<m->pi f k last i k b=f k b:=λb _=>by
    unfold pi nK;split
    ·rw[if_pos rfl]
    ·rfl
   refine J1 ?_;refine jp (bn (i:=i) h18 h20 oO dO j2 (jq (eJ [_,_] rfl ku hS oO hli ?_)));refine V5 ?_;by_cases hik:i=k
   ·refine V3 ?_;refine⟨i+1,_,rfl,⟨hlt,jY,jY,jY,jY,jY,jY,vi rfl oO,R,hR.congr λa _ b hb=> ?_,hS⟩,oO⟩;by_cases e:a=i
    ·rw[e,hrow b hb];unfold pi nK;rw[if_pos oO,if_pos hik,hik]
    ·unfold pi;by_cases e2:a<i
     ·rw[if_pos e2,if_pos oO]
     ·rw[if_neg e2,if_neg oO]
   ·refine V1 ?_;have hgi:(R.getD i gn).X.getD k tI=f i k:=by rw[hR.get hlt hkm];exact hrow k hkm
    refine J2 ?_;refine jp (bn (i:=k) rfl rfl oO dO j3 (jq (ke [_,_] (i:=i) (j:=k) tI ec rfl gN hS rfl hli oO oO rfl (.inl rfl) ?_)));refine J1 ?_;intro b9 wz5 hS hBz5;refine J1 ?_;intro wz6 hS;refine ja ?_;rw[hgi]at hS;replace hS:St w0 _ ([(b9,223,dQ (f i k)),(b6,223,dQ (f k k)),(b5,223,dQ last)]++mB dQ 223 220 bo R H):=hS;obtain⟨bi,hbi⟩:=jz ((R.getD i gn).b);obtain⟨ci,hci⟩:=jz ((R.getD i gn).cap);have hvi:=hR.v hlt;rw[<-hbi,<-hci]at hvi;rw[hvi];refine ja ?_;refine fi (λρ'=>ρ' 0= .slice (some ⟨bo,0,none⟩) n n/\ρ' 1= .int .i64 k/\ρ' 5= .pointer (some ⟨b5,0,none⟩)/\ρ' 6= .pointer (some ⟨b6,0,none⟩)/\ρ' 8= .slice (some ⟨bi,0,none⟩) m ci/\ρ' 9= .pointer (some ⟨b9,0,none⟩)/\ρ' 18= .slice (some ⟨bo,0,none⟩) n n/\ρ' 19= .int .i64 n/\ρ' 20= .int .i64 i/\True) ⟨h0,h1,h5,h6,rfl,rfl,h18,h19,h20,trivial⟩ ?_;rintro ρk7 ⟨hk7_0,hk7_1,hk7_5,hk7_6,hk7_8,hk7_9,hk7_18,hk7_19,hk7_20,-⟩;refine J3 ?_;refine jb ?_;refine aW (λρ w'=>ρ 0= .slice (some ⟨bo,0,none⟩) n n/\ρ 1=iB k/\ρ 5=pB b5/\ρ 6=pB b6/\ρ 8= .slice (some ⟨bi,0,none⟩) m ci/\ρ 18= .slice (some ⟨bo,0,none⟩) n n/\ρ 19=iB n/\ρ 20=iB i/\
     ∃R,(R.getD i gn).b=bi/\dA R n m (uq f k last i m)/\St w0 w' ([(b6,223,dQ (f k k)),(b5,223,dQ last)]++mB dQ 223 220 bo R H)) ?_ ?_
    ·refine ja ?_;refine aQ (σ:=Nat) (λj ρ w'=>j<=m/\ρ 0= .slice (some ⟨bo,0,none⟩) n n/\ρ 1=iB k/\ρ 5=pB b5/\ρ 6=pB b6/\ρ 8= .slice (some ⟨bi,0,none⟩) m ci/\ρ 9=pB b9/\ρ 18= .slice (some ⟨bo,0,none⟩) n n/\ρ 19=iB n/\ρ 20=iB i/\ρ 33=iB m/\ρ 34=iB j/\
      ∃R,(R.getD i gn).b=bi/\dA R n m (uq f k last i j)/\St w0 w' ([(b9,223,dQ (f i k)),(b6,223,dQ (f k k)),(b5,223,dQ last)]++mB dQ 223 220 bo R H)) (λj=>m-j) 0
      ⟨Nat.zero_le _,jY,jY,jY,jY,jY,jY,jY,jY,jY,rfl,rfl,R,hbi.symm,hR.congr λa _ b _=>(if_neg oO).symm,hS⟩ ?_
     clear hS hli hlk hxi hgi hbi hci hvi hR;rintro j ρ w3 ⟨hj,h0,h1,h5,h6,h8,h9,h18,h19,h20,h33,h34,R,hb,hR,hS⟩;have hli:i<R.length:=by rw[hR.len];exact hlt
     have hlk:k<R.length:=by rw[hR.len];exact hk
     have hxi:=hR.ql hlt;have hxk:=hR.ql hk;refine V1 ?_;by_cases hjl:j<m
     ·refine V6 ?_;by_cases hjk:j=k
      ·refine V3 ?_;refine⟨j+1,_,rfl,⟨hjl,jY,jY,jY,jY,jY,jY,jY,jY,jY,jY,vi rfl oO,R,hb,hR.congr λa _ b _=> ?_,hS⟩,oO⟩;unfold uq;by_cases e:a=i/\b<j/\b≠k
       ·rw[if_pos e,if_pos oO]
       ·rw[if_neg e,if_neg oO]
      ·refine V1 ?_;have hgi:(R.getD i gn).X.getD j tI=f i j:=by
        rw[hR.get hlt hjl];unfold uq;rw[if_neg oO];exact hrow j hjl
       have hgk:(R.getD k gn).X.getD j tI=f k j:=by
        rw[hR.get hk hjl];unfold uq;rw[if_neg oO];exact hrowk j hjl
       have q1:=hf k hk k hkm;have q2:=hf i hlt j hjl;have q3:=hf i hlt k hkm;have q4:=hf k hk j hjl;have t1:=pK (f k k) (f i j);have t2:=pK (f i k) (f k j);have t3:=yB (lB (f k k) (f i j)) (lB (f i k) (f k j));refine ja ?_;refine bk [jo 0,jo 1,ju 2,jo 3,jo 4,jo 5,ju 6,ju 8,jo 9,jo 10,jo 11,ju 12,jo 13,jo 14,ju 15,ju 18,jv 7,jv 16,jv 17,jv 19,jo 20,jw 21] kR kR hS ?_;intro wz8 hS hBz8;refine J5 ?_;refine jl rfl (bn (i:=j) rfl rfl oO dO j3 (jm rfl (ke [_,_,_] (i:=i) (j:=j) tI ec rfl gN hS hb hli oO oO rfl (.inl rfl) ?_)));refine J3 ?_;refine jl rfl (bn (i:=k) rfl rfl oO dO j2 (jm rfl (eJ [_,_,_] rfl ku hS oO hlk ?_)));refine J1 ?_;refine jl rfl (bn (i:=j) rfl rfl oO dO j3 (jm rfl (ke [_,_,_] (i:=k) (j:=j) tI ec rfl gN hS rfl hlk oO oO rfl (.inl rfl) ?_)));refine J1 ?_;rw[hgi,hgk];refine jn rfl (ah Tryz.call174 rfl (yU (f k k) (f i j) _ oO oO) ?_);rintro _ wc9 ⟨rfl,hBc9⟩;replace hS:=hS.aG hBc9;refine⟨hBc9,?_⟩;refine jn rfl (ah Tryz.call174 rfl (yU (f i k) (f k j) _ oO oO) ?_);rintro _ wc10 ⟨rfl,hBc10⟩;replace hS:=hS.aG hBc10;refine⟨hBc10,?_⟩;refine jn rfl (ah Tryz.call175 rfl (Gh _ _ _ oO oO) ?_);rintro _ wc11 ⟨rfl,hBc11⟩;replace hS:=hS.aG hBc11;refine⟨hBc11,?_⟩;refine jn rfl (ah Tryz.call176 rfl (HB _ last _ oO oO hl0) ?_);rintro _ wc12 ⟨rfl,hBc12⟩;replace hS:=hS.aG hBc12;refine⟨hBc12,?_⟩;refine jl rfl (bn (i:=j) rfl rfl oO dO j3 (jx rfl (qJ [_,_,_] (i:=i) (j:=j) (DJ f k last i j) ec rfl rfl gN hS hb hli oO oO rfl rfl ?_)));intro wz13 hS;refine V2 ?_;refine⟨j+1,_,rfl,⟨hjl,jY,jY,jY,jY,jY,jY,jY,jY,jY,jY,vi rfl oO,_,?_,(hR.put hlt j (DJ f k last i j)).congr λa _ b _=> ?_,hS⟩,oO⟩
       ·rw[eZ _ _ _ hli,if_pos rfl];exact hb
       ·unfold uq;by_cases e:a=i/\b=j
        ·rw[if_pos e,if_pos oO,e.2]
        ·rw[if_neg e];by_cases e2:a=i/\b<j/\b≠k
         ·rw[if_pos e2,if_pos oO]
         ·rw[if_neg e2,if_neg oO]
     ·refine J1 ?_;refine jt ?_;obtain rfl:j=m:=oO;exact⟨_,rfl,h0,h1,h5,h6,h8,h18,h19,h20,R,hb,hR,hS.drop (List.sublist_cons_self _ _)⟩
    clear hS hli hlk hxi hgi hbi hci hvi hR;rintro ρ w3 ⟨h0,h1,h5,h6,h8,h18,h19,h20,R,hb,hR,hS⟩;have hli:i<R.length:=by rw[hR.len];exact hlt
    have hxi:=hR.ql hlt;refine J2 ?_;refine jp (bR rfl OZ (jp (bn (i:=k) rfl rfl oO dO j3 (jh (qJ [_,_] (i:=i) (j:=k) tI ec rfl rfl gN hS hb hli oO oO (by rw[tJ];rfl) (by rw[tJ];rfl) ?_)))));intro wz14 hS;refine V2 ?_;refine⟨i+1,_,rfl,⟨hlt,jY,jY,jY,jY,jY,jY,vi rfl oO,_,(hR.put hlt k tI).congr λa _ b hb'=> ?_,hS⟩,oO⟩;by_cases e:a=i
    ·by_cases e2:b=k
     ·rw[if_pos ⟨e,e2⟩];unfold pi nK;rw[if_pos oO,if_neg oO,if_pos e2]
     ·rw[if_neg (λq=>e2 q.2)];unfold uq pi nK;rw[if_pos ⟨e,hb',e2⟩,if_pos oO,if_neg oO,if_neg e2,e]
    ·rw[if_neg (λq=>e q.1)];unfold uq pi;rw[if_neg (λq=>e q.1)];by_cases e2:a<i
     ·rw[if_pos e2,if_pos oO]
     ·rw[if_neg e2,if_neg oO]
  ·refine J1 ?_;refine jt ?_;obtain rfl:i=n:=oO;exact⟨_,rfl,R,hR,hS⟩
 clear hS;rintro ρ w2 ⟨R,hR,hS⟩;refine ja ?_;exact iS rfl ⟨rfl,R,hR.congr λa ha b _=>if_pos ha,(hS.drop (List.sublist_cons_self _ _)).drop (List.sublist_cons_self _ _)⟩
def ys (A:List (List RR)) (B:List RR):Mx:=λi j=>if j<A.length then RM A i j else if j=A.length then VX B i else 0
def Hm (A:List (List RR)) (B:List RR):Rd:=cI A.length (ys A B) A.length
def Fs (A:List (List RR)) (B:List RR):Int:=if JJ A≠0 then JJ A else if B.length≠A.length then 4 else if(Hm A B).P.length=A.length then 0 else 5
def KO (A:List (List RR)) (B:List RR):List RR:=if Fs A B=0 then aS A.length λi=>aj ((Hm A B).M i A.length)else []
def Pr (q:Nat->Nat->Rat) (m:Nat):MZ:=λi j=>Da (q i) m j
def Ho (q:Nat->Nat->Rat) (m:Nat):Mx:=λi j=>if j<m then((zv (Pr q m i j):Int):Rat)else 0
theorem Hg (q:Nat->Nat->Rat) (m:Nat):oa (Ho q m):=λi j=>by
 unfold Ho;split
 ·exact⟨_,rfl⟩
 ·exact⟨0,rfl⟩
theorem Fi (q:Nat->Rat) (m:Nat):((ol q m:Int):Rat)≠0:=λe=>by
 have h:=u5 q m;have:(ol q m:Int)=0:=Rat.intCast_inj.1 e;omega
theorem tN {q:Nat->Nat->Rat} {m:Nat} (h0:∀i j,m<=j->q i j=0) (i j:Nat):Ho q m i j=((ol (q i) m:Int):Rat)*q i j:=by
 unfold Ho;by_cases h:j<m
 ·rw[if_pos h];exact KY (q i) h
 ·rw[if_neg h,h0 i j oO,Rat.mul_zero]
theorem MS (A:List (List RR)) (B:List RR):∀i j,A.length+1<=j->ys A B i j=0:=λi j h=>by
 unfold ys;rw[if_neg oO,if_neg oO]
theorem Ig {n m:Nat} {q:Mx} (h0:∀i j,m<=j->q i j=0) (k:Nat):(cI n (Ho q m) k).P.length=k↔(cI n q k).P.length=k:=by
 constructor
 ·intro h;refine(oe (A:=Ho q m) (B:=q) (c:=λi=>((ol (q i) m:Int):Rat)⁻¹) (λi _ e=> ?_) (λi _ j=> ?_) k h).1
  ·have:=Rat.mul_inv_cancel _ (Fi (q i) m);rw[e,Rat.mul_zero]at this;exact absurd this dD
  ·have:=Rat.mul_inv_cancel _ (Fi (q i) m);rw[tN h0];grind
 ·intro h;exact(oe (A:=q) (B:=Ho q m) (c:=λi=>((ol (q i) m:Int):Rat)) (λi _=>Fi (q i) m) (λi _ j=>tN h0 i j) k h).1
theorem Ge {n m:Nat} {q:Mx} (h0:∀i j,m<=j->q i j=0) (h:(cI n q n).P.length=n):∀i,i<n->∀j,(cI n (Ho q m) n).M i j=(cI n q n).M i j:=by
 obtain⟨_,c',_,e⟩:=oe (A:=q) (B:=Ho q m) (c:=λi=>((ol (q i) m:Int):Rat)) (λi _=>Fi (q i) m) (λi _ j=>tN h0 i j) n h;intro i hi j;rw[e i hi j,if_pos hi,Rat.one_mul]
theorem yY {n:Nat} {A:Mx}:∀d k,k+d=n->(cI n A n).P.length=n->(cI n A k).P.length=k
 |0,k,h,hf=>by obtain rfl:k=n:=oO;exact hf
 |d+1,k,h,hf=>(po (yY d (k+1) oO hf)).1
theorem G7 {n k:Nat} {A:Mx} (hk:k<n) (hp:¬pv (cI n A k).M k n k<n):(cI n A n).P.length≠n:=λhf=>hp (po (yY (n-(k+1)) (k+1) oO hf)).2
theorem LA {x y:Bool} {a b:Nat} (hb:b≠0):mkRat (sg (x !=y) a) b=((sg x a:Int):Rat)/((sg y b:Int):Rat):=by
 have h0:((b:Int):Rat)≠0:=λe=>hb (by have:=Rat.intCast_inj.1 (show((b:Int):Rat)=((0:Int):Rat)from e);omega);have hi:=Rat.mul_inv_cancel _ h0;have hn:(-((b:Int):Rat))≠0:=λe=>h0 (by grind);have hi2:=Rat.mul_inv_cancel _ hn;have he:(-((b:Int):Rat))⁻¹ = -((b:Int):Rat)⁻¹ :=by grind
 rw[Rat.mkRat_eq_div];have hbb:((b:Nat):Rat)=((b:Int):Rat):=rfl;unfold sg;rw[hbb];cases x<;>cases y<;>simp only[bne_self_eq_false,Bool.false_eq_true,if_false,if_true,Bool.bne_false,Bool.bne_true,Bool.not_false,Rat.intCast_neg,Rat.div_def,he]<;>grind
theorem GE (p k:Nat) (vr:Value) (l:List ZZ) (w:World) (hp:At w ⟨p,0,none⟩ [.int .i64 k]) (hr:Sl dQ 2 w vr l) (hk:k<l.length):
  dj Tryz.prog 144 #[vr,.pointer (some ⟨p,0,none⟩)] w λv w'=>v= .bool (decide ((l.getD k tI).mag≠0))/\Below w.heap.size w w':=by
 have hS:=St.init w;refine enter Tryz.func144 rfl Tryz.ntmps144 rfl ?_;refine J2 ?_;refine jq (iQ (cs:=[.int .i64 k]) rfl eI (hp.ab hS.ab) rfl rfl (.inr rfl) (jp (aH (i:=k) rfl rfl (hr.ab hS.ab) oO dO j3 ?_)));refine jp (fL rfl (dZ (hr.ab hS.ab) (λ_=>rfl) dD dO) pz ?_);refine jq (fJ (i:=k) (off:=1) tI rfl mO (hr.ab hS.ab) (λ_=>rfl) dD dO rfl rfl (.inr rfl) ?_);refine jp (oM rfl rfl ?_);refine J1 ?_;refine jt ?_;refine bj rfl rfl ?_;exact⟨congrArg Value.bool (decide_eq_decide.2 (not_congr fR)),hS.ab⟩
def yi (pr:Nat->Bool):Nat->Nat->Int
 |0,_=> -1
 |d+1,i=>if pr i=true then i else yi pr d (i+1)
theorem Gy (p k n m:Nat) (v:Value) (vs:List Value) (f:MZ) (w:World) (hp:At w ⟨p,0,none⟩ [.int .i64 k]) (hv:Sl lj 1 w v vs) (hn:vs.length=n) (hr:∀i,i<n->Sl dQ 2 w (vs.getD i undef) (aS m (f i))) (hk:k<m):
  dj Tryz.prog 143 #[v,.func (.func 144) #[] #[.pointer (some ⟨p,0,none⟩)]] w λr w'=>r= .int .i64 (yi (λi=>decide ((f i k).mag≠0)) n 0)/\Below w.heap.size w w':=by
 have hmx:=hv.maxLen;have hS:=St.init w;refine enter Tryz.func143 rfl Tryz.ntmps143 rfl ?_;refine J2 ?_;refine jp (aF rfl (hv.ab hS.ab) ⟨_,Tryz.underlying218⟩ ?_);refine J1 ?_;refine jb ?_;refine aW (λρ w'=>yi (λi=>decide ((f i k).mag≠0)) n 0= -1/\St w w' []) ?_ ?_
 ·refine ja ?_;refine aQ (σ:=Nat) (λi ρ w'=>i<=n/\yi (λi=>decide ((f i k).mag≠0)) n 0=yi (λi=>decide ((f i k).mag≠0)) (n-i) i/\ρ 0=v/\ρ 1= .func (.func 144) #[] #[.pointer (some ⟨p,0,none⟩)]/\ρ 7=iB n/\ρ 8=iB i/\St w w' []) (λi=>n-i) 0
   ⟨Nat.zero_le _,rfl,rfl,rfl,vi rfl oO,rfl,hS⟩ ?_
  clear hS;rintro i ρ w2 ⟨hi,hf,h0,h1,h7,h8,hS⟩;refine V1 ?_;by_cases hlt:i<n
  ·refine V1 ?_;obtain⟨d,hd⟩:∃d,n-i=d+1:=⟨n-i-1,oO⟩;have hg:(aS m (f i)).getD k tI=f i k:=aV _ _ hk;refine J5 ?_;refine jp (aH (i:=i) rfl rfl (hv.ab hS.ab) oO dO j2 (jq (aO (i:=i) undef rfl ku (hv.ab hS.ab) dO rfl rfl (.inr rfl) (jh (sP Tryz.call144 rfl rfl (GE p k _ (aS m (f i)) _ (hp.ab hS.ab) ((hr i hlt).ab hS.ab) (by rw[ao];exact hk)) ?_)))));rintro r w3 ⟨rfl,hB3⟩;replace hS:=hS.aG hB3;rw[hg];refine ja ?_;by_cases hne:(f i k).mag≠0
   ·refine bZ rfl (decide_eq_true hne) ?_;refine ja ?_;have e:yi (λi=>decide ((f i k).mag≠0)) n 0=i:=by
     rw[hf,hd];show(if decide ((f i k).mag≠0)=true then(i:Int)else _)=i;rw[if_pos (decide_eq_true hne)]
    rw[e];refine J2 ?_;refine jt ?_;refine bj rfl rfl ?_;exact⟨rfl,hS.ab⟩
   ·refine ct rfl (decide_eq_false hne) ?_;refine V2 ?_;refine⟨i+1,_,rfl,⟨hlt,?_,jY,jY,jY,vi rfl oO,hS⟩,oO⟩;rw[hf,hd];show(if decide ((f i k).mag≠0)=true then(i:Int)else yi _ d (i+1))=_;rw[if_neg (by rw[decide_eq_false hne];decide),show n-(i+1)=d by omega]
  ·refine J1 ?_;refine jt ?_;obtain rfl:n=i:=oO;rw[Nat.sub_self]at hf;exact⟨_,rfl,hf,hS⟩
 clear hS;rintro ρ w2 ⟨he,hS⟩;refine ja ?_;rw[he];refine J1 ?_;refine jt ?_;refine bj rfl rfl ?_;exact⟨rfl,hS.ab⟩
theorem jA {P:Program} {N:Nat} {ρ:Nat->Value} {w:World} {o:Oper} {K:Value->World->Prop} (h:jP P N ρ w o λv=>Below w.heap.size w w/\K v w):gZ P N ρ w o λv w'=>Below w.heap.size w w'/\K v w':=by
 obtain⟨v,hr,hk⟩:=h;exact fK (hr w (Below.refl _ _)) hk
theorem Pp {A:List (List RR)} {B:List RR} {i:Nat}:RM [aS A.length (qM (RM A) i)++[B.getD i bM]] 0=λj=>if j<A.length then RM A i j else if j=A.length then VX B i else 0:=by
 funext j;have htl:=ao A.length (qM (RM A) i);show toQ ((aS A.length (qM (RM A) i)++[B.getD i bM]).getD j bM)=_;by_cases h:j<A.length
 ·rw[if_pos h,List.getD_eq_getElem?_getD,List.getElem?_append_left oO,<-List.getD_eq_getElem?_getD,aV _ _ h];exact toQ_ofQ _
 ·rw[if_neg h,List.getD_eq_getElem?_getD,List.getElem?_append_right oO,htl];by_cases h2:j=A.length
  ·rw[if_pos h2,h2,Nat.sub_self];rfl
  ·rw[if_neg h2,List.getElem?_eq_none (by simp;omega)];exact KT
theorem Mp (A:List (List RR)) (B:List RR) (i:Nat):ys A B i=RM [aS A.length (qM (RM A) i)++[B.getD i bM]] 0:=Pp.symm
theorem PN {A:List (List RR)} {B:List RR} {K i:Nat} (hB:Hf K A) (hBB:RB K B) (hi:i<A.length) (hiB:i<B.length) (hev:(A.getD i []).length=A.length):∀j,j<A.length+1->L (ys A B i j)<=K:=by
 intro j hj;unfold ys;by_cases h:j<A.length
 ·rw[if_pos h];exact Hl hB hi oO
 ·rw[if_neg h,if_pos oO];exact Nat.le_trans (nN _) (hBB _ (bC B i bM hiB))
def SS (S:Nat):Nat->Nat
 |0=>S
 |k+1=>2*SS S k+1
theorem Nj (S:Nat):∀k,SS S k+1=2^k*(S+1)
 |0=>by show S+1=_;rw[Nat.pow_zero,Nat.one_mul]
 |k+1=>by
  have ih:=Nj S k;show 2*SS S k+1+1=_;rw[Nat.pow_succ,Nat.mul_comm (2^k) 2,Nat.mul_assoc,<-ih];omega
theorem Qu {S k:Nat} (hk:k<=16):SS S k+1<=65536*(S+1):=by
 rw[Nj];exact Nat.mul_le_mul_right _ (Nat.le_trans (Nat.pow_le_pow_right dD hk) dD)
theorem OQ {n m k:Nat} {B:Mx} {f:MZ} (h:BH n m B k λi j=>zv (f i j)) (hk:(cI n B k).P.length=k) (hkm:k<m) (i:Nat) (hi:i<n):(f i k).mag≠0↔(cI n B k).M i k≠0:=by
 have e:=Hx h hk hi hkm;exact not_congr (Kv.symm.trans e)
theorem Fh (g:MZ) (k:Nat) (last:ZZ) (i j:Nat):zv (nK g k last i j)=zj (λi j=>zv (g i j)) k (zv last) i j:=by
 unfold nK zj DJ;by_cases h:i=k
 ·rw[if_pos h,if_pos h]
 ·rw[if_neg h,if_neg h];by_cases h2:j=k
  ·rw[if_pos h2,if_pos h2];rfl
  ·rw[if_neg h2,if_neg h2,KH,Jc,Cp,Cp]
def BU (f:MZ) (k p:Nat):MZ:=λi j=>if i=p then f k j else if i=k then f p j else f i j
theorem OX (f:MZ) (k p:Nat):(λi j=>zv (BU f k p i j))=D9 (λi j=>zv (f i j)) k p:=by
 funext i j;unfold BU D9;by_cases h:i=p
 ·rw[if_pos h];by_cases h2:i=k
  ·rw[if_pos h2,<-h2,h]
  ·rw[if_neg h2,if_pos h]
 ·rw[if_neg h];by_cases h2:i=k
  ·rw[if_pos h2,if_pos h2]
  ·rw[if_neg h2,if_neg h2,if_neg h]
theorem GX {f:MZ} {n m S k p:Nat} (hk:k<n) (hp:p<n) (h:∀i,i<n->∀j,j<m->qo (f i j)<=S):∀i,i<n->∀j,j<m->qo (BU f k p i j)<=S:=by
 intro i hi j hj;unfold BU;split
 ·exact h k hk j hj
 ·split
  ·exact h p hp j hj
  ·exact h i hi j hj
def oF (g:Nat->Rat) (i a:Nat):Rat:=if a<i then g a else 0
theorem Oy (g:Nat->Rat) (n i:Nat):(aS n λa=>aj (oF g i a)).set i (aj (g i))=aS n λa=>aj (oF g (i+1) a):=by
 rw[sh];refine bA λa _=> ?_;unfold oF;by_cases h:a=i
 ·rw[if_pos h,if_pos oO,h]
 ·rw[if_neg h];by_cases h2:a<i
  ·rw[if_pos h2,if_pos oO]
  ·rw[if_neg h2,if_neg oO]
theorem MD (g:Nat->Rat) (n:Nat):List.replicate n bM=aS n λa=>aj (oF g 0 a):=by
 rw[mW];refine bA λa _=> ?_;unfold oF;rw[if_neg (Nat.not_lt_zero _),gm];rfl
theorem Mc {α:Type} (z a b:α) (L D:List α):(z::a::b::(L++D)).Perm (a::b::(L++[z]++D)):=by
 have h1:(z::a::b::(L++D)).Perm (a::b::z::(L++D)):=(List.Perm.swap a z _).trans (List.Perm.cons _ (List.Perm.swap b z _));refine h1.trans (List.Perm.cons _ (List.Perm.cons _ ?_));rw[List.append_assoc];exact List.perm_middle.symm
theorem H7 {α:Type} (z a b:α) (L D:List α):(a::b::(L++z::D)).Perm (a::b::(L++D)++[z]):=by
 refine List.Perm.cons _ (List.Perm.cons _ ?_);exact List.perm_middle.trans (List.perm_append_singleton _ _).symm
theorem MV {R:List (Rw RR)} {n m:Nat} {f:Nat->Nat->RR} (hR:dA R n m f) (hF:zG R) {i:Nat} (hi:i<n) (t:TypeId):Gl ae t 3 (R.getD i gn).v (aS m (f i)) [(R.getD i gn).qj ae t]:=by
 have hl:i<R.length:=by rw[hR.len];exact hi
 have hf:=hF _ (bC R i gn hl);obtain⟨hc1,hc2⟩:=hR.cap i hi;have hr:=hR.row i hi;have htl:=ao m (f i);refine⟨cQ aK _,.inr ⟨(R.getD i gn).b,(R.getD i gn).cap,(R.getD i gn).sp,?_,?_,?_,?_,?_⟩⟩
 ·rw[hR.v hi,htl]
 ·rw[<-hr];rfl
 ·rw[htl];exact hc1
 ·unfold Go.maxLen;omega
 ·rw[<-hr];exact hf
theorem Ha (v vb_:Value) (A:List (List RR)) (vs:List Value) (B:List RR) (K:Nat) (w:World) (hA:kj ae 3 w v A vs) (hBv:Sl ae 3 w vb_ B) (hB:Hf K A) (hBB:RB K B) (hK:200000000*K+300000000<=MX):
  dj Tryz.prog 106 #[v,vb_] w λr w'=>(∃v',r= .tuple #[v',.int .i64 (Fs A B)]/\Sl ae 3 w' v' (KO A B))/\Below w.heap.size w w':=by
 have hM:MX=1099511627776:=rfl;have hno:Fs A B≠0->KO A B=[]:=λh=>if_neg h;have hS:=St.init w;have hlen:=hA.len;have hmx:=hBv.maxLen;refine enter Tryz.func106 rfl Tryz.ntmps106 rfl ?_;refine J3 ?_;refine jh (ah Tryz.call140 rfl (DC v A vs _ (hA.ab hS.ab)) ?_);rintro _ wc1 ⟨rfl,hBc1⟩;replace hS:=hS.aG hBc1;refine V3 ?_;by_cases he:JJ A≠0
 ·have e1:Fs A B=JJ A:=if_pos he;refine J4 ?_;refine jt ?_;refine j6 rfl rfl rfl ?_;refine⟨⟨_,by rw[e1];rfl,?_⟩,hS.ab⟩;rw[hno (by rw[e1];exact he)];exact Sl.nil _ _ _
 replace he:=Decidable.not_not.1 he;obtain⟨hs0,hsq⟩:=JL he;obtain⟨h1,h2,h3,h4,h5⟩:=pJ hs0;refine J2 ?_;refine jp (aF rfl (hA.sl.ab hS.ab) ⟨_,Tryz.underlying35⟩ ?_);refine J2 ?_;refine jp (aF rfl (hBv.ab hS.ab) ⟨_,Tryz.underlying34⟩ ?_);refine V2 ?_;by_cases hx:B.length≠A.length
 ·have e1:Fs A B=4:=by unfold Fs;rw[if_neg oO,if_pos hx]
  refine J3 ?_;refine jt ?_;refine j6 rfl rfl rfl ?_;refine⟨⟨_,by rw[e1];rfl,?_⟩,hS.ab⟩;rw[hno (by rw[e1];decide)];exact Sl.nil _ _ _
 replace hx:=Decidable.not_not.1 hx;refine V1 ?_;rw[hlen];have e1:Fs A B=if(Hm A B).P.length=A.length then 0 else 5:=by unfold Fs;rw[if_neg oO,if_neg oO]
 obtain⟨n,hn⟩:=jz A.length;rw[<-hn]at h1 h2 h5 hx e1 hsq⊢;rw[<-hsq]at h5;have hAL:∀i,i<n->∀j,j<n+1->L (ys A B i j)<=K:=λi hi=>by
  rw[hn];exact PN hB hBB oO oO (by rw[h5 i hi,hn])
 have haug:∀i,ys A B i=RM [aS n (qM (RM A) i)++[B.getD i bM]] 0:=λi=>by rw[hn];exact Mp A B i
 have hout:∀i j,n+1<=j->ys A B i j=0:=by rw[hn];exact MS A B
 have hslD:Hm A B=cI n (ys A B) n:=by rw[hn];rfl
 have hslL:Fs A B=0->KO A B=aS n λi=>aj ((cI n (ys A B) n).M i n):=λh=>by rw[hn];exact if_pos h
 rw[hslD]at e1;obtain⟨q,hq⟩:=jz (ys A B);rw[<-hq]at hAL haug hout e1 hslL;refine J1 ?_;refine jh (tD (n:=n) rfl rfl j2 oO oO oO oO hS ?_);intro bw wz2 hS hBz2;refine V1 ?_;replace hS:St w _ [(bw,220,rep n [aw])]:=hS;rw[Ah]at hS;refine ja ?_;refine fi (λρ'=>ρ' 0=v/\ρ' 1=vb_/\ρ' 7= .int .i64 n/\ρ' 8= .slice (some ⟨bw,0,none⟩) n n/\True) ⟨rfl,rfl,rfl,rfl,trivial⟩ ?_;rintro ρk3 ⟨hk3_0,hk3_1,hk3_7,hk3_8,-⟩;refine J1 ?_;refine jh (ah Tryz.call141 rfl (ti v A vs n K _ (hA.ab hS.ab) oO oO h1 oO (by rw[<-hn];exact h5) hB oO) ?_);rintro r w2 ⟨⟨bc,RC,rfl,hRC,hFC,hS2⟩,hB2⟩;rw[<-hn]at hRC⊢;replace hS:=hS.join hS2;clear hS2;rw[z5]at hS;refine J2 ?_;refine jb ?_;replace hS:St w _ ((bc,34,RC.map Rw.v)::(bw,220,([]:List (Rw ZZ)).map Rw.v++List.replicate (n-0) aw)::(([]:List (Rw ZZ)).map (Rw.qj dQ 223)++(RC.drop 0).map (Rw.qj ae 32))):=hS.perm (List.Perm.cons _ (List.perm_append_singleton _ _));refine aW (λρ w'=>ρ 7=iB n/\ρ 8= .slice (some ⟨bw,0,none⟩) n n/\∃RW,dA RW n (n+1) (Pr q (n+1))/\St w w' (mB dQ 223 220 bw RW [])) ?_ ?_
 ·refine ja ?_;refine aQ (σ:=Nat) (λi ρ w'=>i<=n/\ρ 1=vb_/\ρ 7=iB n/\ρ 8= .slice (some ⟨bw,0,none⟩) n n/\ρ 31= .slice (some ⟨bc,0,none⟩) n n/\ρ 32=iB n/\ρ 33=iB i/\
   ∃RW,dA RW i (n+1) (Pr q (n+1))/\St w w' ((bc,34,RC.map Rw.v)::(bw,220,RW.map Rw.v++List.replicate (n-i) aw)::(RW.map (Rw.qj dQ 223)++(RC.drop i).map (Rw.qj ae 32)))) (λi=>n-i) 0
   ⟨Nat.zero_le _,jY,jY,jY,rfl,rfl,rfl,[],⟨rfl,λi hi=>absurd hi (Nat.not_lt_zero _),λi hi=>absurd hi (Nat.not_lt_zero _)⟩,hS⟩ ?_
  clear hS;rintro i ρ w3 ⟨hi,h1',h7,h8,h31,h32,h33,RW,hRW,hS⟩;refine V1 ?_;by_cases hlt:i<n
  ·refine V1 ?_;have hlc:i<RC.length:=by rw[hRC.len];exact hlt
   obtain⟨d,hd⟩:∃d,n-i=d+1:=⟨n-i-1,oO⟩;have hdrop:RC.drop i=RC.getD i gn::RC.drop (i+1):=by rw[ff RC gn hlc];exact List.drop_eq_getElem_cons hlc
   have hG:=MV hRC hFC hlt 32;have htl:=ao n (qM (RM A) i);have hLb:=hBB _ (bC B i bM oO);rw[hdrop,List.map_cons,hd,List.replicate_succ]at hS;replace hS:=hS.perm (H7 _ _ _ _ _);refine J1 ?_;refine jp (bn (i:=i) h31 h33 oO dO cZ (jq (Ft (k:=0) rfl dh hS rfl (by rw[Nat.zero_add,Nat.mul_one];exact xX hlc) ?_)));refine J7 ?_;refine jp (aH (i:=i) rfl rfl (hBv.ab hS.ab) oO dO bJ (jq (aO (i:=i) bM rfl aB (hBv.ab hS.ab) dO rfl rfl (.inl rfl) (jh (dI (vs:=[cw (B.getD i bM)]) rfl bJ rfl dD dD dD (by simp[Value.cells,cw]) rfl hS ?_)))));intro b45 wz4 hS hBz4;refine jh (dK [B.getD i bM] rfl rfl bJ dD hG hS rfl rfl aK (pd [B.getD i bM]) dL dL ?_);intro va5 La5 wa5 hG hS hga5;obtain⟨aq,cq,rfl⟩:=hG.len;refine jh (dI (vs:=[.slice aq (aS n (qM (RM A) i)++[B.getD i bM]).length cq]) rfl cZ rfl dD dD dD (by simp[Value.cells]) rfl hS ?_);intro b47 wz6 hS hBz6;have hX:=hS.drop ((List.sublist_append_left ((bc,34,RC.map Rw.v)::(bw,220,RW.map Rw.v++aw::List.replicate d aw)::(RW.map (Rw.qj dQ 223)++(RC.drop (i+1)).map (Rw.qj ae 32))) _).trans (List.sublist_cons_self _ _));have hsl1:=hS.sle (k:=0) (enc:=lj) (L:=[.slice aq (aS n (qM (RM A) i)++[B.getD i bM]).length cq]) (n:=1) (cap:=1) rfl (λ_=>rfl) (Nat.le_refl _) (Nat.le_refl _) oO;have hslr:=hG.sl (H:=(b47,34,[Value.slice aq (aS n (qM (RM A) i)++[B.getD i bM]).length cq])::(bc,34,RC.map Rw.v)::(bw,220,RW.map Rw.v++aw::List.replicate d aw)::(RW.map (Rw.qj dQ 223)++(RC.drop (i+1)).map (Rw.qj ae 32))) hS aK;have hx1:(aS n (qM (RM A) i)++[B.getD i bM]).length=n+1:=by rw[List.length_append,htl];rfl
   have hmts:kj ae 3 _ (.slice (some ⟨b47,0,none⟩) 1 1) [aS n (qM (RM A) i)++[B.getD i bM]] [.slice aq (aS n (qM (RM A) i)++[B.getD i bM]).length cq]:=⟨rfl,hsl1,λa ha=>by
    obtain rfl:a=0:=Nat.lt_one_iff.1 ha;exact hslr⟩
   have hBM:Hf K [aS n (qM (RM A) i)++[B.getD i bM]]:=λa ha r hr=>by
    rw[List.mem_singleton.1 ha]at hr;rcases List.mem_append.1 hr with g|g
    ·obtain⟨j,hj,rfl⟩:=lR g;rw[Lr_ofQ];exact Hl hB oO (by rw[h5 i hlt];exact hj)
    ·rw[List.mem_singleton.1 g];exact hLb
   refine jh (ah Tryz.call141 rfl (ti _ [aS n (qM (RM A) i)++[B.getD i bM]] _ (n+1) K _ hmts (Nat.le_refl _) dM oO oO (λa ha=>by obtain rfl:a=0:=Nat.lt_one_iff.1 ha;exact hx1) hBM oO) ?_);rintro r w4 ⟨⟨b1,R1,rfl,hR1,-,hT⟩,hB4⟩;replace hX:=hX.aG hB4;have hl1:0<R1.length:=by rw[hR1.len];exact Nat.one_pos
   have hrow1:=hR1.sl hT aK (i:=0) Nat.one_pos;rw[show qM (RM [aS n (qM (RM A) i)++[B.getD i bM]]) 0=λj=>aj (q i j) by rw[haug i]]at hrow1;refine jp (bn (i:=0) rfl rfl oO dO cZ (jq (eJ [] rfl dh hT oO hl1 (jh (ah Tryz.call142 rfl (Au _ (q i) (n+1) K _ hrow1 oO (hAL i hlt) oO) ?_)))));rintro r w5 ⟨⟨bz,rfl,hZ⟩,-⟩;have hlenR:(RW.map Rw.v).length=i:=by rw[List.length_map,hRW.len]
   have hfit:i<(RW.map Rw.v++aw::List.replicate d aw).length:=by rw[List.length_append,hlenR,List.length_cons];omega
   clear hS;have hS:=hX.join hZ;clear hX hZ;refine jp (bn (i:=i) rfl rfl oO dO j2 (jh (gl (k:=2) rfl rfl ku hS rfl (by rw[Nat.zero_add,Nat.mul_one];exact hfit) rfl ?_)));intro wz7 hS;refine ja ?_;replace hS:St w _ ((bz,223,(aS (n+1) (Da (q i) (n+1))).flatMap dQ)::(bc,34,RC.map Rw.v)::(bw,220,(RW.map Rw.v++aw::List.replicate d aw).set (0+i*1) (.slice (some ⟨bz,0,none⟩) (n+1) (n+1)))::(RW.map (Rw.qj dQ 223)++(RC.drop (i+1)).map (Rw.qj ae 32))):=hS;rw[Nat.zero_add,Nat.mul_one,vh _ _ _ _ hlenR]at hS;replace hS:=hS.perm (Mc _ _ _ _ _);obtain⟨nr,hnr⟩:∃nr:Rw ZZ,nr=⟨bz,n+1,aS (n+1) (Da (q i) (n+1)),[]⟩:=⟨_,rfl⟩;have hnX:nr.X=aS (n+1) (Pr q (n+1) i):=by rw[hnr];rfl
   have hnc:nr.cap=n+1:=by rw[hnr]
   have hvz:nr.v= .slice (some ⟨bz,0,none⟩) (n+1) (n+1):=by
    rw[hnr];show Value.slice _ (aS (n+1) (Da (q i) (n+1))).length _=_;rw[ao]
   have hbz:nr.qj dQ 223=(bz,223,(aS (n+1) (Da (q i) (n+1))).flatMap dQ):=by
    rw[hnr];show(bz,223,(aS (n+1) (Da (q i) (n+1))).flatMap dQ++[])=_;rw[List.append_nil]
   rw[<-hbz,<-hvz]at hS;refine V2 ?_;refine⟨i+1,_,rfl,⟨hlt,jY,jY,jY,jY,jY,vi rfl oO,RW++[nr],tV hRW hnX ⟨oO,oO⟩,?_⟩,oO⟩;rw[List.map_append,List.map_append,show n-(i+1)=d by omega,List.append_assoc];exact hS
  ·refine J1 ?_;refine jt ?_;obtain rfl:n=i:=oO;rw[Nat.sub_self,List.replicate_zero,List.append_nil,List.drop_of_length_le (by rw[hRC.len];exact Nat.le_refl _),List.map_nil]at hS;exact⟨_,rfl,h7,h8,RW,hRW,hS.drop (List.sublist_cons_self _ _)⟩
 clear hS;rintro ρ w3 ⟨h7,h8,RW,hRW,hS⟩;obtain⟨S0,hS0⟩:=jz (1001*K+1);have hSS:∀k,k<=n->SS S0 k+1<=65536*(S0+1):=λk hk=>Qu oO;have hsz0:∀i,i<n->∀j,j<n+1->qo (Pr q (n+1) i j)<=S0:=by
  intro i hi j hj;have g1:=H8 (hAL i hi) hj;have g2:=Di (hAL i hi) (n+1) (Nat.le_refl _);have g3:(n+1)*K<=1000*K:=Nat.mul_le_mul_right _ oO;show qo (Da (q i) (n+1) j)<=S0;omega
 obtain⟨Bm,hBm⟩:=jz (Ho q (n+1));have hWh:oa Bm:=by rw[hBm];exact Hg _ _
 have hfi:=λk=>Ig (n:=n) hout k;have hfs:=Ge (n:=n) hout;rw[<-hBm]at hfi hfs;have hrep0:BH n (n+1) Bm 0 λi j=>zv (Pr q (n+1) i j):=by
  intro i hi j hj;rw[hBm];show _=1*Ho q (n+1) i j;unfold Ho;rw[if_pos hj,Rat.one_mul]
 refine jr ?_;refine jh (ah Tryz.call113 rfl (lh 1 _ dD) ?_);rintro _ wc8 ⟨rfl,hBc8⟩;replace hS:=hS.aG hBc8;refine jp (bR rfl (od _ _) ?_);refine J1 ?_;intro b11 wz9 hS hBz9;refine J1 ?_;intro wz10 hS;refine ja ?_;replace hS:St w _ ([(b11,223,dQ ⟨false,1⟩)]++mB dQ 223 220 bw RW []):=hS;refine J2 ?_;refine jb ?_;refine aW (λρ w'=>(cI n Bm n).P.length=n/\ρ 7=iB n/\ρ 8= .slice (some ⟨bw,0,none⟩) n n/\∃RW f,dA RW n (n+1) f/\BH n (n+1) Bm n (λi j=>zv (f i j))/\(∀i,i<n->∀j,j<n+1->qo (f i j)<=SS S0 n)/\St w w' (mB dQ 223 220 bw RW [])) ?_ ?_
 ·refine ja ?_;refine aQ (σ:=Nat) (λk ρ w'=>k<=n/\(cI n Bm k).P.length=k/\ρ 7=iB n/\ρ 8= .slice (some ⟨bw,0,none⟩) n n/\ρ 11=pB b11/\ρ 56=iB n/\ρ 57=iB k/\∃RW f last,dA RW n (n+1) f/\BH n (n+1) Bm k (λi j=>zv (f i j))/\(∀i,i<n->∀j,j<n+1->qo (f i j)<=SS S0 k)/\((zv last:Int):Rat)=dd n Bm k/\qo last<=SS S0 k/\
   St w w' ([(b11,223,dQ last)]++mB dQ 223 220 bw RW [])) (λk=>n-k) 0
   ⟨Nat.zero_le _,rfl,jY,jY,rfl,rfl,rfl,RW,_,⟨false,1⟩,hRW,hrep0,hsz0,rfl,(by show(bB 1).size<=S0;rw[iD];omega),hS⟩ ?_
  clear hS hRW hrep0 hsz0;rintro k ρ w4 ⟨hk,hkP,h7,h8,h11,h56,h57,RW,f,last,hRW,hrep,hsz,hlv,hlz,hS⟩;have hSk:=hSS k hk;refine V1 ?_;by_cases hkn:k<n
  ·refine V1 ?_;have hlk:k<RW.length:=by rw[hRW.len];exact hkn
   refine J2 ?_;intro b12 wz11 hS hBz11;refine jh (gl (k:=0) rfl rfl eI hS rfl dM rfl ?_);intro wz12 hS;refine ja ?_;have hmB:=hS.drop (List.sublist_append_right [(b12,3,[Value.int .i64 k]),(b11,223,dQ last)] (mB dQ 223 220 bw RW []));have hO:=hRW.outer hmB (Nat.le_refl n) oO;have hmap:(RW.map Rw.v).length=n:=by rw[List.length_map,hRW.len]
   have hp:At _ ⟨b12,0,none⟩ [.int .i64 k]:=hS.at (k:=0) rfl 0 1;have hO2:=hO.sub (λ_=>rfl) dD (lo:=k) (hi:=(RW.map Rw.v).length) oO (Nat.le_refl _);rw[List.take_of_length_le (by rw[List.length_drop];exact Nat.le_refl _)]at hO2;have hrows:∀i,i<n-k->Sl dQ 2 _ (((RW.map Rw.v).drop k).getD i undef) (aS (n+1) (f (k+i))):=λi hi=>by
    have:=hRW.sl hmB ec (i:=k+i) oO;have e:((RW.map Rw.v).drop k).getD i undef=(RW.getD (k+i) gn).v:=by
     rw[List.getD_eq_getElem?_getD,List.getElem?_drop,xX (by rw[hRW.len];omega)];rfl
    rw[e];exact this
   refine jr ?_;refine jp (aI h8 (jq (bT (k:=0) rfl eI hS rfl rfl rfl (.inr rfl) (jp (Lh rfl rfl hO rfl oO j2 (jp (Il rfl ?_)))))));refine jh (ah Tryz.call143 rfl (Gy b12 k (n-k) (n+1) _ _ (λi j=>f (k+i) j) _ hp hO2 (by rw[List.length_drop,hmap]) hrows oO) ?_);rintro r w5 ⟨rfl,hB5⟩;replace hS:=hS.aG hB5;have hpr:=OQ hrep hkP (by omega:k<n+1);obtain⟨p,hpp⟩:=jz (pv (cI n Bm k).M k n k);have hps:=ig (cI n Bm k).M k (n:=n) (r:=k) oO;rw[<-hpp]at hps;obtain⟨hkp,_,_,_⟩:=hps;have hfst:yi (λi=>decide ((f (k+i) k).mag≠0)) (n-k) 0=if p<n then((p-k:Nat):Int)else-1:=by
    have hpf:Hq (cI n Bm k).M k (n-k) k=p:=hpp.symm;have hcong:∀d i,i+d=n-k->yi (λi=>decide ((f (k+i) k).mag≠0)) d i=if Hq (cI n Bm k).M k d (k+i)<k+i+d then((Hq (cI n Bm k).M k d (k+i)-k:Nat):Int)else-1:=by
     intro d;induction d with
     |zero=>
      intro i _;show(-1:Int)=if k+i<k+i+0 then _ else-1
      rw[if_neg oO]
     |succ d ih=>
      intro i hid;have hi:=hpr (k+i) oO;show(if decide ((f (k+i) k).mag≠0)=true then(i:Int)else yi _ d (i+1))=_;unfold Hq;by_cases e:(cI n Bm k).M (k+i) k=0
      ·rw[if_neg (λq=>hi.1 (of_decide_eq_true q) e),if_pos e,ih (i+1) oO];rw[show k+(i+1)=k+i+1 by omega,show k+i+1+d=k+i+(d+1) by omega]
      ·rw[if_pos (decide_eq_true (hi.2 e)),if_neg e,if_pos oO,show k+i-k=i by omega]
    have:=hcong (n-k) 0 oO;rw[Nat.add_zero,hpf,show k+(n-k)=n by omega]at this;exact this
   rw[hfst];refine V3 ?_;by_cases hpn:¬p<n
   ·rw[if_neg hpn];refine bZ rfl (decide_eq_true dD) ?_;refine ja ?_;have hnf:(cI n q n).P.length≠n:=λg=>G7 hkn (by rw[<-hpp];exact hpn) ((hfi n).2 g);have e5:Fs A B=5:=by rw[e1,if_neg hnf]
    refine J2 ?_;refine jt ?_;refine j6 rfl rfl rfl ?_;refine⟨⟨_,by rw[e5];rfl,?_⟩,hS.ab⟩;rw[hno (by rw[e5];decide)];exact Sl.nil _ _ _
   replace hpn:=Decidable.not_not.1 hpn;rw[if_pos hpn];refine V1 ?_;have hlp:p<RW.length:=by rw[hRW.len];exact hpn
   replace hS:St w _ ([(b12,3,[Value.int .i64 k]),(b11,223,dQ last)]++mB dQ 223 220 bw RW []):=hS;refine aW (λρ w'=>ρ 7=iB n/\ρ 8= .slice (some ⟨bw,0,none⟩) n n/\ρ 11=pB b11/\ρ 12=pB b12/\ρ 56=iB n/\ρ 57=iB k/\St w w' ([(b12,3,[Value.int .i64 k]),(b11,223,dQ last)]++mB dQ 223 220 bw (wN RW k p) [])) ?_ ?_
   ·refine ja ?_;refine vV 20 [jo 0,ju 1,jo 2,jv 3,jo 4,jo 5,jo 6,ju 7,jo 8,jo 9,jo 10,ju 11,jo 12,ju 13,jo 14,ju 15,jo 16,jw 17,jo 18,jw 19] kR kR hS ?_;intro wz13 hS hBz13;refine bN (i:=0) (U':=[ju 1,jo 2,jv 3,jo 4,jo 5,jo 6,ju 7,jo 8,jo 9,jo 10,ju 11,jo 12,ju 13,jo 14,ju 15,jo 16,jw 17,jo 18,jw 19]) kR kR rfl rfl (aI h8 (iG (i:=1) (U':=[jo 2,jv 3,jo 4,jo 5,jo 6,ju 7,jo 8,jo 9,jo 10,ju 11,jo 12,ju 13,jo 14,ju 15,jo 16,jw 17,jo 18,jw 19]) kR kR rfl rfl (bT (k:=0) rfl eI hS rfl rfl rfl (.inr rfl) (bN (i:=2) (U':=[jv 3,jo 4,jo 5,jo 6,ju 7,jo 8,jo 9,jo 10,ju 11,jo 12,ju 13,jo 14,ju 15,jo 16,jw 17,jo 18,jw 19]) kR kR rfl rfl (aI h8 (bN (i:=4) (U':=[jv 3,jo 5,jo 6,ju 7,jo 8,jo 9,jo 10,ju 11,jo 12,ju 13,jo 14,ju 15,jo 16,jw 17,jo 18,jw 19]) kR kR rfl rfl (aI rfl (bN (i:=6) (U':=[jv 3,jo 5,ju 7,jo 8,jo 9,jo 10,ju 11,jo 12,ju 13,jo 14,ju 15,jo 16,jw 17,jo 18,jw 19]) kR kR rfl rfl (aI h8 (iG (i:=7) (U':=[jv 3,jo 5,jo 8,jo 9,jo 10,ju 11,jo 12,ju 13,jo 14,ju 15,jo 16,jw 17,jo 18,jw 19]) kR kR rfl rfl (bT (k:=0) rfl eI hS rfl rfl rfl (.inr rfl) (bN (i:=8) (U':=[jv 3,jo 5,jo 9,jo 10,ju 11,jo 12,ju 13,jo 14,ju 15,jo 16,jw 17,jo 18,jw 19]) kR kR rfl rfl (aI rfl (bN (i:=9) (U':=[jv 3,jo 5,jo 10,ju 11,jo 12,ju 13,jo 14,ju 15,jo 16,jw 17,jo 18,jw 19]) kR kR rfl rfl (ia rfl rfl (IntWalk.i64_in _ oO) (bN (i:=10) (U':=[jv 3,jo 5,ju 11,jo 12,ju 13,jo 14,ju 15,jo 16,jw 17,jo 18,jw 19]) kR kR rfl rfl (bn (i:=p) rfl rfl oO dO j2 (iG (i:=11) (U':=[jv 3,jo 5,jo 12,ju 13,jo 14,ju 15,jo 16,jw 17,jo 18,jw 19]) kR kR rfl rfl (eJ [_,_] rfl ku hS oO hlp (bN (i:=12) (U':=[jv 3,jo 5,ju 13,jo 14,ju 15,jo 16,jw 17,jo 18,jw 19]) kR kR rfl rfl (aI h8 (iG (i:=13) (U':=[jv 3,jo 5,jo 14,ju 15,jo 16,jw 17,jo 18,jw 19]) kR kR rfl rfl (bT (k:=0) rfl eI hS rfl rfl rfl (.inr rfl) (bN (i:=14) (U':=[jv 3,jo 5,ju 15,jo 16,jw 17,jo 18,jw 19]) kR kR rfl rfl (bn (i:=k) rfl rfl oO dO j2 (iG (i:=15) (U':=[jv 3,jo 5,jo 16,jw 17,jo 18,jw 19]) kR kR rfl rfl (eJ [_,_] rfl ku hS oO hlk ?_)))))))))))))))))))))))))));refine bN (i:=16) (U':=[jv 3,jo 5,jw 17,jo 18,jw 19]) kR kR rfl rfl (bn (i:=k) rfl rfl oO dO j2 ?_);refine jQ (x:=jv 3) (y:=jw 17) (U':=[jo 5,jw 17,jo 18,jw 19]) (U'':=[jv 3,jo 5,jo 18,jw 19]) kR kR kR ?_ ?_
    ·refine bK rfl rfl (jA (bT (k:=0) rfl eI hS rfl rfl rfl (.inr rfl) ?_));refine⟨Below.refl _ _,?_⟩;refine bN (i:=5) (U':=[jw 17,jo 18,jw 19]) kR kR rfl rfl (ia rfl rfl (IntWalk.i64_in _ oO) (bS (x:=jw 17) (U':=[jo 18,jw 19]) kR kR (ca rfl rfl (kF [_,_] (i:=k) rfl rfl ku hS oO (by rw[List.length_map];exact hlk) (tr _) ?_))));intro wz14 hS;refine bN (i:=18) (U':=[jw 19]) kR kR rfl rfl (bn (i:=p) rfl rfl oO dO j2 (bS (x:=jw 19) (U':=[]) kR kR (ca rfl rfl (kF [_,_] (i:=p) rfl rfl ku hS oO (by rw[List.length_set,List.length_map];exact hlp) (tr _) ?_))));intro wz15 hS;refine fb ?_;refine ja ?_;exact⟨_,rfl,jY,jY,jY,rfl,jY,jY,AG [_,_] hlk hlp hS⟩
    ·refine ca rfl rfl (kF [_,_] (i:=k) rfl rfl ku hS oO (by rw[List.length_map];exact hlk) (tr _) ?_);intro wz16 hS;refine bS (x:=jv 3) (U':=[jo 5,jo 18,jw 19]) kR kR (bK rfl rfl (jA (bT (k:=0) rfl eI hS rfl rfl rfl (.inr rfl) ?_)));refine⟨Below.refl _ _,?_⟩;refine bN (i:=5) (U':=[jo 18,jw 19]) kR kR rfl rfl (ia rfl rfl (IntWalk.i64_in _ oO) (bN (i:=18) (U':=[jw 19]) kR kR rfl rfl (bn (i:=p) rfl rfl oO dO j2 (bS (x:=jw 19) (U':=[]) kR kR (ca rfl rfl (kF [_,_] (i:=p) rfl rfl ku hS oO (by rw[List.length_set,List.length_map];exact hlp) (tr _) ?_))))));intro wz17 hS;refine fb ?_;refine ja ?_;exact⟨_,rfl,jY,jY,jY,rfl,jY,jY,AG [_,_] hlk hlp hS⟩
   clear hS;rintro ρ wsw ⟨h7,h8,h11,h12,h56,h57,hS⟩;refine ja ?_;have hR2:dA (wN RW k p) n (n+1) (BU f k p):=hRW.A8 hkn hpn;have hsz2:=GX hkn hpn hsz;have hl0:last.mag≠0:=λg=>Br k hkP (by rw[<-hlv,Kv.2 g];rfl);have hrs:=HZ hWh hrep hkP oO (by rw[<-hpp];exact hpn) hlv;rw[<-hpp,<-OX]at hrs;have hnx:=(pu hkP (by rw[<-hpp];exact hpn)).1;have hel:=λwx h=>x9 (H:=[(b12,3,[Value.int .i64 k]),(b11,223,dQ last)]++[]) (w0:=w) (bo:=bw) k last (SS S0 k) wx hR2 oO oO hkn oO hsz2 hlz hl0 oO h;refine J3 ?_;refine jh (ah Tryz.call145 rfl (hel _ (hS.perm (u6 _ _))) ?_);rintro u w6 ⟨rfl,R',hR',hS'⟩;clear hS;have hS:=hS'.perm (u6 _ _).symm;clear hS';have hlk':k<R'.length:=by rw[hR'.len];exact hkn
   have hxk':=hR'.ql hkn;have hgk':(R'.getD k gn).X.getD k tI=nK (BU f k p) k last k k:=hR'.get hkn oO _;have hsz3:=D6 hsz2 last hkn (by omega:k<n+1);refine ja ?_;refine bk [jo 0,ju 1,jo 2,ju 3,ju 4,jo 5,ju 6,jw 7] kR kR hS ?_;intro wz18 hS hBz18;refine J2 ?_;refine jl rfl (bn (i:=k) rfl rfl oO dO j2 (jm rfl (eJ [_,_] rfl ku hS oO hlk' ?_)));refine J1 ?_;refine jl rfl (bn (i:=k) rfl rfl oO dO j3 (jm rfl (ke [_,_] (i:=k) (j:=k) tI ec rfl gN hS rfl hlk' oO oO (congrArg _ (congrArg _ hgk')) (.inl rfl) ?_)));refine J1 ?_;intro wz19 hS;refine ja ?_;replace hS:St w _ ([(b12,3,[Value.int .i64 k]),(b11,223,dQ (nK (BU f k p) k last k k))]++mB dQ 223 220 bw R' []):=hS;refine V2 ?_;refine⟨k+1,_,rfl,⟨hkn,hnx,jY,jY,jY,jY,vi rfl oO,R',_,_,hR',?_,hsz3,?_,hsz3 k hkn k oO,hS.drop (List.sublist_cons_self _ _)⟩,oO⟩
   ·intro i hi j hj;show((zv (nK (BU f k p) k last i j):Int):Rat)=_;rw[Fh];exact hrs.1 i hi j hj
   ·rw[Fh];exact hrs.2
  ·refine J1 ?_;refine jt ?_;obtain rfl:n=k:=oO;exact⟨_,rfl,hkP,h7,h8,RW,f,hRW,hrep,hsz,hS.drop (List.sublist_cons_self _ _)⟩
 clear hS hRW;rintro ρ w4 ⟨hfull,h7,h8,RW,f,hRW,hrep,hsz,hS⟩;have hqf:=(hfi n).1 hfull;have hIn:=rinv n Bm n;have hdn:=Br n hfull;have hSn:=hSS n (Nat.le_refl _);have e0:Fs A B=0:=by rw[e1,if_pos hqf]
 rw[hslL e0,e0];have hval:∀i,i<n->(f i i).mag≠0/\((zv (f i n):Int):Rat)/((zv (f i i):Int):Rat)=(cI n q n).M i n:=by
  intro i hi;have g1:((zv (f i i):Int):Rat)=dd n Bm n*(cI n Bm n).M i i:=hrep i hi i oO;have g2:((zv (f i n):Int):Rat)=dd n Bm n*(cI n Bm n).M i n:=hrep i hi n oO;rw[tg hIn hfull hi hi,o5,Rat.mul_one]at g1;rw[hfs hqf i hi n]at g2;refine⟨λg=>hdn (by rw[<-g1,Kv.2 g];rfl),?_⟩;rw[g1,g2,Rat.div_def];have:=Rat.mul_inv_cancel _ hdn;grind
 obtain⟨gM,hgM⟩:∃gM:Nat->Rat,gM=λi=>(cI n q n).M i n:=⟨_,rfl⟩;rw[show(aS n λi=>aj ((cI n q n).M i n))=aS n λi=>aj (gM i) by rw[hgM]];replace hval:∀i,i<n->(f i i).mag≠0/\((zv (f i n):Int):Rat)/((zv (f i i):Int):Rat)=gM i:=by rw[hgM];exact hval
 refine J1 ?_;refine jh (de (enc:=ae) (n:=n) bM rfl rfl bJ rfl oO oO oO oO hS ?_);intro b98 wz20 hS hBz20;refine V1 ?_;replace hS:St w _ ([(b98,32,(List.replicate n bM).flatMap ae)]++mB dQ 223 220 bw RW []):=hS;rw[MD gM]at hS;refine J3 ?_;refine jb ?_;refine aW (λρ w'=>ρ 14= .slice (some ⟨b98,0,none⟩) n n/\St w w' ([(b98,32,(aS n λa=>aj (oF gM n a)).flatMap ae)]++mB dQ 223 220 bw RW [])) ?_ ?_
 ·refine ja ?_;refine aQ (σ:=Nat) (λi ρ w'=>i<=n/\ρ 7=iB n/\ρ 14= .slice (some ⟨b98,0,none⟩) n n/\ρ 99= .slice (some ⟨bw,0,none⟩) n n/\ρ 100=iB n/\ρ 101=iB i/\St w w' ([(b98,32,(aS n λa=>aj (oF gM i a)).flatMap ae)]++mB dQ 223 220 bw RW [])) (λi=>n-i) 0
   ⟨Nat.zero_le _,jY,rfl,rfl,rfl,rfl,hS⟩ ?_
  clear hS;rintro i ρ w5 ⟨hi,h7,h14,h99,h100,h101,hS⟩;have hto:=ao n λa=>aj (oF gM i a);refine V1 ?_;by_cases hlt:i<n
  ·refine V1 ?_;have hli:i<RW.length:=by rw[hRW.len];exact hlt
   have htr:=ao (n+1) (f i);have hgn:(aS (n+1) (f i)).getD n tI=f i n:=aV _ _ oO;have hgi:(aS (n+1) (f i)).getD i tI=f i i:=aV _ _ oO;have q1:=hsz i hlt n oO;have q2:=hsz i hlt i oO;unfold qo at q1 q2;obtain⟨hm0,hqv⟩:=hval i hlt;have hmk:=λw=>CH ((f i n).neg !=(f i i).neg) (bB (f i n).mag) (bB (f i i).mag) w oO oO (by rw[bX];exact hm0);rw[bX,bX,LA hm0]at hmk;have hmk2:((sg (f i n).neg (f i n).mag:Int):Rat)/((sg (f i i).neg (f i i).mag:Int):Rat)=gM i:=hqv;rw[hmk2]at hmk;refine J1 ?_;refine jp (bn (i:=i) h99 h101 oO dO j2 (jq (eJ [_] rfl ku hS oO hli ?_)));refine V2 ?_;have hrow:=hRW.sl (hS.drop (List.sublist_cons_self _ _)) ec hlt;refine ja ?_;refine bk [jo 0,jo 1,jo 2,jo 3,jo 4,jo 5,ju 6,jo 7,jo 8,jo 9,jo 10,ju 11,jo 12,jo 13,jo 14,jo 15,jo 16,ju 17,jo 18,jo 19,jo 20,jo 21,ju 22,jv 23,jo 24,jo 25,jo 26,jo 27,jw 28] kR kR hS ?_;intro wz21 hS hBz21;refine J4 ?_;refine jl rfl (aH (i:=n) rfl rfl (hRW.sl (hS.drop (List.sublist_cons_self _ _)) ec hlt) oO dO j3 ?_);refine jl rfl (fL rfl (dZ (hRW.sl (hS.drop (List.sublist_cons_self _ _)) ec hlt) (λ_=>rfl) dD dO) sn ?_);refine jm rfl (fJ (i:=n) (off:=0) tI rfl iN (hRW.sl (hS.drop (List.sublist_cons_self _ _)) ec hlt) (λ_=>rfl) dD dO rfl rfl (.inr rfl) ?_);refine J2 ?_;refine jl rfl (aH (i:=i) rfl rfl (hRW.sl (hS.drop (List.sublist_cons_self _ _)) ec hlt) oO dO j3 ?_);refine jl rfl (fL rfl (dZ (hRW.sl (hS.drop (List.sublist_cons_self _ _)) ec hlt) (λ_=>rfl) dD dO) sn ?_);refine jm rfl (fJ (i:=i) (off:=0) tI rfl iN (hRW.sl (hS.drop (List.sublist_cons_self _ _)) ec hlt) (λ_=>rfl) dD dO rfl rfl (.inr rfl) ?_);refine jl rfl (ub rfl rfl Tryz.underlying4 ?_);refine J2 ?_;refine jl rfl (aH (i:=n) rfl rfl (hRW.sl (hS.drop (List.sublist_cons_self _ _)) ec hlt) oO dO j3 ?_);refine jl rfl (fL rfl (dZ (hRW.sl (hS.drop (List.sublist_cons_self _ _)) ec hlt) (λ_=>rfl) dD dO) pz ?_);refine jm rfl (fJ (i:=n) (off:=1) tI rfl mO (hRW.sl (hS.drop (List.sublist_cons_self _ _)) ec hlt) (λ_=>rfl) dD dO rfl rfl (.inr rfl) ?_);refine J2 ?_;refine jl rfl (aH (i:=i) rfl rfl (hRW.sl (hS.drop (List.sublist_cons_self _ _)) ec hlt) oO dO j3 ?_);refine jl rfl (fL rfl (dZ (hRW.sl (hS.drop (List.sublist_cons_self _ _)) ec hlt) (λ_=>rfl) dD dO) pz ?_);refine jm rfl (fJ (i:=i) (off:=1) tI rfl mO (hRW.sl (hS.drop (List.sublist_cons_self _ _)) ec hlt) (λ_=>rfl) dD dO rfl rfl (.inr rfl) ?_);rw[hgn,hgi];refine jn rfl (ah Tryz.call146 rfl (hmk _) ?_);rintro _ wc22 ⟨rfl,hBc22⟩;replace hS:=hS.aG hBc22;refine⟨hBc22,?_⟩;refine J3 ?_;refine jl rfl (bn (i:=i) rfl rfl oO dO bJ ?_);refine jx rfl (sa (k:=0) (i:=i) (enc:=ae) (aj (gM i)) (λ_=>rfl) rfl rfl aB hS rfl (by first|omega|simp) dO rfl rfl ?_);intro wz23 hS;refine ja ?_;replace hS:St w _ ([(b98,32,((aS n λa=>aj (oF gM i a)).set i (aj (gM i))).flatMap ae)]++mB dQ 223 220 bw RW []):=hS;rw[Oy]at hS;refine V2 ?_;exact⟨i+1,_,rfl,⟨hlt,jY,jY,jY,jY,vi rfl oO,hS⟩,oO⟩
  ·refine J1 ?_;refine jt ?_;obtain rfl:n=i:=oO;exact⟨_,rfl,h14,hS⟩
 clear hS;rintro ρ w5 ⟨h14,hS⟩;have e3:(aS n λa=>aj (oF gM n a))=aS n λi=>aj (gM i):=bA λa ha=>by unfold oF;rw[if_pos ha]
 rw[e3]at hS;refine V3 ?_;have hTT:=hS.sle (k:=0) (n:=n) (cap:=n) rfl aK (by rw[ao];omega) oO oO;rw[List.take_of_length_le (by rw[ao];omega)]at hTT;refine jt ?_;refine j6 rfl rfl rfl ?_;exact⟨⟨_,rfl,hTT⟩,hS.ab⟩
structure Pa where
 c:Int
 q:Rat
structure Tr where
 ps:List Pa
 sm:Rat
def NU:Pa:=⟨0,0⟩
def jZ:Tr:=⟨[],0⟩
def g9 (p:Pa):List Value:= .int .i64 p.c::ae (aj p.q)
def eC (p:Tr×Value):List Value:=p.2::ae (aj p.1.sm)
theorem zi:∀p,(g9 p).length=4:=λ_=>rfl
theorem kG:∀p,(eC p).length=4:=λ_=>rfl
theorem GP (xs:List Pa):∀u∈xs.flatMap g9,u.oneCell'=true:=by
 intro u hu;obtain⟨x,_,hx⟩:=List.mem_flatMap.1 hu;simp only[g9,ae,List.mem_cons,List.not_mem_nil,or_false]at hx;rcases hx with rfl|rfl|rfl|rfl<;>rfl
def M5 (p:Pa):Value:= .agg #[.int .i64 p.c,.bool (aj p.q).neg,.string (aj p.q).num,.string (aj p.q).den]
def se (t:Tr) (v:Value):Value:= .agg #[v,.bool (aj t.sm).neg,.string (aj t.sm).num,.string (aj t.sm).den]
structure Df (w:World) (v:Value) (T:List Tr) (vs:List Value):Prop where
 len:vs.length=T.length
 sl:Sl eC 4 w v (T.zip vs)
 ps:∀i,i<T.length->Sl g9 4 w (vs.getD i undef) (T.getD i jZ).ps
section
variable {w w' : World} {v : Value} {T : List Tr} {vs : List Value}
theorem Df.ab (h:Df w v T vs) (hb:Below w.heap.size w w'):Df w' v T vs:=⟨h.len,h.sl.ab hb,λi hi=>(h.ps i hi).ab hb⟩
theorem Df.I8 (h:Df w v T vs):(T.zip vs).length=T.length:=by rw[List.length_zip,h.len,Nat.min_self]
theorem Df.I7 (h:Df w v T vs) {i:Nat} (hi:i<T.length):(T.zip vs).getD i (jZ,undef)=(T.getD i jZ,vs.getD i undef):=by
 have h1:i<vs.length:=by rw[h.len];exact hi
 rw[ff _ _ (by rw[h.I8];exact hi),List.getElem_zip,ff T jZ hi,ff vs undef h1]
end
def kZ (T:List Tr) (k:Nat):Rat:=ay (λj=>(T.getD j jZ).sm) k
def dq:List Tr->Rat->Nat
 | [],_=>0
 |t::T,m=>if m<t.sm then 0 else dq T (m-t.sm)+1
theorem lT:∀(T:List Tr) (m:Rat),dq T m<=T.length
 | [],_=>Nat.le_refl _
 |t::T,m=>by
  unfold dq;split
  ·exact Nat.zero_le _
  ·have:=lT T (m-t.sm);rw[List.length_cons];omega
theorem md (t:Tr) (T:List Tr):∀k,kZ (t::T) (k+1)=t.sm+kZ T k
 |0=>by show(0:Rat)+t.sm=t.sm+0;grind
 |k+1=>by
  show kZ (t::T) (k+1)+_=t.sm+(kZ T k+_);rw[md t T k,Rat.add_assoc];rfl
theorem Ao:∀ {T:List Tr} {m:Rat} {k:Nat},k<=T.length->(∀j,j<k->¬m-kZ T j<(T.getD j jZ).sm)->(k<T.length->m-kZ T k<(T.getD k jZ).sm)->dq T m=k
 | [],_,k,hk,_,_=>by
  obtain rfl:k=0:=Nat.le_zero.1 hk;rfl
 |t::T,m,0,_,_,h2=>by
  have:=h2 (Nat.succ_pos _);have e:m-kZ (t::T) 0=m:=by show m-0=m;grind
  rw[e]at this;exact if_pos this
 |t::T,m,k+1,hk,h1,h2=>by
  have e:m-kZ (t::T) 0=m:=by show m-0=m;grind
  have h0:¬m<t.sm:=by
   have h0:=h1 0 (Nat.succ_pos _);rw[e]at h0;exact h0
  have e2:∀j,m-kZ (t::T) (j+1)=(m-t.sm)-kZ T j:=λj=>by rw[md];grind
  have ih:=Ao (T:=T) (m:=m-t.sm) (k:=k) (by rw[List.length_cons]at hk;omega) (λj hj=>by have:=h1 (j+1) oO;rw[e2]at this;exact this) (λhk'=>by have:=h2 (by rw[List.length_cons];omega);rw[e2]at this;exact this);unfold dq;rw[if_neg h0,ih]
def j9 (T:List Tr) (m:Rat):Rat:=m-kZ T (dq T m)
def qf (T:List Tr):Nat:=(T.map λt=>L t.sm+1).sum
theorem sk (t:Tr) (T:List Tr):qf (t::T)=L t.sm+1+qf T:=by unfold qf;rw[List.map_cons,List.sum_cons]
theorem Ki:∀(T:List Tr) (k:Nat),k<=T.length->L (kZ T k)<=qf T+1
 |_,0,_=>by show L 0<=_;rw[fM];omega
 | [],k+1,h=>absurd h (Nat.not_succ_le_zero _)
 |t::T,k+1,h=>by
  have ih:=Ki T k (by rw[List.length_cons]at h;omega);have:=t6 t.sm (kZ T k);rw[md,sk];omega
theorem sx:∀(T:List Tr) {k:Nat},k<T.length->L (T.getD k jZ).sm+1<=qf T
 | [],_,h=>absurd h (Nat.not_lt_zero _)
 |t::T,0,_=>by rw[sk];exact Nat.le_add_right _ _
 |t::T,k+1,h=>by
  have:=sx T (k:=k) (by rw[List.length_cons]at h;omega);rw[sk];show L (T.getD k jZ).sm+1<=_;omega
theorem Ae (T:List Tr) (m:Rat) {k:Nat} (hk:k<=T.length):L (m-kZ T k)<=L m+qf T+2:=by
 have:=mw m (kZ T k);have:=Ki T k hk;omega
theorem tu (v:Value) (T:List Tr) (vs:List Value) (m:Rat) (w:World) (hT:Df w v T vs) (hK:2*(L m+qf T+2)<=MX):
  dj Tryz.prog 130 #[v,cw (aj m)] w λr w'=>r= .tuple #[.int .i64 (dq T m),cw (aj (j9 T m))]/\Below w.heap.size w w':=by
 have hzl:=hT.I8;have hmx:=hT.sl.maxLen;rw[hzl]at hmx;have hS:=St.init w;have e0:aj m=aj (m-kZ T 0):=by congr 1;show m=m-0;grind
 refine enter Tryz.func130 rfl Tryz.ntmps130 rfl ?_;refine jr ?_;refine jh (bY (new:=ae (aj m)) rfl rfl hS ?_);intro b3 wz1 hS hBz1;refine J2 ?_;intro b5 wz2 hS hBz2;refine J1 ?_;refine jp (aF rfl (hT.sl.ab hS.ab) ⟨_,Tryz.underlying109⟩ ?_);refine V1 ?_;rw[hzl];rw[e0]at hS;refine aQ (σ:=Nat) (λk ρ w'=>k<=T.length/\(∀j,j<k->¬m-kZ T j<(T.getD j jZ).sm)/\ρ 0=v/\ρ 3=pB b3/\ρ 5=pB b5/\ρ 8=v/\ρ 9=iB T.length/\ρ 10=iB k/\
   St w w' [(b5,32,ae bM),(b3,32,ae (aj (m-kZ T k)))]) (λk=>T.length-k) 0
  ⟨Nat.zero_le _,λj hj=>absurd hj (Nat.not_lt_zero _),rfl,rfl,rfl,rfl,rfl,rfl,hS⟩ ?_
 clear hS e0;rintro k ρ w2 ⟨hk,hall,h0,h3,h5,h8,h9,h10,hS⟩;have hLm:=Ae T m hk;refine V1 ?_;by_cases hlt:k<T.length
 ·refine V1 ?_;have hzg:=hT.I7 hlt;have hLk:=sx T hlt;obtain⟨pa,pc,hpe,_⟩:=(hT.ps k hlt).form;rw[hpe]at hzg;obtain⟨pn,hpn⟩:=jz ((T.getD k jZ).ps.length);rw[<-hpn]at hzg;refine J1 ?_;refine jp (aH (i:=k) h8 h10 (hT.sl.ab hS.ab) oO dO kC (jq (aO (v:=se (T.getD k jZ) (.slice pa pn pc)) (i:=k) (jZ,undef) rfl lA (hT.sl.ab hS.ab) oO rfl (by rw[hzg];rfl) (.inl rfl) ?_)));refine J1 ?_;intro b7 wz3 hS hBz3;refine J2 ?_;intro wz4 hS;refine ja ?_;replace hS:St w _ [(b7,157,eC (T.getD k jZ,.slice pa pn pc)),(b5,32,ae bM),(b3,32,ae (aj (m-kZ T k)))]:=hS;refine J3 ?_;refine jh (ah Tryz.call50 rfl (g8 (aj (m-kZ T k)) (aj (T.getD k jZ).sm) _ (by rw[Lr_ofQ,Lr_ofQ];omega)) ?_);rintro _ wc5 ⟨rfl,hBc5⟩;replace hS:=hS.aG hBc5;refine V1 ?_;rw[toQ_ofQ,toQ_ofQ];by_cases hc:m-kZ T k<(T.getD k jZ).sm
  ·have hf:dq T m=k:=Ao hk hall λ_=>hc;refine bZ rfl (decide_eq_true (wo.2 hc)) ?_;refine ja ?_;refine bk [jo 0,ju 1,jo 2,jw 3] kR kR hS ?_;intro wz6 hS hBz6;refine J4 ?_;intro wz7 hS;refine jt ?_;refine mL (k:=1) rfl h5 rfl aB hS rfl rfl ?_;exact⟨by unfold j9;rw[hf];rfl,hS.ab⟩
  ·refine ct rfl (decide_eq_false (λg=>hc (wo.1 g))) ?_;refine J3 ?_;refine jh (ah Tryz.call16 rfl (dH (aj (m-kZ T k)) (aj (T.getD k jZ).sm) _ (by rw[Lr_ofQ,Lr_ofQ];omega)) ?_);rintro r w3 ⟨rfl,hB3⟩;have e1:m-kZ T k-(T.getD k jZ).sm=m-kZ T (k+1):=by show _=m-(kZ T k+(T.getD k jZ).sm);grind
   rw[toQ_ofQ,toQ_ofQ,e1];replace hS:=hS.aG hB3;refine J1 ?_;intro wz8 hS;refine ja ?_;replace hS:St w _ [(b7,157,eC (T.getD k jZ,.slice pa pn pc)),(b5,32,ae bM),(b3,32,ae (aj (m-kZ T (k+1))))]:=hS;refine V2 ?_;refine⟨k+1,_,rfl,⟨hlt,λj hj=> ?_,h0,h3,h5,h8,h9,vi rfl oO,hS.drop (List.sublist_cons_self _ _)⟩,oO⟩;by_cases e:j=k
   ·rw[e];exact hc
   ·exact hall j oO
 ·refine J1 ?_;refine jt ?_;have hf:dq T m=k:=Ao hk hall λh=>absurd h hlt;obtain rfl:k=T.length:=oO;refine ja ?_;refine bk [jo 0,jo 1,ju 2,jo 3,jw 4] kR kR hS ?_;intro wz9 hS hBz9;refine J1 ?_;refine jl rfl (aF rfl (hT.sl.ab hS.ab) ⟨_,Tryz.underlying109⟩ ?_);refine J3 ?_;intro wz10 hS;refine ja ?_;rw[hzl];refine jt ?_;refine mL (k:=0) rfl h5 rfl aB hS rfl rfl ?_;exact⟨by unfold j9;rw[hf];rfl,hS.ab⟩
end Go.Proofs.YtoeiejliehgopaaGreatDoor
