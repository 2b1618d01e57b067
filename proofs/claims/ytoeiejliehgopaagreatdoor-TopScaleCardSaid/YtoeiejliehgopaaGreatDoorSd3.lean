import Derived.Test.YtoeiejliehgopaaGreatDoorSd2
set_option maxRecDepth 20000
set_option maxHeartbeats 8000000
namespace Go.Proofs.YtoeiejliehgopaaGreatDoor
open Go Go.RowKit Go.Sx
theorem pg (r s:RR) (w:World) (hr:Lr r+Lr s<=MX):
  lU Tryz.prog 50 #[kW r,kW s] w λv w'=>v= .int .i64 (sU (toQ r) (toQ s))/\Below w.heap.size w w':=by
 have hM:MX=1099511627776:=rfl;have hL1:=uA r;have hL2:=uA s;have hS:=St.init w;refine enter Tryz.func50 rfl Tryz.ntmps50 rfl ?_;refine jr ?_;refine jh (kZ (new:=j5 r) rfl rfl hS ?_);intro b1 wz2 hS hBz2;refine jh (kZ (new:=j5 s) rfl rfl hS ?_);intro b3 wz4 hS hBz4;refine V1 ?_;refine kC [ju 0,ju 2,jv 1,jv 3,jw 4,jw 5] kR kR hS ?_;intro wz5 hS hBz5;refine J2 ?_;refine jn rfl (j6 Tryz.call28 rfl (nT r _ oO) ?_);rintro _ wc6 ⟨rfl,hBc6⟩;replace hS:=hS.km hBc6;refine⟨hBc6,?_⟩;refine jn rfl (j6 Tryz.call28 rfl (nT s _ oO) ?_);rintro _ wc7 ⟨rfl,hBc7⟩;replace hS:=hS.km hBc7;refine⟨hBc7,?_⟩;refine J1 ?_;intro wz8 hS;refine J1 ?_;intro wz9 hS;refine ja ?_;replace hS:St w _ [(b3,32,j5 (j8 (toQ s))),(b1,32,j5 (j8 (toQ r)))]:=hS;obtain⟨p,hp⟩:=jz (toQ r);obtain⟨q,hq⟩:=jz (toQ s);rw[<-hp]at hS hL1⊢;rw[<-hq]at hS hL2⊢;have hn1:=tG p;have hn2:=tG q;have hd1:=s9 p;have hd2:=s9 q;have hm1:=lJ p.num.natAbs q.den;have hm2:=lJ q.num.natAbs p.den;refine ja ?_;refine kC [ju 0,ju 2,jv 1,jv 3,jo 4,jo 5] kR kR hS ?_;intro wz10 hS hBz10;refine J2 ?_;refine jn rfl (j6 Tryz.call89 rfl (An p _) ?_);rintro _ wc11 ⟨rfl,hBc11⟩;replace hS:=hS.km hBc11;refine⟨hBc11,?_⟩;refine jn rfl (j6 Tryz.call89 rfl (An q _) ?_);rintro _ wc12 ⟨rfl,hBc12⟩;replace hS:=hS.km hBc12;refine⟨hBc12,?_⟩;refine V5 ?_;by_cases h:r5 p=r5 q
 ·refine lx rfl (ae (cj h)) ?_;refine ja ?_;refine kC [jo 0,ju 1,ju 2,jo 5,ju 6,ju 7,jv 3,jv 4,jv 8,jv 9,jv 10,jo 11] kR kR hS ?_;intro wz13 hS hBz13;refine J6 ?_;refine jn rfl (j6 Tryz.call31 rfl (tL q _) ?_);rintro _ wc14 ⟨rfl,hBc14⟩;replace hS:=hS.km hBc14;refine⟨hBc14,?_⟩;refine jn rfl (j6 Tryz.call30 rfl (vZ p.num.natAbs q.den _ oO oO) ?_);rintro _ wc15 ⟨rfl,hBc15⟩;replace hS:=hS.km hBc15;refine⟨hBc15,?_⟩;refine jn rfl (j6 Tryz.call31 rfl (tL p _) ?_);rintro _ wc16 ⟨rfl,hBc16⟩;replace hS:=hS.km hBc16;refine⟨hBc16,?_⟩;refine jn rfl (j6 Tryz.call30 rfl (vZ q.num.natAbs p.den _ oO oO) ?_);rintro _ wc17 ⟨rfl,hBc17⟩;replace hS:=hS.km hBc17;refine⟨hBc17,?_⟩;refine jn rfl (j6 Tryz.call90 rfl (VH _ _ _ oO oO) ?_);rintro _ wq18 ⟨rfl,hq18⟩;replace hq18:=hq18.symm;subst hq18;refine⟨Below.refl _ _,?_⟩;refine V3 ?_;have hcl:=RQ h;by_cases hneg:p.num<0
  ·refine k9 rfl (ao hneg) ?_;refine J1 ?_;refine jp (NB rfl (r:=(-sn (p.num.natAbs*q.den) (q.num.natAbs*p.den))) (by unfold sn;split<;>(try split)<;>rfl) ?_);refine J1 ?_;refine jt ?_;refine kB rfl rfl ?_;rw[aj (by simpa using hneg)]at hcl;exact⟨vi rfl hcl,hS.j4⟩
  ·refine lx rfl (ae hneg) ?_;refine J2 ?_;refine jt ?_;refine kB rfl rfl ?_;rw[ah (by simpa using hneg)]at hcl;exact⟨vi rfl hcl,hS.j4⟩
 ·refine k9 rfl (ao h) ?_;refine V3 ?_;have hcs:=Ro h;by_cases hlt:r5 p<r5 q
  ·refine k9 rfl (ao hlt) ?_;refine J1 ?_;refine jt ?_;refine kB rfl rfl ?_;rw[aj hlt]at hcs;exact⟨vi rfl hcs.symm,hS.j4⟩
  ·refine lx rfl (ae hlt) ?_;refine J1 ?_;refine jt ?_;refine kB rfl rfl ?_;rw[ah hlt]at hcs;exact⟨vi rfl hcs.symm,hS.j4⟩
theorem JD (p q:Rat) (w:World) (hL:L p+L q<=MX):
  lU Tryz.prog 36 #[kW (j8 p),kW (j8 q)] w λv w'=>v=kW (j8 (p+q))/\Below w.heap.size w w':=by
 have hM:MX=1099511627776:=rfl;have hn1:=tG p;have hn2:=tG q;have hd1:=s9 p;have hd2:=s9 q;have hm1:=lJ p.num.natAbs q.den;have hm2:=lJ q.num.natAbs p.den;have hm3:=lJ p.den q.den;have hS:=St.init w;refine enter Tryz.func36 rfl Tryz.ntmps36 rfl ?_;refine jr ?_;refine jh (kZ (new:=j5 (j8 p)) rfl rfl hS ?_);intro b1 wz2 hS hBz2;refine jh (kZ (new:=j5 (j8 q)) rfl rfl hS ?_);intro b3 wz4 hS hBz4;refine J1 ?_;intro b5 wz6 hS hBz6;refine ja ?_;refine kC [jo 0,ju 1,jo 2,ju 3,jo 4,jo 5,jo 6] kR kR hS ?_;intro wz7 hS hBz7;refine WW ?_;refine jp (wh rfl rfl ?_);refine ja ?_;refine kx (λρ w'=>∃X Y D:Nat,D≠0/\p=mkRat (sg (decide (p.num<0)) X) D/\q=mkRat (sg (decide (q.num<0)) Y) D/\(kG X).size<=MX/\(kG Y).size<=MX/\(kG D).size<=MX/\
  ρ 2=pB b1/\ρ 3=pB b3/\ρ 4=pB b5/\ρ 5= .string (kG X)/\ρ 6= .string (kG Y)/\ρ 7= .string (kG D)/\
  St w w' [(b5,32,j5 ⟨false,⟨#[]⟩,⟨#[]⟩⟩),(b3,32,j5 (j8 q)),(b1,32,j5 (j8 p))]) ?_ ?_
 ·refine ja ?_;by_cases hden:p.den=q.den
  ·refine lx rfl (ae (cj (AQ.2 hden))) ?_;refine J1 ?_;refine jh (j6 Tryz.call31 rfl (tL p _) ?_);rintro _ wc8 ⟨rfl,hBc8⟩;replace hS:=hS.km hBc8;refine V1 ?_;exact⟨_,rfl,p.num.natAbs,q.num.natAbs,p.den,p.den_nz,(Gy p).symm,by rw[hden];exact(Gy q).symm,oO,oO,oO,rfl,rfl,rfl,rfl,rfl,rfl,hS⟩
  ·refine k9 rfl (ao (λg=>hden (AQ.1 g))) ?_;refine ja ?_;refine kC [jo 0,ju 1,jo 4,ju 5,jv 2,jv 3,jv 6,jv 7,jo 8,jo 9] kR kR hS ?_;intro wz9 hS hBz9;refine J4 ?_;refine jn rfl (j6 Tryz.call31 rfl (tL q _) ?_);rintro _ wc10 ⟨rfl,hBc10⟩;replace hS:=hS.km hBc10;refine⟨hBc10,?_⟩;refine jn rfl (j6 Tryz.call30 rfl (vZ p.num.natAbs q.den _ oO oO) ?_);rintro _ wc11 ⟨rfl,hBc11⟩;replace hS:=hS.km hBc11;refine⟨hBc11,?_⟩;refine jn rfl (j6 Tryz.call31 rfl (tL p _) ?_);rintro _ wc12 ⟨rfl,hBc12⟩;replace hS:=hS.km hBc12;refine⟨hBc12,?_⟩;refine jn rfl (j6 Tryz.call30 rfl (vZ q.num.natAbs p.den _ oO oO) ?_);rintro _ wc13 ⟨rfl,hBc13⟩;replace hS:=hS.km hBc13;refine⟨hBc13,?_⟩;refine V2 ?_;refine kC [ju 0,ju 2,jv 1,jv 3,jv 4,jo 5] kR kR hS ?_;intro wz14 hS hBz14;refine J2 ?_;refine jn rfl (j6 Tryz.call31 rfl (tL p _) ?_);rintro _ wc15 ⟨rfl,hBc15⟩;replace hS:=hS.km hBc15;refine⟨hBc15,?_⟩;refine jn rfl (j6 Tryz.call31 rfl (tL q _) ?_);rintro _ wc16 ⟨rfl,hBc16⟩;replace hS:=hS.km hBc16;refine⟨hBc16,?_⟩;refine jn rfl (j6 Tryz.call30 rfl (vZ p.den q.den _ oO oO) ?_);rintro _ wc17 ⟨rfl,hBc17⟩;replace hS:=hS.km hBc17;refine⟨hBc17,?_⟩;refine V1 ?_;exact⟨_,rfl,p.num.natAbs*q.den,q.num.natAbs*p.den,p.den*q.den,fZ p.den_nz q.den_nz,(yL p q.den_nz).symm,by rw[bF p.den];exact(yL q p.den_nz).symm,oO,oO,oO,rfl,rfl,rfl,rfl,rfl,rfl,hS⟩
 clear hS hm1 hm2 hm3;rintro ρ w' ⟨X,Y,D,hD,hp,hq,sX,sY,sD,g2,g3,g4,g5,g6,g7,hS⟩;have hsum:=uv X Y;have hXY:=Ch (sg (decide (p.num<0)) X) (sg (decide (q.num<0)) Y) hD;rw[<-hp,<-hq]at hXY;clear hp hq;rw[hXY];have hD2:val (kG D)≠0:=by rw[kY];exact hD
 refine jr ?_;refine jp (lC g2 u0 ?_);refine J1 ?_;refine jp (lC g3 u0 ?_);refine J1 ?_;refine jp (US rfl rfl Tryz.underlying4 ?_);refine ja ?_;by_cases hneg:decide (p.num<0)=decide (q.num<0)
 ·have hb:(decide (p.num<0)==decide (q.num<0))=true:=by rw[hneg];exact beq_self_eq_true _
  refine k9 rfl (hb) ?_;refine ja ?_;have hred:=λw=>rX (decide (p.num<0)) (kG (X+Y)) (kG D) w oO oO hD2;rw[kY,kY]at hred;refine ja ?_;refine kC [jo 0,ju 1,jo 2,jo 3,jo 5,jv 4,jv 6,jw 7] kR kR hS ?_;intro wz18 hS hBz18;refine jl rfl (lC g2 u0 ?_);refine J1 ?_;refine jl rfl (ko g5 (jl rfl (ko g6 (jl rfl (ko g7 (jn rfl (j6 Tryz.call74 rfl (Sq X Y _ oO oO) ?_)))))));rintro _ wc19 ⟨rfl,hBc19⟩;replace hS:=hS.km hBc19;refine⟨hBc19,?_⟩;refine jn rfl (j6 Tryz.call29 rfl (hred _) ?_);rintro _ wc20 ⟨rfl,hBc20⟩;replace hS:=hS.km hBc20;refine⟨hBc20,?_⟩;refine jx rfl (lI (k:=0) g4 rfl kf hS rfl rfl rfl dM rfl ?_);intro wz21 hS;refine jt ?_;refine mb (k:=0) rfl g4 kf hS rfl rfl ?_;rw[<-hneg,Uh];exact⟨rfl,hS.j4⟩
 ·have hb:(decide (p.num<0)==decide (q.num<0))=false:=by rw[beq_eq_false_iff_ne];exact hneg
  refine lx rfl (hb) ?_;refine ja ?_;by_cases hle:Y<=X
  ·have hs1:=lP (Nat.sub_le X Y);have hred:=λw=>rX (decide (p.num<0)) (kG (X-Y)) (kG D) w oO oO hD2;rw[kY,kY]at hred;refine jr ?_;refine jp (ko g5 (jp (ko g6 (jh (j6 Tryz.call75 rfl (Ky X Y _ oO oO hle) ?_)))));rintro _ wc22 ⟨rfl,hBc22⟩;replace hS:=hS.km hBc22;refine V6 ?_;refine k9 rfl (rfl) ?_;refine jr ?_;refine jp (lC g2 u0 ?_);refine J2 ?_;refine jp (ko g7 (jh (j6 Tryz.call29 rfl (hred _) ?_)));rintro _ wc23 ⟨rfl,hBc23⟩;replace hS:=hS.km hBc23;refine jh (lI (k:=0) g4 rfl kf hS rfl rfl rfl dM rfl ?_);intro wz24 hS;refine jt ?_;refine mb (k:=0) rfl g4 kf hS rfl rfl ?_;rw[SW hneg hle];exact⟨rfl,hS.j4⟩
  ·have hs1:=lP (Nat.sub_le Y X);have hred:=λw=>rX (decide (q.num<0)) (kG (Y-X)) (kG D) w oO oO hD2;rw[kY,kY]at hred;refine jr ?_;refine jp (ko g5 (jp (ko g6 (jh (j6 Tryz.call75 rfl (GA X Y _ oO oO oO) ?_)))));rintro _ wc25 ⟨rfl,hBc25⟩;replace hS:=hS.km hBc25;refine V6 ?_;refine lx rfl (rfl) ?_;refine jr ?_;refine jp (ko g6 (jp (ko g5 (jh (j6 Tryz.call75 rfl (Ky Y X _ oO oO oO) ?_)))));rintro _ wc26 ⟨rfl,hBc26⟩;replace hS:=hS.km hBc26;refine Y5 ?_;refine jp (lC g3 u0 ?_);refine J2 ?_;refine jp (ko g7 (jh (j6 Tryz.call29 rfl (hred _) ?_)));rintro _ wc27 ⟨rfl,hBc27⟩;replace hS:=hS.km hBc27;refine jh (lI (k:=0) g4 rfl kf hS rfl rfl rfl dM rfl ?_);intro wz28 hS;refine jt ?_;refine mb (k:=0) rfl g4 kf hS rfl rfl ?_;rw[QS hneg oO];exact⟨rfl,hS.j4⟩
theorem ob (r s:RR) (w:World) (hr:Lr r+Lr s<=MX):
  lU Tryz.prog 18 #[kW r,kW s] w λv w'=>v=kW (j8 (toQ r+toQ s))/\Below w.heap.size w w':=by
 have hL1:=uA r;have hL2:=uA s;have hS:=St.init w;refine enter Tryz.func18 rfl Tryz.ntmps18 rfl ?_;refine jr ?_;refine jh (kZ (new:=j5 r) rfl rfl hS ?_);intro b1 wz2 hS hBz2;refine jh (kZ (new:=j5 s) rfl rfl hS ?_);intro b3 wz4 hS hBz4;refine J1 ?_;intro b5 wz6 hS hBz6;refine ja ?_;refine kC [ju 0,ju 2,jv 1,jv 3,jv 4,jw 5] kR kR hS ?_;intro wz7 hS hBz7;refine J2 ?_;refine jn rfl (j6 Tryz.call28 rfl (nT r _ oO) ?_);rintro _ wc8 ⟨rfl,hBc8⟩;replace hS:=hS.km hBc8;refine⟨hBc8,?_⟩;refine jn rfl (j6 Tryz.call28 rfl (nT s _ oO) ?_);rintro _ wc9 ⟨rfl,hBc9⟩;replace hS:=hS.km hBc9;refine⟨hBc9,?_⟩;refine jn rfl (j6 Tryz.call36 rfl (JD (toQ r) (toQ s) _ oO) ?_);rintro _ wc10 ⟨rfl,hBc10⟩;replace hS:=hS.km hBc10;refine⟨hBc10,?_⟩;refine J1 ?_;intro wz11 hS;refine jt ?_;refine mb (k:=0) rfl rfl kf hS rfl rfl ?_;exact⟨rfl,hS.j4⟩
theorem mA (r s:RR) (w:World) (hr:Lr r+Lr s<=MX):
  lU Tryz.prog 16 #[kW r,kW s] w λv w'=>v=kW (j8 (toQ r-toQ s))/\Below w.heap.size w w':=by
 have hL1:=uA r;have hL2:=uA s;have hL3:=BO (toQ s);have hS:=St.init w;refine enter Tryz.func16 rfl Tryz.ntmps16 rfl ?_;refine jr ?_;refine jh (kZ (new:=j5 r) rfl rfl hS ?_);intro b1 wz2 hS hBz2;refine jh (kZ (new:=j5 s) rfl rfl hS ?_);intro b3 wz4 hS hBz4;refine J1 ?_;intro b5 wz6 hS hBz6;refine ja ?_;refine kC [ju 0,ju 2,jv 1,jv 3,jv 4,jv 5,jw 6] kR kR hS ?_;intro wz7 hS hBz7;refine J2 ?_;refine jn rfl (j6 Tryz.call28 rfl (nT r _ oO) ?_);rintro _ wc8 ⟨rfl,hBc8⟩;replace hS:=hS.km hBc8;refine⟨hBc8,?_⟩;refine jn rfl (j6 Tryz.call28 rfl (nT s _ oO) ?_);rintro _ wc9 ⟨rfl,hBc9⟩;replace hS:=hS.km hBc9;refine⟨hBc9,?_⟩;refine jn rfl (j6 Tryz.call37 rfl (Ej (toQ s) _) ?_);rintro _ wc10 ⟨rfl,hBc10⟩;replace hS:=hS.km hBc10;refine⟨hBc10,?_⟩;refine jn rfl (j6 Tryz.call36 rfl (JD (toQ r) (-toQ s) _ oO) ?_);rintro _ wc11 ⟨rfl,hBc11⟩;replace hS:=hS.km hBc11;refine⟨hBc11,?_⟩;refine J1 ?_;intro wz12 hS;refine jt ?_;refine mb (k:=0) rfl rfl kf hS rfl rfl ?_;rw[hJ];exact⟨rfl,hS.j4⟩
def wq (p q:Rat):Rat:=if p<=q then p else q
def Dy (p q:Rat):Rat:=if q<=p then p else q
theorem KV (r s:RR) (w:World) (hr:Lr r+Lr s<=MX):
  lU Tryz.prog 129 #[kW r,kW s] w λv w'=>v=kW (j8 (wq (toQ r) (toQ s)))/\Below w.heap.size w w':=by
 have hS:=St.init w;refine enter Tryz.func129 rfl Tryz.ntmps129 rfl ?_;refine jr ?_;refine jh (kZ (new:=j5 r) rfl rfl hS ?_);intro b1 wz2 hS hBz2;refine jh (kZ (new:=j5 s) rfl rfl hS ?_);intro b3 wz4 hS hBz4;refine J1 ?_;intro b5 wz6 hS hBz6;refine J2 ?_;refine jh (j6 Tryz.call50 rfl (pg r s _ hr) ?_);rintro _ wc7 ⟨rfl,hBc7⟩;replace hS:=hS.km hBc7;refine V1 ?_;by_cases h:toQ r<=toQ s
 ·refine k9 rfl (ao (Lk.2 h)) ?_;refine J1 ?_;refine jh (j6 Tryz.call28 rfl (nT r _ oO) ?_);rintro _ wc8 ⟨rfl,hBc8⟩;replace hS:=hS.km hBc8;refine J1 ?_;intro wz9 hS;refine jt ?_;refine mb (k:=0) rfl rfl kf hS rfl rfl ?_;exact⟨by unfold wq;rw[aj h];rfl,hS.j4⟩
 ·refine lx rfl (ae (λg=>h (Lk.1 g))) ?_;refine J1 ?_;refine jh (j6 Tryz.call28 rfl (nT s _ oO) ?_);rintro _ wc10 ⟨rfl,hBc10⟩;replace hS:=hS.km hBc10;refine J1 ?_;intro wz11 hS;refine jt ?_;refine mb (k:=0) rfl rfl kf hS rfl rfl ?_;exact⟨by unfold wq;rw[ah h];rfl,hS.j4⟩
theorem Ft (r s:RR) (w:World) (hr:Lr r+Lr s<=MX):
  lU Tryz.prog 52 #[kW r,kW s] w λv w'=>v=kW (j8 (Dy (toQ r) (toQ s)))/\Below w.heap.size w w':=by
 have hS:=St.init w;refine enter Tryz.func52 rfl Tryz.ntmps52 rfl ?_;refine jr ?_;refine jh (kZ (new:=j5 r) rfl rfl hS ?_);intro b1 wz2 hS hBz2;refine jh (kZ (new:=j5 s) rfl rfl hS ?_);intro b3 wz4 hS hBz4;refine J1 ?_;intro b5 wz6 hS hBz6;refine J2 ?_;refine jh (j6 Tryz.call50 rfl (pg r s _ hr) ?_);rintro _ wc7 ⟨rfl,hBc7⟩;replace hS:=hS.km hBc7;refine V1 ?_;by_cases h:toQ s<=toQ r
 ·refine k9 rfl (ao (K4.2 h)) ?_;refine J1 ?_;refine jh (j6 Tryz.call28 rfl (nT r _ oO) ?_);rintro _ wc8 ⟨rfl,hBc8⟩;replace hS:=hS.km hBc8;refine J1 ?_;intro wz9 hS;refine jt ?_;refine mb (k:=0) rfl rfl kf hS rfl rfl ?_;exact⟨by unfold Dy;rw[aj h];rfl,hS.j4⟩
 ·refine lx rfl (ae (λg=>h (K4.1 g))) ?_;refine J1 ?_;refine jh (j6 Tryz.call28 rfl (nT s _ oO) ?_);rintro _ wc10 ⟨rfl,hBc10⟩;replace hS:=hS.km hBc10;refine J1 ?_;intro wz11 hS;refine jt ?_;refine mb (k:=0) rfl rfl kf hS rfl rfl ?_;exact⟨by unfold Dy;rw[ah h];rfl,hS.j4⟩
theorem Nf (n:Int):mkRat (sg (decide (n<0)) n.natAbs) 1=(n:Rat):=by
 have h:sg (decide (n<0)) n.natAbs=n:=by
  unfold sg;by_cases h:n<0<;>simp[h]<;>omega
 rw[h];have:=eC (n:Rat);rwa[Rat.num_intCast,Rat.den_intCast]at this
theorem CU {n:Nat} (h:n<18446744073709551616):(kG n).size<=8:=lu h
theorem Fw (n:Int) (w:World) (h1: -9223372036854775808<=n) (h2:n<=9223372036854775807):
  lU Tryz.prog 71 #[.int .i64 n] w λv w'=>v= .string (kG n.natAbs)/\Below w.heap.size w w':=by
 have hS:=St.init w;refine enter Tryz.func71 rfl Tryz.ntmps71 rfl ?_;refine V3 ?_;by_cases h:n<0
 ·refine k9 rfl (ao h) ?_;refine J1 ?_;refine jp (kH rfl Tryz.underlying99 ⟨_,Tryz.underlying2⟩ (r:=((n+18446744073709551616:Int))) (by rw[xm];omega) (jp (NB rfl (r:=((n.natAbs:Nat):Int)) (by rw[xm];omega) (jh (j6 Tryz.call113 rfl (sj n.natAbs _ oO) ?_)))));rintro _ wc1 ⟨rfl,hBc1⟩;replace hS:=hS.km hBc1;refine J1 ?_;refine jt ?_;refine kB rfl rfl ?_;exact⟨rfl,hS.j4⟩
 ·refine lx rfl (ae h) ?_;refine J1 ?_;refine jp (kH rfl Tryz.underlying99 ⟨_,Tryz.underlying2⟩ (r:=((n.natAbs:Nat):Int)) (by rw[xm];omega) (jh (j6 Tryz.call113 rfl (sj n.natAbs _ oO) ?_)));rintro _ wc2 ⟨rfl,hBc2⟩;replace hS:=hS.km hBc2;refine J1 ?_;refine jt ?_;refine kB rfl rfl ?_;exact⟨rfl,hS.j4⟩
theorem mI (n:Int) (w:World) (h1: -9223372036854775808<=n) (h2:n<=9223372036854775807):
  lU Tryz.prog 33 #[.int .i64 n] w λv w'=>v=kW (j8 (n:Rat))/\Below w.heap.size w w':=by
 have hM:MX=1099511627776:=rfl;have hs:=CU (n:=n.natAbs) oO;have hred:=λw=>rX (decide (n<0)) (kG n.natAbs) ⟨#[1]⟩ w oO (by show 1<=_;omega) (by rw[ye];decide);rw[kY,ye,Nf]at hred;have hS:=St.init w;refine enter Tryz.func33 rfl Tryz.ntmps33 rfl ?_;refine J1 ?_;intro b1 wz2 hS hBz2;refine J3 ?_;refine jh (j6 Tryz.call71 rfl (Fw n _ h1 h2) ?_);rintro _ wc3 ⟨rfl,hBc3⟩;replace hS:=hS.km hBc3;refine jh (j6 Tryz.call29 rfl (hred _) ?_);rintro _ wc4 ⟨rfl,hBc4⟩;replace hS:=hS.km hBc4;refine J1 ?_;intro wz5 hS;refine jt ?_;refine mb (k:=0) rfl rfl kf hS rfl rfl ?_;exact⟨rfl,hS.j4⟩
def xL (l:List Rat):Rat:=l.foldl (· + ·) 0
theorem Ez (l:List Rat) (q:Rat):xL (l++[q])=xL l+q:=by unfold xL;rw[eE];rfl
def xN:List RR->Nat
 | []=>0
 |r::l=>Lr r+1+xN l
theorem ue (l m:List RR):xN (l++m)=xN l+xN m:=by
 induction l with
 |nil=>simp[xN]
 |cons r l ih=>simp only[bW,xN,ih];omega
theorem lE {α:Type} (l:List α) (i:Nat) (d:α) (h:i<l.length):l.take (i+1)=l.take i++[l.getD i d]:=by
 rw[jM h,ap,aJ h];rfl
theorem L8 (l:List RR) (i:Nat):xN (l.take i)<=xN l:=by
 conv=>rhs;rw[<-dc i l,ue]
 omega
def kP:RR:=⟨false,⟨#[]⟩,⟨#[]⟩⟩
theorem kE {α:Type} (l:List α) (i:Nat) (d:α) (h:i<l.length):l.getD i d∈l:=by
 rw[ap,aJ h];exact jT h
theorem lz:j5 kP=j5 (j8 0):=by rw[ol];rfl
theorem Ku (v:Value) (l:List RR) (w:World) (hv:Sl j5 3 w v l) (hl:xN l+1<=MX):
  lU Tryz.prog 97 #[v] w λr w'=>r=kW (j8 (xL (l.map toQ)))/\Below w.heap.size w w':=by
 have hM:MX=1099511627776:=rfl;have hmax:=hv.maxLen;have hS:=St.init w;refine enter Tryz.func97 rfl Tryz.ntmps97 rfl ?_;refine J1 ?_;intro b1 wz2 hS hBz2;refine jr ?_;refine jp (kT rfl px ?_);refine J1 ?_;intro b3 wz4 hS hBz4;refine J1 ?_;intro wz5 hS;refine J1 ?_;refine jp (ki rfl (hv.j4 hS.j4) ⟨_,Tryz.underlying34⟩ ?_);refine V1 ?_;replace hS:=hS.cast (H':=[(b3,32,j5 (j8 (xL ((l.take 0).map toQ)))),(b1,32,j5 kP)]) (by rw[show xL ((l.take 0).map toQ)=0 from rfl,<-lz];rfl);refine ku (σ:=Nat) (λi ρ w'=>i<=l.length/\L (xL ((l.take i).map toQ))<=xN (l.take i)+1/\ρ 2=pB b1/\ρ 3=pB b3/\ρ 7=v/\ρ 8=iB l.length/\ρ 9=iB i/\
   St w w' [(b3,32,j5 (j8 (xL ((l.take i).map toQ)))),(b1,32,j5 kP)]) (λi=>l.length-i) 0
  ⟨aB _,by rw[show xL ((l.take 0).map toQ)=0 from rfl,nW];omega,rfl,rfl,rfl,rfl,rfl,hS⟩ ?_
 clear hS;rintro i ρ w2 ⟨hi,hLi,h2,h3,h7,h8,h9,hS⟩;refine V1 ?_;by_cases hlt:i<l.length
 ·refine V1 ?_;have ht:=lE l i kP hlt;have hs1:=L8 l (i+1);rw[ht,ue]at hs1;simp only[xN]at hs1;have hLr:=uA (l.getD i kP);have hadd:=Aw (xL ((l.take i).map toQ)) (toQ (l.getD i kP));refine jr ?_;refine jp (kj (i:=i) h7 h9 (hv.j4 hS.j4) oO dO kK (jq (kt (i:=i) kP rfl kf (hv.j4 hS.j4) dO rfl rfl (.inl rfl) ?_)));refine J1 ?_;intro b6 wz7 hS hBz7;refine J1 ?_;intro wz8 hS;refine ja ?_;replace hS:St w _ [(_,32,j5 (l.getD i kP)),(b3,32,j5 (j8 (xL ((l.take i).map toQ)))),(b1,32,j5 kP)]:=hS;refine ja ?_;refine kC [ju 0,ju 1,jv 2,jv 3,jw 4] kR kR hS ?_;intro wz9 hS hBz9;refine J2 ?_;refine jn rfl (j6 Tryz.call28 rfl (nT (l.getD i kP) _ oO) ?_);rintro _ wc10 ⟨rfl,hBc10⟩;replace hS:=hS.km hBc10;refine⟨hBc10,?_⟩;refine jn rfl (j6 Tryz.call36 rfl (JD (xL ((l.take i).map toQ)) (toQ (l.getD i kP)) _ oO) ?_);rintro _ wc11 ⟨rfl,hBc11⟩;replace hS:=hS.km hBc11;refine⟨hBc11,?_⟩;refine J1 ?_;intro wz12 hS;refine ja ?_;have he:xL ((l.take (i+1)).map toQ)=xL ((l.take i).map toQ)+toQ (l.getD i kP):=by rw[ht,bH,jB,Ez]
  rw[<-he]at hadd;replace hS:St w _ [(_,32,j5 (l.getD i kP)),(b3,32,j5 (j8 (xL ((l.take i).map toQ)+toQ (l.getD i kP)))),(b1,32,j5 kP)]:=hS;rw[<-he]at hS;refine V2 ?_;exact⟨i+1,_,rfl,⟨hlt,by rw[ht,ue]at*;simp only[xN];omega,h2,h3,h7,h8,vi rfl oO,hS.drop (ab _ _)⟩,oO⟩
 ·refine J1 ?_;refine jt ?_;obtain rfl:i=l.length:=oO;rw[bR]at hS;refine J2 ?_;intro wz13 hS;refine jt ?_;refine mb (k:=1) rfl h2 kf hS rfl rfl ?_;exact⟨rfl,hS.j4⟩
theorem x7 (s:ByteArray) (w:World) (hs:s.size<=9223372036854775807):
  lU Tryz.prog 120 #[.string s] w λv w'=>v= .string (kG (val s))/\w'=w:=by
 refine enter Tryz.func120 rfl Tryz.ntmps120 rfl ?_;refine V2 ?_;refine ku (σ:=Nat) (λk ρ w'=>k<=s.size/\(∀i (_:i<k) (h:i<s.size),s[i]=0)/\ρ 0= .string s/\ρ 3=iB k/\w'=w) (λk=>s.size-k) 0
  ⟨oO,λi h=>oO,rfl,rfl,rfl⟩ ?_
 rintro k ρ w' ⟨hk,hz,h0,h3,rfl⟩;by_cases hlt:k<s.size
 ·refine J5 ?_;refine ke (j7 8 kR rfl dT) (ko h0 (ke (j7 8 kR rfl dT) (ko h3 (ke (j7 8 kR rfl dT) (wA (i:=k) rfl rfl oO oO Tryz.underlying9 (ke (j7 8 kR rfl dT) (qV rfl rfl (jp (kA (vb rfl dT) rfl ?_)))))))));refine ja ?_;by_cases h:s[k]=0
  ·refine k9 rfl (ao (by rw[h];rfl)) ?_;refine V3 ?_;refine⟨k+1,_,rfl,⟨oO,λi hi hi'=> ?_,h0,vi rfl oO,rfl⟩,oO⟩;rcases bI i k with h2|h2
   ·exact hz i h2 hi'
   ·obtain rfl:i=k:=oO;exact h
  ·refine lx rfl (ae (λg=>h (jW.1 (by simp at g;exact g)))) ?_;refine J2 ?_;refine jp (EY (lo:=k) rfl rfl rfl oO Tryz.underlying9 ?_);refine J1 ?_;refine jt ?_;refine kB rfl rfl ?_;exact⟨bQ Value.string (xt s k hk hz (.inr ⟨hlt,h⟩)),rfl⟩
 ·refine J5 ?_;refine kL (ka 8 kR rfl dF) (kL (ka 8 kR rfl dF) (kL (ka 8 kR rfl dF) (kL (ka 8 kR rfl dF) (jp (kA (vb rfl dF) rfl ?_)))));refine ja ?_;refine lx rfl (rfl) ?_;refine J2 ?_;refine jp (EY (lo:=k) rfl rfl rfl oO Tryz.underlying9 ?_);refine J1 ?_;refine jt ?_;refine kB rfl rfl ?_;exact⟨bQ Value.string (xt s k hk hz (.inl oO)),rfl⟩
theorem Dz (V:Nat):(kJ V).length=((kG V).size+3)/4:=by
 obtain⟨k,hk⟩:=jz ((kG V).size);rw[<-hk];rcases dm V with h0|h0
 ·subst h0;rw[rZ,nL]at hk;unfold kJ;rw[nL,hk];rfl
 ·have h1:V<256^k:=by rw[hk];exact qd V
  have h2:256^(k-1)<=V:=by
   refine rN dD ?_;rw[<-rZ,<-hk];have:1<=k:=by rw[hk];exact uu h0
   omega
  have h3:(kJ V).length<=(k+3)/4:=by
   refine wy (dw h1 ?_);rw[show kb=256^4 from rfl,<-fF];exact bM dD oO
  have h4:(k+3)/4<=(kJ V).length:=by
   rcases bI (kJ V).length ((k+3)/4)with h|h
   ·exfalso;have h5:=lN V;have h6:kb^(kJ V).length<=256^(k-1):=by
     rw[show kb=256^4 from rfl,<-fF];exact bM dD oO
    omega
   ·exact h
  omega
theorem Qb (V:Nat):pad kb V (kJ V).length=kJ V:=by
 have h:=vv (b:=kb) dD (pad kb V (kJ V).length) (kJ V).length (sP dD _ _) (by simp) (λi h1 h2=>by simp at h2;omega) ?_
 ·rw[mP (lN V),aV (by simp)]at h;exact h
 ·rcases dm (kJ V).length with h0|h0
  ·exact .inl h0
  ·right;rw[nS _ _ oO];have hV:0<V:=by
    rcases dm V with g|g
    ·rw[g]at h0;unfold kJ at h0;rw[nL]at h0;exact absurd h0 (by simp)
    ·exact g
   have:=(zx hV).2;omega
theorem Ec (s:ByteArray) (w:World) (hs:s.size<=70368744177664):
  lU Tryz.prog 77 #[.string s] w λr w'=>Sl (uk .u32) 1 w' r (kJ (val s))/\Below w.heap.size w w':=by
 have hS:=St.init w;have hsz:=p8 s;refine enter Tryz.func77 rfl Tryz.ntmps77 rfl ?_;refine J2 ?_;refine jh (j6 Tryz.call120 rfl (x7 _ _ oO) ?_);rintro _ wq1 ⟨rfl,hq1⟩;replace hq1:=hq1.symm;subst hq1;refine V1 ?_;obtain⟨V,hV⟩:=jz (val s);rw[<-hV];rw[<-hV]at hsz;obtain⟨S,hSe⟩:=jz (kG V);have hvS:val S=V:=by rw[hSe,kY]
 have hlen:=Dz V;rw[<-hSe]at hlen hsz;rw[<-hSe];refine J3 ?_;refine jp (rL rfl rfl oO (r:=(((S.size+3)/4:Nat):Int)) (by exact gn _ _ oO) (jh (pN (n:=(S.size+3)/4) rfl rfl lK oO oO oO oO hS ?_)));intro b2 wz3 hS hBz3;refine V2 ?_;obtain⟨n,hn⟩:=jz ((S.size+3)/4);rw[<-hn,<-oJ kb n,show 0=V%256^0 by rw[cU,dZ]]at hS;refine ku (σ:=Nat) (λi ρ w'=>i<=S.size/\ρ 0= .string S/\ρ 3= .slice (some ⟨b2,0,none⟩) n n/\ρ 4=iB i/\St w w' [(b2,141,Kr .u32 (pad kb (V%256^i) n))]) (λi=>S.size-i) 0
  ⟨aB _,rfl,by rw[hn];rfl,rfl,hS⟩ ?_
 clear hS;rintro i ρ w2 ⟨hi,h0,h3,h4,hS⟩;refine V4 ?_;by_cases hlt:i<S.size
 ·refine V1 ?_;have hb:=AW S i hlt;rw[hvS]at hb;have hl:=qF (b:=kb) dD (V%256^i) (i/4);have hd:=qF (b:=256) dD V i;have hg:(pad kb (V%256^i) n).getD (i/4) 0=kS kb (V%256^i) (i/4):=nS _ _ oO;have hp:2^(8*(i%4))<=2^24:=bM dD oO;have hq:kS 256 V i*2^(8*(i%4))<4294967296:=ct (fg (Nat.le_of_lt_succ hd) hp) dD;refine ja ?_;refine kC [jo 0,jo 1,jo 2,jo 3,jo 4,jo 5,jo 6,ju 7,jo 8,jo 9,jo 10,jo 11,jo 12,jo 13,jo 14,jo 15,jo 16,jo 17,jo 18,jo 19,jo 20,jo 21,jo 22,jw 23] kR kR hS ?_;intro wz4 hS hBz4;refine J2 ?_;refine jl rfl (rL rfl rfl oO (r:=((i/4:Nat):Int)) (by exact gn _ _ oO) ?_);refine J2 ?_;refine jl rfl (rL rfl rfl oO (r:=((i/4:Nat):Int)) (by exact gn _ _ oO) (jl rfl (kD (i:=i/4) rfl rfl oO dO lK (jm rfl (nN (k:=0) (i:=i/4) rfl kI hS rfl oO dO ?_)))));refine J6 ?_;refine jl rfl (wA (i:=S.size-1-i) rfl rfl oO oO Tryz.underlying9 (jl rfl (kH rfl Tryz.underlying141 ⟨_,Tryz.underlying5⟩ (r:=((kS 256 V i:Nat):Int)) (by rw[hb];exact fm _ oO) ?_)));refine J1 ?_;refine jl rfl (pC rfl rfl oO (r:=((i%4:Nat):Int)) (by rfl) (jl rfl (wk rfl rfl (r:=((8*(i%4):Nat):Int)) (by exact oN _ oO) (jl rfl (kH rfl Tryz.underlying94 ⟨_,Tryz.underlying3⟩ (r:=((8*(i%4):Nat):Int)) (by exact fk _ oO) (jl rfl (uS rfl rfl oO (uX _ _ _ (show _<=32 by omega) (pm _ ⟨rfl,oO,oO⟩)) (jl rfl (zt rfl rfl (rj rfl _ _ (by rw[hg];exact hl) hq) (jl rfl (kD (i:=i/4) rfl rfl oO dO lK (jx rfl (pf (k:=0) (i:=i/4) (a:=_) rfl rfl rfl kI hS rfl oO dO ?_)))))))))))));intro wz5 hS;refine ja ?_;rw[hg,Ha]at hS;refine V3 ?_;exact⟨i+1,_,rfl,⟨hlt,h0,h3,vi rfl oO,hS⟩,oO⟩
 ·refine J1 ?_;refine jt ?_;obtain rfl:i=S.size:=oO;have hval:V<256^S.size:=by rw[<-hvS];exact E7 S
  rw[bh hval,show n=(kJ V).length by omega,Qb]at hS;have hsl:=hS.Iu (k:=0) rfl (n:=n) (cap:=n) oO (aH _) oO;rw[aV oO]at hsl;refine J2 ?_;refine jt ?_;refine kB rfl rfl ?_;exact⟨hsl,hS.j4⟩
theorem uW (v:Value) (L:List Nat) (w:World) (hv:Sl (uk .u32) 1 w v L) (hL:∀d∈L,d<kb):
  lU Tryz.prog 123 #[v] w λr w'=>Sl (uk .u32) 1 w' r (kJ (lA kb L))/\w'=w:=by
 have hmax:=hv.maxLen;refine enter Tryz.func123 rfl Tryz.ntmps123 rfl ?_;refine J2 ?_;refine jp (ki rfl hv ⟨_,Tryz.underlying138⟩ ?_);refine V1 ?_;refine ku (σ:=Nat) (λn ρ w'=>n<=L.length/\(∀i,n<=i->i<L.length->L.getD i 0=0)/\ρ 0=v/\ρ 3=iB n/\w'=w) (λn=>n) L.length
  ⟨aH _,λi h1 h2=>oO,rfl,rfl,rfl⟩ ?_
 rintro n ρ w' ⟨hn,hz,h0,h3,rfl⟩;have hdone:(n=0\/L.getD (n-1) 0≠0)->L.take n=kJ (lA kb L):=λh=>vv (b:=kb) dD L n hL hn hz h;by_cases hpos:0<n
 ·by_cases hl:L.getD (n-1) 0=0
  ·refine J3 ?_;refine ke (j7 8 kR rfl dT) (ko h0 (ke (j7 8 kR rfl dT) (ko h3 (ke (j7 8 kR rfl dT) (sk rfl rfl (cF _ oO) (ke (j7 8 kR rfl dT) (kj (i:=n-1) rfl rfl hv oO dO lK (lj (j7 8 kR rfl dT) (kt (i:=n-1) 0 rfl kI hv dO rfl rfl (.inr rfl) (ke (j7 8 kR rfl dT) (qV rfl rfl (jp (kA (vb rfl dT) rfl ?_)))))))))))));refine V4 ?_;refine⟨n-1,_,rfl,⟨oO,λi h1 h2=> ?_,h0,vi rfl oO,rfl⟩,oO⟩;rcases bI i n with h4|h4
   ·rw[show i=n-1 by omega];exact hl
   ·exact hz i h4 h2
  ·refine J3 ?_;refine ke (j7 8 kR rfl dT) (ko h0 (ke (j7 8 kR rfl dT) (ko h3 (ke (j7 8 kR rfl dT) (sk rfl rfl (cF _ oO) (ke (j7 8 kR rfl dT) (kj (i:=n-1) rfl rfl hv oO dO lK (lj (j7 8 kR rfl dT) (kt (i:=n-1) 0 rfl kI hv dO rfl rfl (.inr rfl) (ke (j7 8 kR rfl dT) (qV rfl rfl (jp (kA (vb rfl dT) rfl ?_)))))))))))));refine J3 ?_;refine jp (y4 (hi:=n) rfl rfl hv rfl hn lK ?_);refine J1 ?_;refine jt ?_;refine kB rfl rfl ?_;refine⟨?_,rfl⟩;rw[<-hdone (.inr hl)];exact hv.sub (Af _) dD (aB n) hn
 ·refine J3 ?_;refine kL (ka 8 kR rfl dF) (kL (ka 8 kR rfl dF) (kL (ka 8 kR rfl dF) (kL (ka 8 kR rfl dF) (kL (ka 8 kR rfl dF) (kL (ka 8 kR rfl dF) (jp (kA (vb rfl dF) rfl ?_)))))));refine ja ?_;refine lx rfl (rfl) ?_;refine J2 ?_;refine jp (y4 (hi:=n) rfl rfl hv rfl hn lK ?_);refine J1 ?_;refine jt ?_;refine kB rfl rfl ?_;refine⟨?_,rfl⟩;rw[<-hdone (.inl oO)];exact hv.sub (Af _) dD (aB n) hn
theorem Jb (V k q x:Nat) (hk:0<k) (hx:x=kS kb V (k-1)):
  (pad 256 (V/kb^(k-1)) (q+4)).reverse=(pad 256 (V/kb^k) q).reverse++[x/16777216%256,x/65536%256,x/256%256,x%256]:=by
 have h:=oZ kb V (k-1);rw[show k-1+1=k by omega,<-hx]at h;have hlt:x<kb:=by rw[hx];exact qF dD _ _
 rw[h];generalize V/kb^k=U;have hB:kb=4294967296:=rfl;rw[show q+4=q+1+1+1+1 from rfl,wQ,wQ,wQ,wQ];simp only[jN,aI,bW,ca];rw[hB]at hlt⊢;have e1:(4294967296*U+x)/256/256/256/256=U:=oO;have e2:(4294967296*U+x)/256/256/256%256=x/16777216%256:=oO;have e3:(4294967296*U+x)/256/256%256=x/65536%256:=oO;have e4:(4294967296*U+x)/256%256=x/256%256:=oO;have e5:(4294967296*U+x)%256=x%256:=oO;rw[e1,e2,e3,e4,e5]
theorem BS (v:Value) (L:List Nat) (w:World) (hv:Sl (uk .u32) 1 w v L) (hL:∀d∈L,d<kb) (hs:L.length<=17592186044416):
  lU Tryz.prog 79 #[v] w λr w'=>r= .string (kG (lA kb L))/\Below w.heap.size w w':=by
 have hS:=St.init w;obtain⟨V,hV⟩:=jz (lA kb L);refine enter Tryz.func79 rfl Tryz.ntmps79 rfl ?_;refine J2 ?_;refine jh (j6 Tryz.call123 rfl (uW v L _ hv hL) ?_);rintro _ wq1 ⟨hl,hq1⟩;replace hq1:=hq1.symm;subst hq1;refine V1 ?_;rename_i vl;rw[<-hV]at hl⊢;obtain⟨m,hm⟩:=jz ((kJ V).length);have hVm:V<kb^m:=by rw[hm];exact lN V
 have hmL:m<=L.length:=by
  rw[hm];refine wy ?_;rw[hV];exact tu L hL
 refine J1 ?_;refine jp (ki rfl hl ⟨_,Tryz.underlying138⟩ (jp (wk rfl rfl (cF _ oO) (jh (NU (enc:=uk .u8) (n:=4*m) rfl rfl C4 oO oO oO oO hS ?_)))));intro va2 La2 wa2 hG hS hBa2;refine J2 ?_;refine jp (ki rfl (hl.j4 hS.j4) ⟨_,Tryz.underlying138⟩ ?_);refine V2 ?_;refine ku (σ:=Nat) (λk ρ w'=>k<=m/\ρ 0=vl/\ρ 4=iB ((k:Int)-1)/\∃vb Lb,ρ 3=vb/\Gl (uk .u8) 5 1 vb ((pad 256 (V/kb^k) (4*(m-k))).reverse) Lb/\St w w' ([]++Lb)) (λk=>k) m
  ⟨aH _,rfl,vi rfl oO,⟨_,_,rfl,by rw[ec];exact hG,hS⟩⟩ ?_
 clear hS;rintro k ρ w3 ⟨hk,h0,h4,vb,Lb,h3,hG,hS⟩;refine V2 ?_;have hlenG:((pad 256 (V/kb^k) (4*(m-k))).reverse).length=4*(m-k):=by simp
 by_cases hk0:0<k
 ·refine J3 ?_;refine jp (kj (i:=k-1) rfl rfl (hl.j4 hS.j4) oO dO lK (jq (kt (i:=k-1) 0 rfl kI (hl.j4 hS.j4) dO rfl rfl (.inr rfl) ?_)));refine V1 ?_;have hx:=l9 V (k-1);have hxl:=lV V (k-1);rw[hx];obtain⟨x,hxe⟩:=jz (kS kb V (k-1));rw[<-hxe]at hxl⊢;have h4b:=Jb V k (4*(m-k)) x hk0 hxe;refine J2 ?_;refine jp (pW rfl rfl oO (r:=((x/16777216:Nat):Int)) (by exact qg (k:= .u32) x 24 dD) (jp (kH rfl Tryz.underlying5 ⟨_,Tryz.underlying141⟩ (uj _) ?_)));refine J1 ?_;refine jp (pW rfl rfl oO (r:=((x/65536:Nat):Int)) (by exact qg (k:= .u32) x 16 dD) (jp (kH rfl Tryz.underlying5 ⟨_,Tryz.underlying141⟩ (uj _) ?_)));refine J1 ?_;refine jp (pW rfl rfl oO (r:=((x/256:Nat):Int)) (by exact qg (k:= .u32) x 8 dD) (jp (kH rfl Tryz.underlying5 ⟨_,Tryz.underlying141⟩ (uj _) ?_)));refine J1 ?_;refine jp (kH rfl Tryz.underlying5 ⟨_,Tryz.underlying141⟩ (uj _) (jh (mD (vs:=[_,_,_,_]) rfl C4 rfl dD dD dD (by simp[Value.cells]) rfl hS ?_)));intro b3 wz4 hS hBz4;refine jh (mf [x/16777216%256,x/65536%256,x/256%256,x%256] rfl rfl C4 dD hG hS rfl rfl (Af _) (TR _ [x/16777216%256,x/65536%256,x/256%256,x%256]) dL dL ?_);intro va5 La5 wa5 hG hS hga5;refine V1 ?_;rw[<-h4b,show 4*(m-k)+4=4*(m-(k-1)) by omega]at hG;refine V3 ?_;exact⟨k-1,_,rfl,⟨oO,h0,vi rfl oO,⟨_,_,rfl,hG,hS⟩⟩,oO⟩
 ·refine J1 ?_;refine jt ?_;obtain rfl:k=0:=oO;rw[cU,ft,Nat.sub_zero]at hG;have hVlt:V<256^(4*m):=by rw[fF];exact hVm
  have hsz:(zI (pad 256 V (4*m)).reverse).size<=9223372036854775807:=by rw[Ey];simp;omega
  refine J1 ?_;refine jq (TW rfl ⟨Tryz.underlying189,Tryz.underlying5,Tryz.underlying9⟩ hG hS (jh (j6 Tryz.call120 rfl (x7 _ _ hsz) ?_)));rintro _ wq6 ⟨rfl,hq6⟩;replace hq6:=hq6.symm;subst hq6;refine J1 ?_;refine jt ?_;refine kB rfl rfl ?_;rw[HQ,bh hVlt];exact⟨rfl,hS.j4⟩
theorem uZ (u:Nat) (w:World) (hu:u<18446744073709551616):
  lU Tryz.prog 42 #[.int .u64 u] w λr w'=>r= .string (kG u)/\Below w.heap.size w w':=by
 have hS:=St.init w;refine enter Tryz.func42 rfl Tryz.ntmps42 rfl ?_;refine J2 ?_;refine jp (kH rfl Tryz.underlying141 ⟨_,Tryz.underlying99⟩ (r7 _) ?_);refine J1 ?_;refine jp (pW rfl rfl oO (r:=((u/4294967296:Nat):Int)) (by exact qg _ 32 dD) (jp (kH rfl Tryz.underlying141 ⟨_,Tryz.underlying99⟩ (r:=((u/4294967296:Nat):Int)) (by exact pm _ oO) (jh (mD (vs:=[_,_]) rfl lK rfl dD dD dD (by simp[Value.cells]) rfl hS ?_)))));intro b1 wz2 hS hBz2;have hsl:=St.Iu (L:=[u%4294967296,u/4294967296]) hS (k:=0) rfl (n:=2) (cap:=2) (by simp) oO oO;have hd:∀d∈[u%4294967296,u/4294967296],d<kb:=by
  intro d hd;simp only[bJ,df,fM]at hd;unfold kb;omega
 refine jh (j6 Tryz.call79 rfl (BS _ _ _ hsl hd (by simp)) ?_);rintro _ wc3 ⟨rfl,hBc3⟩;replace hS:=hS.km hBc3;refine J1 ?_;refine jt ?_;refine kB rfl rfl ?_;exact⟨vs rfl (bQ kG (BQ u)),hS.j4⟩
theorem MS (u v:Value) (m n:Nat) (w:World) (hu:Sl (uk .u32) 1 w u (kJ m)) (hv:Sl (uk .u32) 1 w v (kJ n)):
  lU Tryz.prog 162 #[u,v] w λr w'=>r= .int .i64 (sn m n)/\Below w.heap.size w w':=by
 have hlu:=hu.maxLen;have hlv:=hv.maxLen;have hS:=St.init w;refine enter Tryz.func162 rfl Tryz.ntmps162 rfl ?_;refine J2 ?_;refine jp (ki rfl (hu.j4 hS.j4) ⟨_,Tryz.underlying138⟩ ?_);refine J1 ?_;refine jp (ki rfl (hv.j4 hS.j4) ⟨_,Tryz.underlying138⟩ ?_);refine V1 ?_;by_cases hl:(kJ m).length=(kJ n).length
 ·refine lx rfl (ae (by simp[hl])) ?_;refine J1 ?_;refine jp (ki rfl (hu.j4 hS.j4) ⟨_,Tryz.underlying138⟩ ?_);refine V2 ?_;refine ku (σ:=Nat) (λi ρ w'=>i<=(kJ m).length/\m/kb^i=n/kb^i/\ρ 0=u/\ρ 1=v/\ρ 5=iB ((i:Int)-1)/\St w w' []) (λi=>i) (kJ m).length
   ⟨aH _,?_,rfl,rfl,rfl,hS⟩ ?_
  ·have h1:m<kb^(kJ m).length:=mT dD m;have h2:n<kb^(kJ n).length:=mT dD n;rw[bV h1,hl,bV h2]
  clear hS;rintro i ρ w' ⟨hi,hq,h0,h1,h5,hS⟩;refine V2 ?_;by_cases hpos:0<i
  ·refine V1 ?_;have hlen:i-1<(kJ m).length:=oO;refine ja ?_;refine kC [jo 0,jo 1,jo 2,ju 3,jo 4,jo 5,jo 6,ju 7,jo 8] kR kR hS ?_;intro wz1 hS hBz1;refine J2 ?_;refine jl rfl (kj (i:=i-1) rfl rfl (hu.j4 hS.j4) oO dO lK (jm rfl (kt (i:=i-1) 0 rfl kI (hu.j4 hS.j4) dO rfl rfl (.inr rfl) ?_)));refine J2 ?_;refine jl rfl (kj (i:=i-1) rfl rfl (hv.j4 hS.j4) oO dO lK (jm rfl (kt (i:=i-1) 0 rfl kI (hv.j4 hS.j4) dO rfl rfl (.inr rfl) ?_)));refine V1 ?_;rw[l9,l9];have hs1:=oZ kb m (i-1);have hs2:=oZ kb n (i-1);rw[show i-1+1=i by omega]at hs1 hs2;by_cases hne:kS kb m (i-1)=kS kb n (i-1)
   ·refine V4 ?_;exact⟨i-1,_,rfl,⟨oO,by rw[hs1,hs2,hq,hne],h0,h1,vi rfl oO,hS⟩,oO⟩
   ·refine V1 ?_;refine kC [jo 0,jo 1,jo 2,ju 3,jo 4,jo 5,jo 6,ju 7,jo 8] kR kR hS ?_;intro wz2 hS hBz2;refine J2 ?_;refine jl rfl (kj (i:=i-1) rfl rfl (hu.j4 hS.j4) oO dO lK (jm rfl (kt (i:=i-1) 0 rfl kI (hu.j4 hS.j4) dO rfl rfl (.inr rfl) ?_)));refine J2 ?_;refine jl rfl (kj (i:=i-1) rfl rfl (hv.j4 hS.j4) oO dO lK (jm rfl (kt (i:=i-1) 0 rfl kI (hv.j4 hS.j4) dO rfl rfl (.inr rfl) ?_)));refine V1 ?_;rw[l9,l9];by_cases hlt:kS kb m (i-1)<kS kb n (i-1)
    ·refine J2 ?_;refine jt ?_;refine kB rfl rfl ?_;refine⟨vi rfl (tZ (sf (b:=kb) (i:=i-1) ?_)).symm,hS.j4⟩;rw[hs1,hs2,hq];omega
    ·refine J2 ?_;refine jt ?_;refine kB rfl rfl ?_;refine⟨vi rfl (ug (sf (b:=kb) (i:=i-1) ?_)).symm,hS.j4⟩;rw[hs1,hs2,hq];omega
  ·refine J2 ?_;refine jt ?_;refine kB rfl rfl ?_;obtain rfl:i=0:=oO;rw[cU,ft,ft]at hq;rw[hq];exact⟨vi rfl (by rw[xB]),hS.j4⟩
 ·refine J2 ?_;refine jp (ki rfl (hu.j4 hS.j4) ⟨_,Tryz.underlying138⟩ ?_);refine J1 ?_;refine jp (ki rfl (hv.j4 hS.j4) ⟨_,Tryz.underlying138⟩ ?_);refine V1 ?_;by_cases hlt:(kJ m).length<(kJ n).length
  ·refine J2 ?_;refine jt ?_;refine kB rfl rfl ?_;exact⟨vi rfl (tZ (ub hlt)).symm,hS.j4⟩
  ·refine J2 ?_;refine jt ?_;refine kB rfl rfl ?_;exact⟨vi rfl (ug (ub oO)).symm,hS.j4⟩
theorem MU (vx:Value) (X d:Nat) (w:World) (hx:Sl (uk .u32) 1 w vx (kJ X)) (hd:0<d) (hd2:d<=4294967295) (hmx:(kJ X).length<=17592186044416):
  lU Tryz.prog 163 #[vx,.int .u32 d] w λr w'=>(∃v,r= .tuple #[v,.int .u32 (X%d:Nat)]/\Sl (uk .u32) 1 w' v (kJ (X/d)))/\Below w.heap.size w w':=by
 have hS:=St.init w;obtain⟨n,hn⟩:=jz ((kJ X).length);have hXn:X<kb^n:=hn▸lN X;refine enter Tryz.func163 rfl Tryz.ntmps163 rfl ?_;refine J3 ?_;refine jp (ki rfl (hx.j4 hS.j4) ⟨_,Tryz.underlying138⟩ (jh (pN (n:=(kJ X).length) rfl rfl lK oO oO oO oO hS ?_)));intro b1 wz2 hS hBz2;refine J3 ?_;refine jp (ki rfl (hx.j4 hS.j4) ⟨_,Tryz.underlying138⟩ ?_);refine V2 ?_;rw[<-hn,<-oJ kb n]at hS;refine ku (σ:=Nat×Nat×Nat) (λs ρ w'=>s.1<=n/\s.2.2<d/\X/kb^s.1=s.2.1*d+s.2.2/\kb^s.1*s.2.1<kb^n/\ρ 0=vx/\ρ 1= .int .u32 d/\ρ 6= .slice (some ⟨b1,0,none⟩) n n/\ρ 7= .int .u64 s.2.2/\ρ 8=iB ((s.1:Int)-1)/\St w w' [(b1,141,Kr .u32 (pad kb (kb^s.1*s.2.1) n))]) (λs=>s.1) (n,0,0)
  ⟨aH _,hd,by simp only[fp];exact bV hXn,by simp only[eV];omega,rfl,rfl,by rw[hn];rfl,rfl,vi rfl (by rw[hn]),hS⟩ ?_
 clear hS;rintro⟨i,q,r⟩ ρ w3 ⟨hi,hr,hinv,hq,h0,h1,h6,h7,h8,hS⟩;simp only at hi hr hinv hq h0 h1 h6 h7 h8 hS;refine V2 ?_;by_cases hlt:0<i
 ·refine V1 ?_;have hil:i-1<(kJ X).length:=oO;have x1:=lV X (i-1);have hg:(kJ X).getD (i-1) 0=kS kb X (i-1):=l9 X (i-1);have hor:r*2^32|||kS kb X (i-1)=kS kb X (i-1)+r*2^32:=by rw[gk];exact ut _ _ _ oO
  refine J1 ?_;refine jp (uS rfl rfl oO (r:=((r*2^32:Nat):Int)) (by exact uX r 32 _ dD (kX _ ⟨rfl,oO,oO⟩)) ?_);refine J2 ?_;refine jp (kj (i:=i-1) rfl rfl (hx.j4 hS.j4) oO dO lK (jq (kt (i:=i-1) 0 rfl kI (hx.j4 hS.j4) dO rfl rfl (.inr rfl) (jp (kH rfl Tryz.underlying99 ⟨_,Tryz.underlying141⟩ (r:=((kS kb X (i-1):Nat):Int)) (by rw[hg];exact kX _ ⟨rfl,oO,oO⟩) (jp (zt rfl rfl (r:=((kS kb X (i-1)+r*2^32:Nat):Int)) (by rw[<-hor];exact rj rfl _ _ (by show _<18446744073709551616;omega) (by show _<18446744073709551616;omega)) ?_)))))));refine V1 ?_;obtain⟨t,ht⟩:=jz (kS kb X (i-1)+r*2^32);rw[<-ht];have ht1:t/d<=4294967295:=by
   have:t<d*4294967296:=by
    have:(r+1)*4294967296<=d*4294967296:=aO _ hr;omega
   have:=di this;omega
  refine J4 ?_;refine jp (kH rfl Tryz.underlying99 ⟨_,Tryz.underlying141⟩ (r:=((d:Nat):Int)) (by exact kX _ ⟨rfl,oO,oO⟩) (jp (rL rfl rfl oO (i7 _ _ oO) (jp (kH rfl Tryz.underlying141 ⟨_,Tryz.underlying99⟩ (r:=((t/d:Nat):Int)) (by exact pm _ ⟨by push_cast;rfl,eh _,by generalize t/d=z at ht1⊢;omega⟩) (jp (kD (i:=i-1) rfl rfl oO dO lK (jh (pf (k:=0) (i:=i-1) (a:=_) rfl rfl rfl kI hS rfl oO dO ?_)))))))));intro wz3 hS;refine J2 ?_;refine jp (kH rfl Tryz.underlying99 ⟨_,Tryz.underlying141⟩ (r:=((d:Nat):Int)) (by exact kX _ ⟨rfl,oO,oO⟩) (jp (pC rfl rfl oO (r:=((t%d:Nat):Int)) (by rw[fi oO];push_cast;rfl) ?_)));refine V1 ?_;obtain⟨e1,e2⟩:=tW (b:=kb) (q:=q) (i:=i) (e:=t/d) (n:=n) dD (by unfold kb;omega) hlt hi hq;rw[eg,e1]at hS;refine V3 ?_;have hs:=oZ kb X (i-1);rw[show i-1+1=i by omega,hinv]at hs;refine⟨(i-1,kb*q+t/d,t%d),_,rfl,⟨by simp only;omega,bG _ hd,?_,e2,h0,h1,h6,rfl,vi rfl (by simp only;omega),hS⟩,by simp only;omega⟩;simp only;have h9:=cJ t d;have h10:kb=2^32:=rfl;rw[hs,bA,ba,bk,dU,dU,bF (t/d) d,h9,ht,h10];omega
 ·refine J1 ?_;refine jt ?_;obtain rfl:i=0:=oO;rw[cU,ft]at hinv;rw[cU,dJ]at hS hq;have hqd:X/d=q:=by rw[hinv,fa,iW _ _ hd,bV hr,bZ]
  have hrd:X%d=r:=by rw[hinv,ic,bh hr]
  have hsl:=hS.Iu (k:=0) rfl (n:=n) (cap:=n) (by simp) (aH _) oO;rw[aV (by simp)]at hsl;refine J1 ?_;refine jh (j6 Tryz.call123 rfl (uW _ _ _ hsl (sP dD _ _)) ?_);rintro _ wq4 ⟨hv,hq4⟩;replace hq4:=hq4.symm;subst hq4;refine J1 ?_;refine jp (kH rfl Tryz.underlying141 ⟨_,Tryz.underlying99⟩ (r:=((r:Nat):Int)) (by exact pm _ ⟨rfl,oO,oO⟩) ?_);refine J2 ?_;refine jt ?_;refine rD rfl rfl rfl ?_;rw[mP hq]at hv;rw[hqd,hrd];exact⟨⟨_,rfl,hv⟩,hS.j4⟩
theorem AF (vx:Value) (X c n:Nat) (w:World) (hx:Sl (uk .u32) 1 w vx (kJ X)) (hc:c<32) (hn:(kJ X).length+1=n) (hmx:n<=17592186044416):
  lU Tryz.prog 184 #[vx,.int .u64 c] w λr w'=>
   (∃b,r= .slice (some ⟨b,0,none⟩) n n/\w.heap.size<=b/\w'.heap[b]?=some (.cells (Kr .u32 (pad kb (X*2^c) n)).toArray 141 (0,0)))/\Below w.heap.size w w':=by
 have hS:=St.init w;obtain⟨m,hm⟩:=jz ((kJ X).length);have hXm:X<kb^m:=hm▸lN X;have hp2:2^c<=2^31:=bM dD oO;have hpos:0<2^c:=cG dD;refine enter Tryz.func184 rfl Tryz.ntmps184 rfl ?_;refine J2 ?_;refine jp (ki rfl (hx.j4 hS.j4) ⟨_,Tryz.underlying138⟩ ?_);refine J1 ?_;refine jh (pN (n:=n) rfl rfl lK oO oO oO oO hS ?_);intro b1 wz2 hS hBz2;refine V2 ?_;rw[<-oJ kb n]at hS;refine ku (σ:=Nat) (λi ρ w'=>i<=m/\ρ 0=vx/\ρ 1= .int .u64 c/\ρ 5= .slice (some ⟨b1,0,none⟩) n n/\ρ 6=iB i/\St w w' [(b1,141,Kr .u32 (pad kb (X%kb^i*2^c) n))]) (λi=>m-i) 0
  ⟨aB _,rfl,rfl,rfl,rfl,by rw[cU,dZ,fp];exact hS⟩ ?_
 clear hS;rintro i ρ w3 ⟨hi,h0,h1,h5,h6,hS⟩;refine J2 ?_;refine jp (ki rfl (hx.j4 hS.j4) ⟨_,Tryz.underlying138⟩ ?_);refine V1 ?_;by_cases hlt:i<m
 ·refine V1 ?_;have hil:i<(kJ X).length:=oO;have x1:=lV X i;obtain⟨x,hxd⟩:=jz (kS kb X i);rw[<-hxd]at x1;have hx2:x*2^c<=4294967295*2^31:=fg x1 hp2;obtain⟨V,hV⟩:=jz (X%kb^i*2^c);have hVs:X%kb^(i+1)*2^c=V+kb^i*(x*2^c):=by rw[mod_pow_succ,bA,<-hV,bk,hxd]
  have hVlt:V<kb^i*2^c:=by rw[hV];exact de (rO dD X i) hpos
  have hBi:0<kb^i:=cG dD;have hVd:V/kb^i<2^c:=di hVlt;have hVb:V<kb^(i+1):=by
   have:kb^i*2^c<=kb^i*kb:=bB _ (by unfold kb;omega);rw[bC];omega
  have hdg:kS kb V i=V/kb^i:=rz dD hVb;have hfit:=DU (V/kb^i) x c oO hVd;have hget:(pad kb V n).getD i 0=V/kb^i:=by rw[nS _ _ oO,hdg]
  rw[<-hV]at hS;have hsplit:=cJ (x*2^c) 4294967296;have hlow:V+kb^i*((x*2^c)%4294967296)<kb^(i+1):=by
   have h8:=cJ V (kb^i);have h9:=bG V hBi;have h10:kb^i*(V/kb^i+(x*2^c)%4294967296+1)<=kb^i*kb:=bB _ hfit;rw[ba,ba]at h10;rw[bC];omega
  refine J2 ?_;refine jp (kj (i:=i) rfl rfl (hx.j4 hS.j4) oO dO lK (jq (kt (i:=i) 0 rfl kI (hx.j4 hS.j4) dO rfl rfl (.inr rfl) (jp (kH rfl Tryz.underlying99 ⟨_,Tryz.underlying141⟩ (r:=((x:Nat):Int)) (by rw[l9,hxd];exact kX _ ⟨rfl,oO,oO⟩) ?_)))));refine J1 ?_;refine jp (uS rfl rfl oO (uX x c ((x*2^c:Nat):Int) (by show c<=64;omega) (kX _ ⟨rfl,oO,oO⟩)) ?_);refine J5 ?_;refine jp (kD (i:=i) rfl rfl oO dO lK (jq (nN (k:=0) (i:=i) rfl kI hS rfl oO dO ?_)));refine J1 ?_;refine jp (kH rfl Tryz.underlying141 ⟨_,Tryz.underlying99⟩ (r7 _) (jp (zt rfl rfl (r:=((V/kb^i+(x*2^c)%4294967296:Nat):Int)) (by rw[hget,<-GR _ _ _ oO hVd];exact rj rfl _ _ (by show _<4294967296;omega) (by show _<4294967296;omega)) (jp (kD (i:=i) rfl rfl oO dO lK (jh (pf (k:=0) (i:=i) (a:=_) rfl rfl rfl kI hS rfl oO dO ?_)))))));intro wz3 hS;refine ja ?_;have hset:=zD (b:=kb) (v:=V) (n:=n) (k:=i) (x:=(x*2^c)%4294967296) dD hVb hlow;rw[hdg]at hset;rw[eg,hset]at hS;have hnext:V+kb^i*((x*2^c)%4294967296)+kb^(i+1)*(x*2^c/4294967296)=X%kb^(i+1)*2^c:=by
   have:kb^(i+1)*(x*2^c/4294967296)=kb^i*(4294967296*(x*2^c/4294967296)):=by rw[bC,bk]
   rw[hVs,this,dU,<-ba];congr 2;omega
  have hhi:x*2^c/4294967296<2147483648:=oO;refine J4 ?_;refine jp (pW rfl rfl oO (r:=((x*2^c/4294967296:Nat):Int)) (by exact qg _ 32 dD) (jp (kH rfl Tryz.underlying141 ⟨_,Tryz.underlying99⟩ (r:=((x*2^c/4294967296:Nat):Int)) (by exact pm _ ⟨rfl,oO,oO⟩) (jp (kD (i:=i+1) rfl rfl oO dO lK (jh (pf (k:=0) (i:=i+1) (a:=_) rfl rfl rfl kI hS rfl oO dO ?_)))))));intro wz4 hS;refine ja ?_;obtain⟨e1,e2⟩:=xo (b:=kb) (r:=V+kb^i*((x*2^c)%4294967296)) (i:=i+1) (d:=x*2^c/4294967296) (n:=n) dD hlow (show _<4294967296 by omega);rw[eg,e1,hnext]at hS;refine V3 ?_;exact⟨i+1,_,rfl,⟨hlt,h0,h1,h5,vi rfl oO,hS⟩,oO⟩
 ·refine J1 ?_;refine jt ?_;obtain rfl:i=m:=oO;rw[bh hXm]at hS;refine J2 ?_;refine jt ?_;refine kB rfl rfl ?_;exact⟨⟨b1,rfl,hS.ge (k:=0) rfl,hS.get (k:=0) rfl⟩,hS.j4⟩
structure LF (ρ:Nat->Value) (n s m M bu bv bq:Nat):Prop where
 h6:ρ 6=iB n
 h7:ρ 7= .int .u64 s
 h8:ρ 8= .slice (some ⟨bu,0,none⟩) (m+1) (m+1)
 h9:ρ 9= .slice (some ⟨bv,0,none⟩) n (n+1)
 h10:ρ 10= .slice (some ⟨bq,0,none⟩) M M
theorem FL (a b c d:kU): [a,b,c].set 2 d=[a,b,d]:=rfl
theorem Ra (t:Nat) (h:t<=18446744073709551615):pM .and .u64 (t:Int) 4294967295=((t%4294967296:Nat):Int):=by
 rw[show t%4294967296=t&&&4294967295 from(gH t 32).symm];exact Gd rfl t 4294967295 (by show t<18446744073709551616;omega) dD
theorem Rm (x y:Nat) (hx:x<=4294967295) (hy:y<=4294967296):IntKind.u32.wrap (IntKind.u64.wrap ((x:Int)-(y:Int)))=(((x+4294967296-y)%4294967296:Nat):Int):=by
 rw[xm,tr];omega
theorem JC (x y:Nat) (hx:x<=4294967295) (hy:y<=4294967296):(x+4294967296-y)%4294967296+y=x+4294967296*(if x<y then 1 else 0):=by
 rcases bI x y with h|h
 ·rw[aj h];omega
 ·rw[ah oO];omega
theorem O7 (vx vy:Value) (X Y:Nat) (w:World) (hx:Sl (uk .u32) 1 w vx (kJ X)) (hy:Sl (uk .u32) 1 w vy (kJ Y)) (hYX:Y<=X) (hn2:2<=(kJ Y).length) (hmx:(kJ X).length<=4398046511104):
  lU Tryz.prog 164 #[vx,vy] w λr w'=>(∃q s,r= .tuple #[q,s]/\Sl (uk .u32) 1 w' q (kJ (X/Y))/\Sl (uk .u32) 1 w' s (kJ (X%Y)))/\Below w.heap.size w w':=by
 have hB:kb=4294967296:=rfl;have hS:=St.init w;obtain⟨m,hm⟩:=jz ((kJ X).length);obtain⟨n,hn⟩:=jz ((kJ Y).length);obtain⟨M,hM⟩:=jz (m-n+1);have hXm:X<kb^m:=hm▸lN X;have hYn:Y<kb^n:=hn▸lN Y;have hnm:n<=m:=by rw[hn,hm];exact nH dD hYX
 have hY0:0<Y:=by
  rcases dm Y with h|h
  ·rw[h]at hn2;unfold kJ at hn2;rw[nL]at hn2;exact absurd hn2 dD
  ·exact h
 obtain⟨hn0,htp⟩:=zx hY0;rw[<-hn]at hn0 htp hn2;have htl:=lV Y (n-1);obtain⟨x,hxe⟩:=jz (kS kb Y (n-1));rw[<-hxe]at htp htl;refine enter Tryz.func164 rfl Tryz.ntmps164 rfl ?_;refine J3 ?_;refine jp (ki rfl (hy.j4 hS.j4) ⟨_,Tryz.underlying138⟩ ?_);refine J2 ?_;refine jb ?_;refine kx (λρ w'=>∃s:Nat,s<32/\x*2^s<kb/\kb<=2*(x*2^s)/\ρ 0=vx/\ρ 1=vy/\ρ 6=iB n/\ρ 7= .int .u64 s/\St w w' []) ?_ ?_
 ·refine ja ?_;refine ku (σ:=Nat) (λs ρ w'=>s<32/\x*2^s<kb/\ρ 0=vx/\ρ 1=vy/\ρ 6=iB n/\ρ 7= .int .u64 s/\St w w' []) (λs=>32-s) 0
   ⟨dD,by simp only[cU,eI];omega,rfl,rfl,vi rfl (by rw[hn]),rfl,hS⟩ ?_
  clear hS;rintro s ρ w2 ⟨hs,hxs,h0,h1,h6,h7,hS⟩;refine J3 ?_;refine jp (kj (i:=n-1) rfl rfl (hy.j4 hS.j4) oO dO lK (jq (kt (i:=n-1) 0 rfl kI (hy.j4 hS.j4) dO rfl rfl (.inr rfl) ?_)));refine J1 ?_;refine jp (uS rfl rfl oO (r:=((x*2^s:Nat):Int)) (by rw[l9,<-hxe];exact uX x s _ (by show s<=32;omega) (pm _ ⟨rfl,oO,oO⟩)) ?_);refine V1 ?_;by_cases hlt:x*2^s<2147483648
  ·refine V1 ?_;have hs2:s+1<32:=by
    rcases bI (s+1) 32 with g|g
    ·exact g
    ·exfalso;obtain rfl:s=31:=oO;have:1*2^31<=x*2^31:=aO _ htp;omega
   refine V3 ?_;refine⟨s+1,_,rfl,⟨hs2,?_,h0,h1,h6,vi rfl oO,hS⟩,oO⟩;rw[bC,<-bk];omega
  ·refine J1 ?_;refine jt ?_;exact⟨_,rfl,s,hs,hxs,oO,h0,h1,h6,h7,hS⟩
 clear hS;rintro ρ w2 ⟨s,hs,hxs,hxs2,h0,h1,h6,h7,hS⟩;refine ja ?_;rw[hxe]at hxs hxs2;obtain⟨hD,hD2⟩:=GK hn0 hYn hs hxs hxs2;have hpc:0<2^s:=cG dD;have hpc2:2^s<=2^31:=bM dD oO;obtain⟨D,hDe⟩:=jz (Y*2^s);rw[<-hDe]at hD hD2;have hD0:0<D:=by rw[hDe];exact dK hY0 hpc
 have hUD:X*2^s<D*kb^(m-n+1):=by
  have h3:X*2^s<kb^m*2^s:=de hXm hpc;have h4:kb^m*2^s<=kb^m*2^31:=bB _ hpc2;have h5:kb^n*kb^(m-n+1)=kb^m*kb:=by rw[<-dB,<-bC];congr 1;omega
  have h6:kb^n*kb^(m-n+1)<=2*D*kb^(m-n+1):=aO _ hD2;rw[bk]at h6;have h7:kb^m*kb=kb^m*4294967296:=rfl;omega
 rw[<-hM]at hUD;clear hxs hxs2 hXm;refine J2 ?_;refine jh (j6 Tryz.call184 rfl (AF _ X s (m+1) _ (hx.j4 hS.j4) hs oO oO) ?_);rintro r w3 ⟨⟨bu,rfl,hbu1,hbu2⟩,hB3⟩;replace hS:=hS.push hB3 hbu1 hbu2;refine J3 ?_;refine jh (j6 Tryz.call184 rfl (AF _ Y s (n+1) _ (hy.j4 hS.j4) hs oO oO) ?_);rintro r w4 ⟨⟨bv,rfl,hbv1,hbv2⟩,hB4⟩;replace hS:=hS.push hB4 hbv1 hbv2;rw[<-hDe]at hS;refine J1 ?_;refine jp (E0 (hi:=n) rfl rfl rfl oO lK ?_);refine J2 ?_;refine jp (ki rfl (hx.j4 hS.j4) ⟨_,Tryz.underlying138⟩ ?_);refine J3 ?_;refine jh (pN (n:=M) rfl rfl lK oO oO oO oO hS ?_);intro b1 wz2 hS hBz2;refine J2 ?_;refine jp (ki rfl (hx.j4 hS.j4) ⟨_,Tryz.underlying138⟩ ?_);refine V3 ?_;rw[<-oJ,show 0=kb^M*0 by rw[eV]]at hS;refine ku (σ:=Nat×Nat×Nat) (λt ρ w'=>t.1<=M/\X*2^s=t.2.1*D*kb^t.1+t.2.2/\t.2.2<D*kb^t.1/\LF ρ n s m M bu bv b1/\ρ 11=iB ((t.1:Int)-1)/\
   St w w' [(b1,141,Kr .u32 (pad kb (kb^t.1*t.2.1) M)),(bv,141,Kr .u32 (pad kb D (n+1))),(bu,141,Kr .u32 (pad kb t.2.2 (m+1)))]) (λt=>t.1) (M,0,X*2^s)
  ⟨aH _,by simp,hUD,⟨h6,h7,rfl,rfl,rfl⟩,vi rfl oO,hS⟩ ?_
 clear hS h0 h1 h6 h7;rintro⟨k,Q,V⟩ ρ w6 ⟨hk,hinv,hV,hF,h11,hS⟩;simp only at hk hinv hV h11 hS;refine V2 ?_;by_cases hk0:0<k
 ·refine V1 ?_;have hpk:0<kb^(k-1):=cG dD;have hkk:kb^k=kb^(k-1)*kb:=by rw[<-bC];congr 1;omega
  have hVs:V%kb^(k-1)+kb^(k-1)*(V/kb^(k-1))=V:=fo _ _;have hU:V/kb^(k-1)<D*kb:=by
   refine di ?_;rw[hkk]at hV;rw[iw];exact hV
  have hlo:V%kb^(k-1)<kb^(k-1):=bG _ hpk;obtain⟨lo,hloe⟩:=jz (V%kb^(k-1));obtain⟨U,hUe⟩:=jz (V/kb^(k-1));rw[<-hloe,<-hUe]at hVs;rw[<-hUe]at hU;rw[<-hloe]at hlo;clear hloe hUe;obtain⟨j,hj⟩:=jz (k-1);rw[<-hj]at hpk hkk hVs hlo;have hq0:U/D<kb:=di hU;have hQ:kb^k*Q<kb^M:=by
   rcases bI (kb^k*Q) (kb^M)with h|h
   ·exact h
   ·exfalso;have h3:D*kb^M<=D*(kb^k*Q):=bB _ h;have h4:D*(kb^k*Q)=Q*D*kb^k:=by ac_rfl
    omega
  obtain⟨eq1,eq2⟩:=tW (b:=kb) (q:=Q) (i:=k) (e:=U/D) (n:=M) dD hq0 hk0 hk hQ;have hinv2:X*2^s=(kb*Q+U/D)*D*kb^j+(lo+kb^j*(U%D)):=by
   have g1:=cJ U D;have g2:kb^j*U=kb^j*(D*(U/D))+kb^j*(U%D):=by rw[<-ba,g1]
   have g3:(kb*Q+U/D)*D*kb^j=Q*D*kb^k+kb^j*(D*(U/D)):=by
    rw[hkk,bA,bA];congr 1<;>ac_rfl
   rw[g3,hinv,<-hVs,g2];omega
  have hV2:lo+kb^j*(U%D)<D*kb^j:=by
   have g1:U%D+1<=D:=bG _ hD0;have g2:kb^j*(U%D+1)<=kb^j*D:=bB _ g1;rw[bF D,ba]at*;omega
  rw[<-hVs]at hS;clear hinv hV hVs hQ hUD;have hjm:j+n+1<=m+1:=oO;have h11':ρ 11=iB (j:Int):=h11.trans (bQ (Value.int IntKind.i64) oO);clear h11;have hkn:=Kn.of n U D hn2 hD hD2 hU;have hU1:U<kb^(n+1):=by
   rw[bC];exact iQ hU (de hD dD)
  have hgU:∀Z i,i<=n->(pad kb (lo+kb^j*Z) (m+1)).getD (j+i) 0=kS kb Z i:=λZ i hi=>by rw[nS _ _ oO,FG dD hlo]
  have hgD:∀i,i<n+1->(pad kb D (n+1)).getD i 0=kS kb D i:=λi hi=>nS _ _ hi;have hgd1:=hgD (n-1) oO;have hgd2:=hgD (n-2) oO;have a0:=lV U n;have a1:=lV U (n-1);have a2:=lV U (n-2);have c1:=lV D (n-1);have c2:=lV D (n-2);have hd1:=hkn.h1;obtain⟨top,htop⟩:=jz (kS kb U n*kb+kS kb U (n-1));have htop2:top=kS kb U (n-1)+kS kb U n*2^32:=by rw[htop,fa]
  have hor:kS kb U n*2^32|||kS kb U (n-1)=top:=by rw[gk,ut _ _ _ oO,htop2]
  have htl2:top<=18446744073709551615:=by rw[htop];omega
  have hgn1:(pad kb (lo+kb^j*U) (m+1)).getD (j+n-1) 0=kS kb U (n-1):=by rw[show j+n-1=j+(n-1) by omega];exact hgU U _ oO
  have hgn2:(pad kb (lo+kb^j*U) (m+1)).getD (j+n-2) 0=kS kb U (n-2):=by rw[show j+n-2=j+(n-2) by omega];exact hgU U _ oO
  refine ja ?_;refine kC [jo 0,jo 1,jo 2,jo 3,jo 4,ju 5,jo 6,jo 7,jo 8,jo 9,jo 10,jo 11,jo 12,jo 13,ju 14,jo 15,jo 16,jo 17] kR kR hS ?_;intro wz3 hS hBz3;refine jl rfl (ko hF.h8 ?_);refine J1 ?_;refine jl rfl (ko hF.h6 ?_);refine J1 ?_;refine jl rfl (kD (i:=j+n) rfl rfl oO dO lK (jm rfl (nN (k:=2) (i:=j+n) rfl kI hS rfl oO dO (jl rfl (kH rfl Tryz.underlying99 ⟨_,Tryz.underlying141⟩ (r:=((kS kb U n:Nat):Int)) (by rw[hgU U n oO];exact kX _ ⟨rfl,oO,oO⟩) (jl rfl (uS rfl rfl oO (r:=((kS kb U n*2^32:Nat):Int)) (by exact uX _ 32 _ dD (kX _ ⟨rfl,oO,oO⟩)) (jl rfl (ko hF.h8 ?_)))))))));refine J1 ?_;refine jl rfl (ko hF.h6 ?_);refine J2 ?_;refine jl rfl (kD (i:=j+n-1) rfl rfl oO dO lK (jm rfl (nN (k:=2) (i:=j+n-1) rfl kI hS rfl oO dO (jl rfl (kH rfl Tryz.underlying99 ⟨_,Tryz.underlying141⟩ (r:=((kS kb U (n-1):Nat):Int)) (by rw[hgn1];exact kX _ ⟨rfl,oO,oO⟩) (jl rfl (zt rfl rfl (r:=((top:Nat):Int)) (by rw[<-hor];exact rj rfl _ _ (by show _<18446744073709551616;omega) (by show _<18446744073709551616;omega)) ?_)))))));refine J2 ?_;refine jp (ko hF.h9 (jp (ko hF.h6 ?_)));refine J1 ?_;refine jp (kD (i:=n-1) rfl rfl oO dO lK (jq (nN (k:=1) (i:=n-1) rfl kI hS rfl oO dO (jp (kH rfl Tryz.underlying99 ⟨_,Tryz.underlying141⟩ (r:=((kS kb D (n-1):Nat):Int)) (by rw[hgd1];exact kX _ ⟨rfl,oO,oO⟩) (jp (rL rfl rfl oO (r:=((top/kS kb D (n-1):Nat):Int)) (by rw[i7 _ _ oO];push_cast;rfl) ?_)))))));refine J2 ?_;refine jp (ko hF.h9 (jp (ko hF.h6 ?_)));refine J1 ?_;refine jp (kD (i:=n-1) rfl rfl oO dO lK (jq (nN (k:=1) (i:=n-1) rfl kI hS rfl oO dO (jp (kH rfl Tryz.underlying99 ⟨_,Tryz.underlying141⟩ (r:=((kS kb D (n-1):Nat):Int)) (by rw[hgd1];exact kX _ ⟨rfl,oO,oO⟩) (jp (pC rfl rfl oO (r:=((top%kS kb D (n-1):Nat):Int)) (by rw[fi oO];push_cast;rfl) ?_)))))));refine J1 ?_;refine jb ?_;refine kx (λρ w'=>∃g,g<kb/\U/D<=g/\g<=U/D+1/\LF ρ n s m M bu bv b1/\ρ 11=iB j/\ρ 13= .int .u64 g/\
    St w w' [(b1,141,Kr .u32 (pad kb (kb^k*Q) M)),(bv,141,Kr .u32 (pad kb D (n+1))),(bu,141,Kr .u32 (pad kb (lo+kb^j*U) (m+1)))]) ?_ ?_
  ·refine ja ?_;refine ku (σ:=Nat×Nat) (λt ρ w'=>t.1*kS kb D (n-1)+t.2=top/\U/D<=t.1/\t.2<kb/\LF ρ n s m M bu bv b1/\ρ 11=iB j/\ρ 13= .int .u64 t.1/\ρ 14= .int .u64 t.2/\
     St w w' [(b1,141,Kr .u32 (pad kb (kb^k*Q) M)),(bv,141,Kr .u32 (pad kb D (n+1))),(bu,141,Kr .u32 (pad kb (lo+kb^j*U) (m+1)))]) (λt=>t.1) (top/kS kb D (n-1),top%kS kb D (n-1))
    ⟨by simp only;rw[bF];exact cJ _ _,by simp only;rw[htop];exact hkn.q_le_top,by simp only;have:=bG top hd1;omega,⟨hF.h6,hF.h7,hF.h8,hF.h9,hF.h10⟩,h11',rfl,rfl,hS⟩ ?_
   clear hS hF h11';rintro⟨g,r⟩ ρ w3 ⟨hinv,hgq,hr,hF,h11,h13,h14,hS⟩;simp only at hinv hgq hr h13 h14 hS;have hgt:g<=top:=by
    have:g*1<=g*kS kb D (n-1):=bB _ hd1;omega
   refine ja ?_;by_cases hgB:kb<=g
   ·refine ja ?_;refine kC [jo 0,jo 1,jo 2,jo 3,jo 4,jo 5,jo 6,jo 7,ju 8,jo 9,jo 10,jo 11,jo 12,jo 13,jo 14,jo 15,jo 16,jo 17,jo 18,ju 19,jo 20,jo 21,jo 22,jo 23] kR kR hS ?_;intro wz4 hS hBz4;refine J3 ?_;refine nO rfl (ka 95 kR rfl dT) (nO rfl (ka 95 kR rfl dT) (nO rfl (ka 95 kR rfl dT) (nO rfl (ka 95 kR rfl dT) (nO rfl (ka 95 kR rfl dT) (nO rfl (ka 95 kR rfl dT) (nO rfl (ka 95 kR rfl dT) (nO rfl (ka 95 kR rfl dT) (nO rfl (ka 95 kR rfl dT) (nO rfl (ka 95 kR rfl dT) (nO rfl (ka 95 kR rfl dT) (nO rfl (ka 95 kR rfl dT) (nO rfl (ka 95 kR rfl dT) (nO rfl (ka 95 kR rfl dT) ?_)))))))))))));refine nO rfl (ka 95 kR rfl dT) (nO rfl (ka 95 kR rfl dT) (nO rfl (ka 95 kR rfl dT) (nO rfl (ka 95 kR rfl dT) (nO rfl (ka 95 kR rfl dT) (nO rfl (ka 95 kR rfl dT) (jl rfl (kA (vb rfl dT) rfl ?_)))))));refine ja ?_;refine k9 rfl (rfl) ?_;refine ja ?_;have hgq2:U/D<g:=oO;have hg0:0<g:=ct (aB _) hgq2;have hg1:U/D<=g-1:=gO hgq2;refine V3 ?_;have hgd:(g-1)*kS kb D (n-1)+(r+kS kb D (n-1))=top:=by
     obtain⟨g',rfl⟩:∃g',g=g'+1:=⟨g-1,oO⟩;rw[bA,dJ]at hinv;rw[ig];omega
    refine J1 ?_;refine jp (ko hF.h9 (jp (ko hF.h6 ?_)));refine J1 ?_;refine jp (kD (i:=n-1) rfl rfl oO dO lK (jq (nN (k:=1) (i:=n-1) rfl kI hS rfl oO dO (jp (kH rfl Tryz.underlying99 ⟨_,Tryz.underlying141⟩ (r:=((kS kb D (n-1):Nat):Int)) (by rw[hgd1];exact kX _ ⟨rfl,oO,oO⟩) (jp (oU rfl rfl (r:=((r+kS kb D (n-1):Nat):Int)) (by exact kX _ ⟨by push_cast;rfl,oO,oO⟩) ?_)))))));refine V3 ?_;by_cases hbrk:kb<=r+kS kb D (n-1)
    ·refine J1 ?_;refine jt ?_;have hgB:g-1<kb:=by
      rcases bI (g-1) kb with h|h
      ·exact h
      ·exfalso;have h1:kb*kS kb D (n-1)<=(g-1)*kS kb D (n-1):=aO _ h;have h2:=hkn.top_le;rw[<-htop,bF]at h2;omega
     have hgq:=hkn.rest (by rw[<-htop];exact hgd) oO hbrk;exact⟨_,rfl,g-1,hgB,hg1,oO,⟨hF.h6,hF.h7,hF.h8,hF.h9,hF.h10⟩,h11,vi rfl oO,hS⟩
    ·refine V1 ?_;refine⟨(g-1,r+kS kb D (n-1)),_,rfl,⟨hgd,hg1,by simp only;omega,⟨hF.h6,hF.h7,hF.h8,hF.h9,hF.h10⟩,h11,vi rfl (by simp only;omega),rfl,hS⟩,by simp only;omega⟩
   ·have hgd2':g*kS kb D (n-2)<=4294967295*4294967295:=fg oO c2;have hor2:r*2^32|||kS kb U (n-2)=r*4294967296+kS kb U (n-2):=by rw[gk,ut _ _ _ oO,fa]
    refine ja ?_;refine kC [jo 0,jo 1,jo 2,jo 3,jo 4,jo 5,jo 6,jo 7,ju 8,jo 9,jo 10,jo 11,jo 12,jo 13,jo 14,jo 15,jo 16,jo 17,jo 18,ju 19,jo 20,jo 21,jo 22,jo 23] kR kR hS ?_;intro wz5 hS hBz5;refine J3 ?_;refine kN rfl (j7 95 kR rfl dF) (ko h13 (kN rfl (j7 95 kR rfl dF) (ko hF.h9 (kN rfl (j7 95 kR rfl dF) (ko hF.h6 (kN rfl (j7 95 kR rfl dF) (sk rfl rfl (cF _ oO) (kN rfl (j7 95 kR rfl dF) (kD (i:=n-2) rfl rfl oO dO lK (mG rfl (j7 95 kR rfl dF) (nN (k:=1) (i:=n-2) rfl kI hS rfl oO dO (kN rfl (j7 95 kR rfl dF) (kH rfl Tryz.underlying99 ⟨_,Tryz.underlying141⟩ (r:=((kS kb D (n-2):Nat):Int)) (by rw[hgd2];exact kX _ ⟨rfl,oO,oO⟩) (kN rfl (j7 95 kR rfl dF) (wk rfl rfl (r:=((g*kS kb D (n-2):Nat):Int)) (by exact kX _ ⟨by push_cast;rfl,oO,oO⟩) (kN rfl (j7 95 kR rfl dF) (ko h14 (kN rfl (j7 95 kR rfl dF) (uS rfl rfl oO (r:=((r*2^32:Nat):Int)) (by exact uX _ 32 _ dD (kX _ ⟨rfl,oO,oO⟩)) (kN rfl (j7 95 kR rfl dF) (ko hF.h8 (kN rfl (j7 95 kR rfl dF) (ko h11 (kN rfl (j7 95 kR rfl dF) (ko hF.h6 (kN rfl (j7 95 kR rfl dF) (oU rfl rfl (cF _ oO) ?_)))))))))))))))))))))))))));refine kN rfl (j7 95 kR rfl dF) (sk rfl rfl (cF _ oO) (kN rfl (j7 95 kR rfl dF) (kD (i:=j+n-2) rfl rfl oO dO lK (mG rfl (j7 95 kR rfl dF) (nN (k:=2) (i:=j+n-2) rfl kI hS rfl oO dO (kN rfl (j7 95 kR rfl dF) (kH rfl Tryz.underlying99 ⟨_,Tryz.underlying141⟩ (r:=((kS kb U (n-2):Nat):Int)) (by rw[hgn2];exact kX _ ⟨rfl,oO,oO⟩) (kN rfl (j7 95 kR rfl dF) (zt rfl rfl (r:=((r*4294967296+kS kb U (n-2):Nat):Int)) (by rw[<-hor2];exact rj rfl _ _ (by show _<18446744073709551616;omega) (by show _<18446744073709551616;omega)) (kN rfl (j7 95 kR rfl dF) (t5 rfl rfl (jl rfl (kA (vb rfl dF) rfl ?_)))))))))))));refine ja ?_;by_cases href:r*4294967296+kS kb U (n-2)<g*kS kb D (n-2)
    ·refine k9 rfl (ao (by exact_mod_cast href)) ?_;refine ja ?_;have hgq2:U/D<g:=hkn.refuted (by rw[<-htop];exact hinv) hgq href;have hg0:0<g:=ct (aB _) hgq2;have hg1:U/D<=g-1:=gO hgq2;refine V3 ?_;have hgd:(g-1)*kS kb D (n-1)+(r+kS kb D (n-1))=top:=by
      obtain⟨g',rfl⟩:∃g',g=g'+1:=⟨g-1,oO⟩;rw[bA,dJ]at hinv;rw[ig];omega
     refine J1 ?_;refine jp (ko hF.h9 (jp (ko hF.h6 ?_)));refine J1 ?_;refine jp (kD (i:=n-1) rfl rfl oO dO lK (jq (nN (k:=1) (i:=n-1) rfl kI hS rfl oO dO (jp (kH rfl Tryz.underlying99 ⟨_,Tryz.underlying141⟩ (r:=((kS kb D (n-1):Nat):Int)) (by rw[hgd1];exact kX _ ⟨rfl,oO,oO⟩) (jp (oU rfl rfl (r:=((r+kS kb D (n-1):Nat):Int)) (by exact kX _ ⟨by push_cast;rfl,oO,oO⟩) ?_)))))));refine V3 ?_;by_cases hbrk:kb<=r+kS kb D (n-1)
     ·refine J1 ?_;refine jt ?_;have hgB:g-1<kb:=by
       rcases bI (g-1) kb with h|h
       ·exact h
       ·exfalso;have h1:kb*kS kb D (n-1)<=(g-1)*kS kb D (n-1):=aO _ h;have h2:=hkn.top_le;rw[<-htop,bF]at h2;omega
      have hgq:=hkn.rest (by rw[<-htop];exact hgd) oO hbrk;exact⟨_,rfl,g-1,hgB,hg1,oO,⟨hF.h6,hF.h7,hF.h8,hF.h9,hF.h10⟩,h11,vi rfl oO,hS⟩
     ·refine V1 ?_;refine⟨(g-1,r+kS kb D (n-1)),_,rfl,⟨hgd,hg1,by simp only;omega,⟨hF.h6,hF.h7,hF.h8,hF.h9,hF.h10⟩,h11,vi rfl (by simp only;omega),rfl,hS⟩,by simp only;omega⟩
    ·refine lx rfl (ae (by exact_mod_cast href)) ?_;refine jt ?_;have hnear:=hkn.near (by rw[<-htop];exact hinv) oO (iJ href);exact⟨_,rfl,g,oO,hgq,hnear,⟨hF.h6,hF.h7,hF.h8,hF.h9,hF.h10⟩,h11,h13,hS⟩
  clear hS a0 a1 a2 c1 c2 hor htl2 htop2 hF h11';rintro ρ w2 ⟨g,hgB,hq1,hq2,hF,h11,h13,hS⟩;clear htop hgn1 hgn2;refine J3 ?_;refine jb ?_;refine kx (λρ w'=>∃c bb Z,c<=4294967295/\bb<=1/\Z<kb^(n+1)/\Z+g*D=U+kb^n*(c+bb)/\LF ρ n s m M bu bv b1/\ρ 11=iB j/\ρ 13= .int .u64 g/\ρ 15= .int .u64 (c:Nat)/\ρ 16= .int .u64 (bb:Nat)/\
    St w w' [(b1,141,Kr .u32 (pad kb (kb^k*Q) M)),(bv,141,Kr .u32 (pad kb D (n+1))),(bu,141,Kr .u32 (pad kb (lo+kb^j*Z) (m+1)))]) ?_ ?_
  ·refine ja ?_;refine ku (σ:=Nat×Nat×Nat×Nat) (λt ρ w'=>t.1<=n/\t.2.1<=4294967295/\t.2.2.1<=1/\t.2.2.2<kb^(n+1)/\t.2.2.2+g*(D%kb^t.1)=U+kb^t.1*(t.2.1+t.2.2.1)/\LF ρ n s m M bu bv b1/\ρ 11=iB j/\ρ 13= .int .u64 g/\ρ 15= .int .u64 t.2.1/\ρ 16= .int .u64 t.2.2.1/\ρ 17=iB t.1/\
     St w w' [(b1,141,Kr .u32 (pad kb (kb^k*Q) M)),(bv,141,Kr .u32 (pad kb D (n+1))),(bu,141,Kr .u32 (pad kb (lo+kb^j*t.2.2.2) (m+1)))]) (λt=>n-t.1) (0,0,0,U)
    ⟨aB _,aB _,aB _,hU1,by simp[dZ],⟨hF.h6,hF.h7,hF.h8,hF.h9,hF.h10⟩,h11,h13,rfl,rfl,rfl,hS⟩ ?_
   clear hS hF h11 h13;rintro⟨i,c,bb,Z⟩ ρ w3 ⟨hi,hc,hbb,hZ,hinv,hF,h11,h13,h15,h16,h17,hS⟩;simp only at hi hc hbb hZ hinv h15 h16 h17 hS;refine J1 ?_;refine jp (ko hF.h6 ?_);refine V1 ?_;by_cases hlt:i<n
   ·refine V1 ?_;have x1:=lV Z i;have d1:=lV D i;have hgX:=hgU Z i hi;obtain⟨u1,u2⟩:=yp g (kS kb D i) 0 c oO d1 oO hc;obtain⟨t,ht⟩:=jz (g*kS kb D i+c);have htl:t<=18446744073709551615:=oO;refine J2 ?_;refine jp (ko hF.h9 ?_);refine J1 ?_;refine jp (kD (i:=i) rfl rfl oO dO lK (jq (nN (k:=1) (i:=i) rfl kI hS rfl oO dO (jp (kH rfl Tryz.underlying99 ⟨_,Tryz.underlying141⟩ (r:=((kS kb D i:Nat):Int)) (by rw[hgD i oO];exact kX _ ⟨rfl,oO,oO⟩) (jp (wk rfl rfl (r:=((g*kS kb D i:Nat):Int)) (by exact kX _ ⟨by push_cast;rfl,oO,oO⟩) (jp (oU rfl rfl (r:=((t:Nat):Int)) (by rw[ht];exact kX _ ⟨oO,oO,oO⟩) ?_)))))))));refine J2 ?_;refine jp (DI rfl rfl (Ra t htl) ?_);refine J1 ?_;refine jp (oU rfl rfl (r:=((t%4294967296+bb:Nat):Int)) (by exact kX _ ⟨oO,oO,oO⟩) ?_);refine J2 ?_;refine jp (pW rfl rfl oO (r:=((t/4294967296:Nat):Int)) (by exact qg _ 32 dD) ?_);refine Y1 ?_;refine jp (ko hF.h8 ?_);refine J3 ?_;refine jp (kD (i:=j+i) rfl rfl oO dO lK (jq (nN (k:=2) (i:=j+i) rfl kI hS rfl oO dO (jp (kH rfl Tryz.underlying99 ⟨_,Tryz.underlying141⟩ (r:=((kS kb Z i:Nat):Int)) (by rw[hgX];exact kX _ ⟨rfl,oO,oO⟩) ?_)))));refine V5 ?_;obtain⟨y,hy9⟩:=jz (t%4294967296+bb);have hyl:y<=4294967296:=oO;rw[<-hy9];obtain⟨xx,hxx⟩:=jz ((if kS kb Z i<y then kS kb Z i+4294967296 else kS kb Z i));obtain⟨b',hb'⟩:∃c',c'=(if kS kb Z i<y then 1 else 0):=⟨_,rfl⟩;have hub:xx=kS kb Z i+4294967296*b':=by rw[hxx,hb'];split<;>omega
    have hul:y<=xx/\xx-y<=4294967295:=by rw[hxx];split<;>omega
    have hb1:b'<=1:=by rw[hb'];split<;>omega
    refine kx (λρ w'=>LF ρ n s m M bu bv b1/\ρ 11=iB j/\ρ 13= .int .u64 g/\ρ 15= .int .u64 (t/4294967296:Nat)/\ρ 16= .int .u64 (b':Nat)/\ρ 17=iB i/\ρ 18= .int .u64 (y:Nat)/\ρ 19= .int .u64 (xx:Nat)/\w3=w') ?_ ?_
    ·refine ja ?_;by_cases hlt2:kS kb Z i<y
     ·rw[aj hlt2]at hxx hb';refine J2 ?_;refine jp (oU rfl rfl (r:=((xx:Nat):Int)) (by rw[hxx];exact kX _ ⟨oO,oO,oO⟩) ?_);refine V2 ?_;exact⟨_,rfl,⟨hF.h6,hF.h7,hF.h8,hF.h9,hF.h10⟩,h11,h13,rfl,vi rfl (by rw[hb'];rfl),h17,vi rfl (by rw[hy9]),rfl,rfl⟩
     ·rw[ah hlt2]at hxx hb';refine V1 ?_;exact⟨_,rfl,⟨hF.h6,hF.h7,hF.h8,hF.h9,hF.h10⟩,h11,h13,rfl,vi rfl (by rw[hb'];rfl),h17,vi rfl (by rw[hy9]),vi rfl (by rw[hxx]),rfl⟩
    clear hxx hb' hF h11 h13 h15 h16 h17;rintro ρ w' ⟨hF,h11,h13,h15,h16,h17,h18,h19,rfl⟩;refine jr ?_;refine jp (ko hF.h8 ?_);refine J5 ?_;refine jp (sk rfl rfl (r:=((xx-y:Nat):Int)) (by exact kX _ ⟨oO,oO,oO⟩) (jp (kH rfl Tryz.underlying141 ⟨_,Tryz.underlying99⟩ (r:=((xx-y:Nat):Int)) (by exact pm _ ⟨rfl,oO,oO⟩) (jp (kD (i:=j+i) rfl rfl oO dO lK (jh (pf (k:=2) (i:=j+i) (a:=_) rfl rfl rfl kI hS rfl oO dO ?_)))))));intro wz6 hS;refine ja ?_;obtain⟨Z',e1,e2,e3⟩:=pe (b:=kb) (lo:=lo) (X:=Z) (o:=j) (k:=i) (d:=xx-y) (n:=m+1) dD hlo (show _<4294967296 by omega) oO;rw[FL,e1]at hS;refine V3 ?_;refine⟨(i+1,t/4294967296,b',Z'),_,rfl,⟨hlt,by simp only;omega,hb1,e3 _ oO hZ,?_,⟨hF.h6,hF.h7,hF.h8,hF.h9,hF.h10⟩,h11,h13,h15,h16,vi rfl (by simp),hS⟩,by simp only;omega⟩;simp only;have f1:g*(D%kb^(i+1))=g*(D%kb^i)+kb^i*(g*kS kb D i):=by rw[mod_pow_succ,ba];congr 1;ac_rfl
    have f2:kb^(i+1)*(t/4294967296+b')=kb^i*(4294967296*(t/4294967296)+4294967296*b'):=by rw[bC,bk,<-ba]
    have f3:kS kb Z i+(4294967296*(t/4294967296)+4294967296*b')=(xx-y)+(g*kS kb D i+c)+bb:=oO;have f4:kb^i*kS kb Z i+kb^i*(4294967296*(t/4294967296)+4294967296*b')=kb^i*(xx-y)+kb^i*(g*kS kb D i)+kb^i*(c+bb):=by
     rw[<-ba,f3,<-ba,<-ba];congr 1;omega
    rw[f1,f2];omega
   ·refine J1 ?_;refine jt ?_;obtain rfl:i=n:=oO;rw[bh hD]at hinv;exact⟨_,rfl,c,bb,Z,hc,hbb,hZ,hinv,⟨hF.h6,hF.h7,hF.h8,hF.h9,hF.h10⟩,h11,h13,h15,h16,hS⟩
  clear hS hF h11 h13;rintro ρ w3 ⟨c,bb,Z,hc,hbb,hZ,hinv,hF,h11,h13,h15,h16,hS⟩;refine ja ?_;have x1:=lV Z n;have hgX:=hgU Z n (aH _);refine J2 ?_;refine jp (oU rfl rfl (r:=((c+bb:Nat):Int)) (by exact kX _ ⟨by push_cast;rfl,oO,oO⟩) ?_);refine Y1 ?_;refine jp (ko hF.h8 ?_);refine J1 ?_;refine jp (ko hF.h6 ?_);refine J1 ?_;refine jp (kD (i:=j+n) rfl rfl oO dO lK (jq (nN (k:=2) (i:=j+n) rfl kI hS rfl oO dO (jp (kH rfl Tryz.underlying99 ⟨_,Tryz.underlying141⟩ (r:=((kS kb Z n:Nat):Int)) (by rw[hgX];exact kX _ ⟨rfl,oO,oO⟩) ?_)))));refine V5 ?_;obtain⟨u',hu'⟩:∃u',u'=(kS kb Z n+4294967296-(c+bb))%4294967296:=⟨_,rfl⟩;obtain⟨b',hb'⟩:∃b',b'=if kS kb Z n<c+bb then 1 else 0:=⟨_,rfl⟩
  have hub:u'+(c+bb)=kS kb Z n+4294967296*b':=by rw[hu',hb'];exact JC _ _ x1 oO
  have hb1:b'<=1:=by rw[hb'];split<;>omega
  have hbc:(b'=0↔¬kS kb Z n<c+bb):=by rw[hb'];split<;>omega
  have hul:u'<kb:=by rw[hu'];exact bG _ dD
  refine jr ?_;refine jp (ko hF.h8 ?_);refine J1 ?_;refine jp (ko hF.h6 ?_);refine J3 ?_;refine jp (sk rfl rfl rfl (jp (kH rfl Tryz.underlying141 ⟨_,Tryz.underlying99⟩ (r:=((u':Nat):Int)) (by rw[hu'];exact Rm _ _ x1 oO) (jp (kD (i:=j+n) rfl rfl oO dO lK (jh (pf (k:=2) (i:=j+n) (a:=_) rfl rfl rfl kI hS rfl oO dO ?_)))))));intro wz7 hS;refine ja ?_;obtain⟨Y',e1,e2,e3⟩:=pe (b:=kb) (lo:=lo) (X:=Z) (o:=j) (k:=n) (d:=u') (n:=m+1) dD hlo hul oO;have hY':=e3 _ oO hZ;rw[FL,e1]at hS;have hYU:Y'+g*D=U+kb^(n+1)*b':=by
   have f2:kb^(n+1)*b'=kb^n*(4294967296*b'):=by rw[bC,bk]
   have f4:kb^n*kS kb Z n+kb^n*(4294967296*b')=kb^n*u'+kb^n*(c+bb):=by
    rw[<-ba,<-ba];congr 1;omega
   omega
  clear e1 e2 e3 hub hu' hb' hgX x1 hinv;refine V1 ?_;have hdm:=cJ U D;have hDpos:0<D:=hkn.dpos;refine kx (λρ w'=>LF ρ n s m M bu bv b1/\ρ 11=iB j/\ρ 13= .int .u64 (U/D:Nat)/\
    St w w' [(b1,141,Kr .u32 (pad kb (kb^k*Q) M)),(bv,141,Kr .u32 (pad kb D (n+1))),(bu,141,Kr .u32 (pad kb (lo+kb^j*(U%D)) (m+1)))]) ?_ ?_
  ·refine ja ?_;by_cases hb0:b'=0
   ·refine lx rfl (ae (by have:=hbc.1 hb0;omega)) ?_;refine ja ?_;rw[hb0,eV,ef]at hYU;have hg1:g<=U/D:=(d9 hDpos).2 oO;have hgq:g=U/D:=oO;have hYm:Y'=U%D:=by rw[hgq,bF]at hYU;omega
    rw[hYm]at hS;exact⟨_,rfl,⟨hF.h6,hF.h7,hF.h8,hF.h9,hF.h10⟩,h11,h13.trans (by rw[hgq]),hS⟩
   ·refine k9 rfl (ao (by have:=λh=>hb0 (hbc.2 h);omega)) ?_;refine ja ?_;obtain rfl:b'=1:=oO;have hgq:g=U/D+1:=by
     rcases bI (U/D) g with h|h
     ·omega
     ·exfalso;have:g*D<=U:=(d9 hDpos).1 h;omega
    have hYR:Y'+D=U%D+kb^(n+1):=by
     rw[hgq,bA,dJ,bF]at hYU;omega
    refine J1 ?_;refine jp (sk rfl rfl (r:=((U/D:Nat):Int)) (by rw[hgq];exact kX _ ⟨by push_cast;omega,eh _,by generalize U/D=z at hq0⊢;omega⟩) ?_);refine J3 ?_;refine jb ?_;refine kx (λρ w'=>∃c Z,c<=1/\Z<kb^(n+1)/\Z+kb^n*c=Y'+D/\LF ρ n s m M bu bv b1/\ρ 11=iB j/\ρ 13= .int .u64 (U/D:Nat)/\ρ 15= .int .u64 (c:Nat)/\
      St w w' [(b1,141,Kr .u32 (pad kb (kb^k*Q) M)),(bv,141,Kr .u32 (pad kb D (n+1))),(bu,141,Kr .u32 (pad kb (lo+kb^j*Z) (m+1)))]) ?_ ?_
    ·refine ja ?_;refine ku (σ:=Nat×Nat×Nat) (λt ρ w'=>t.1<=n/\t.2.1<=1/\t.2.2<kb^(n+1)/\t.2.2+kb^t.1*t.2.1=Y'+D%kb^t.1/\LF ρ n s m M bu bv b1/\ρ 11=iB j/\ρ 13= .int .u64 (U/D:Nat)/\ρ 15= .int .u64 t.2.1/\ρ 23=iB t.1/\
       St w w' [(b1,141,Kr .u32 (pad kb (kb^k*Q) M)),(bv,141,Kr .u32 (pad kb D (n+1))),(bu,141,Kr .u32 (pad kb (lo+kb^j*t.2.2) (m+1)))]) (λt=>n-t.1) (0,0,Y')
      ⟨aB _,aB _,hY',by simp[dZ],⟨hF.h6,hF.h7,hF.h8,hF.h9,hF.h10⟩,h11,rfl,rfl,rfl,hS⟩ ?_
     clear hS hF h11 h13 h15 h16;rintro⟨i,c,Z⟩ ρ w3 ⟨hi,hc,hZ,hinv,hF,h11,h13,h15,h23,hS⟩;simp only at hi hc hZ hinv h15 h23 hS;refine J1 ?_;refine jp (ko hF.h6 ?_);refine V1 ?_;by_cases hlt:i<n
     ·refine V1 ?_;have x1:=lV Z i;have d1:=lV D i;have hgX:=hgU Z i hi;obtain⟨t,ht⟩:=jz (kS kb Z i+kS kb D i+c);refine ja ?_;refine kC [jo 0,jo 1,jo 2,jo 3,jo 4,jo 5,ju 6,jo 7,jo 8,jo 9,jo 10,jo 11,ju 12,jo 13,jo 14,jo 15] kR kR hS ?_;intro wz8 hS hBz8;refine J1 ?_;refine jl rfl (ko hF.h8 ?_);refine J3 ?_;refine jl rfl (kD (i:=j+i) rfl rfl oO dO lK (jm rfl (nN (k:=2) (i:=j+i) rfl kI hS rfl oO dO (jl rfl (kH rfl Tryz.underlying99 ⟨_,Tryz.underlying141⟩ (r:=((kS kb Z i:Nat):Int)) (by rw[hgX];exact kX _ ⟨rfl,oO,oO⟩) (jl rfl (oU rfl rfl (r:=((c+kS kb Z i:Nat):Int)) (by exact kX _ ⟨by push_cast;rfl,oO,oO⟩) (jl rfl (ko hF.h9 ?_)))))))));refine J1 ?_;refine jl rfl (kD (i:=i) rfl rfl oO dO lK (jm rfl (nN (k:=1) (i:=i) rfl kI hS rfl oO dO (jl rfl (kH rfl Tryz.underlying99 ⟨_,Tryz.underlying141⟩ (r:=((kS kb D i:Nat):Int)) (by rw[hgD i oO];exact kX _ ⟨rfl,oO,oO⟩) (jl rfl (oU rfl rfl (r:=((t:Nat):Int)) (by rw[ht];exact kX _ ⟨oO,oO,oO⟩) ?_)))))));refine Y1 ?_;refine jp (ko hF.h8 ?_);refine J4 ?_;refine jp (kH rfl Tryz.underlying141 ⟨_,Tryz.underlying99⟩ (r7 _) (jp (kD (i:=j+i) rfl rfl oO dO lK (jh (pf (k:=2) (i:=j+i) (a:=_) rfl rfl rfl kI hS rfl oO dO ?_)))));intro wz9 hS;refine J1 ?_;refine jp (pW rfl rfl oO (r:=((t/4294967296:Nat):Int)) (by exact qg _ 32 dD) ?_);refine V1 ?_;obtain⟨Z',e1,e2,e3⟩:=pe (b:=kb) (lo:=lo) (X:=Z) (o:=j) (k:=i) (d:=t%4294967296) (n:=m+1) dD hlo (bG _ dD) oO;rw[FL,e1]at hS;refine V3 ?_;refine⟨(i+1,t/4294967296,Z'),_,rfl,⟨hlt,by simp only;omega,e3 _ oO hZ,?_,⟨hF.h6,hF.h7,hF.h8,hF.h9,hF.h10⟩,h11,h13,rfl,vi rfl (by simp),hS⟩,by simp only;omega⟩;simp only;have f2:kb^(i+1)*(t/4294967296)=kb^i*(4294967296*(t/4294967296)):=by rw[bC,bk]
      have f4:kb^i*(t%4294967296)+kb^i*(4294967296*(t/4294967296))=kb^i*kS kb Z i+kb^i*kS kb D i+kb^i*c:=by
       rw[<-ba,fo,ht,ba,ba]
      rw[mod_pow_succ,f2];omega
     ·refine J1 ?_;refine jt ?_;obtain rfl:i=n:=oO;rw[bh hD]at hinv;exact⟨_,rfl,c,Z,hc,hZ,hinv,⟨hF.h6,hF.h7,hF.h8,hF.h9,hF.h10⟩,h11,h13,h15,hS⟩
    clear hS hF h11 h13 h15 h16;rintro ρ w4 ⟨c,Z,hc,hZ,hinv,hF,h11,h13,h15,hS⟩;refine ja ?_;have x1:=lV Z n;have hgX:=hgU Z n (aH _);refine jr ?_;refine jp (ko hF.h8 ?_);refine J1 ?_;refine jp (ko hF.h6 ?_);refine J1 ?_;refine jp (ko hF.h8 ?_);refine J1 ?_;refine jp (ko hF.h6 ?_);refine J1 ?_;refine jp (kD (i:=j+n) rfl rfl oO dO lK (jq (nN (k:=2) (i:=j+n) rfl kI hS rfl oO dO ?_)));refine J1 ?_;refine jp (kH rfl Tryz.underlying141 ⟨_,Tryz.underlying99⟩ (r:=((c:Nat):Int)) (by exact pm _ ⟨rfl,oO,oO⟩) (jp (oU rfl rfl (r:=(((kS kb Z n+c)%4294967296:Nat):Int)) (by rw[hgX,tr];omega) (jp (kD (i:=j+n) rfl rfl oO dO lK (jh (pf (k:=2) (i:=j+n) (a:=_) rfl rfl rfl kI hS rfl oO dO ?_)))))));intro wz10 hS;refine ja ?_;obtain⟨W,e1,e2,e3⟩:=pe (b:=kb) (lo:=lo) (X:=Z) (o:=j) (k:=n) (d:=(kS kb Z n+c)%4294967296) (n:=m+1) dD hlo (bG _ dD) oO;rw[FL,e1]at hS;have hW:W=U%D:=by
     have hR:U%D<kb^n:=iQ (bG _ hDpos) hD;have hpos:0<kb^n:=cG dD;have htop:kS kb Z n=Z/kb^n:=rz dD hZ;have hdz:=cJ Z (kb^n);have hmz:=bG Z hpos;have hsum:Z%kb^n+kb^n*(Z/kb^n+c)=U%D+kb^n*4294967296:=by
      have:kb^(n+1)=kb^n*4294967296:=bC ..;rw[ba];omega
     have hy:Z/kb^n+c=4294967296:=by
      have h1:(Z%kb^n+kb^n*(Z/kb^n+c))/kb^n=(U%D+kb^n*4294967296)/kb^n:=by rw[hsum]
      rwa[da _ _ hpos,da _ _ hpos,bV hmz,bV hR,bZ,bZ]at h1
     rw[htop,hy]at e2;rw[hy]at hsum;simp only[Nat.mod_self,eV,ef]at e2;omega
    rw[hW]at hS;exact⟨_,rfl,⟨hF.h6,hF.h7,hF.h8,hF.h9,hF.h10⟩,h11,h13,hS⟩
  clear hS hF h11 h13 h15 h16 hYU;rintro ρ w4 ⟨hF,h11,h13,hS⟩;refine jr ?_;refine jp (ko hF.h10 ?_);refine J2 ?_;refine jp (kH rfl Tryz.underlying141 ⟨_,Tryz.underlying99⟩ (r:=((U/D:Nat):Int)) (by exact pm _ ⟨rfl,eh _,by generalize U/D=z at hq0⊢;omega⟩) (jp (kD (i:=j) rfl rfl oO dO lK (jh (pf (k:=0) (i:=j) (a:=(U/D)) rfl rfl rfl kI hS rfl oO dO ?_)))));intro wz11 hS;refine ja ?_;rw[eg,hj,eq1,<-hj]at hS;refine V3 ?_;exact⟨(j,kb*Q+U/D,lo+kb^j*(U%D)),_,rfl,⟨by simp only;omega,hinv2,hV2,⟨hF.h6,hF.h7,hF.h8,hF.h9,hF.h10⟩,rfl,hS⟩,by simp only;omega⟩
 ·refine J1 ?_;refine jt ?_;obtain rfl:k=0:=oO;rw[cU,eI]at hinv hV;rw[cU,dJ]at hS;rw[hDe]at hinv hV;obtain⟨f1,f2,f3⟩:=x8 hpc hinv hV;rw[<-hDe]at hinv hV;have hQM:Q<kb^M:=by
   rcases bI Q (kb^M)with h|h
   ·exact h
   ·exfalso;have h3:D*kb^M<=D*Q:=bB _ h;rw[bF D Q]at h3;omega
  have hVn:V<kb^n:=oO;refine jr ?_;refine jp (ko hF.h6 (jh (pN (n:=n) rfl rfl lK oO oO oO oO hS ?_)));intro b12 wz13 hS hBz13;refine V2 ?_;rw[<-oJ kb n,show 0=V/2^s%kb^0 by rw[cU,dZ]]at hS;refine ku (σ:=Nat) (λi ρ w'=>i<=n/\ρ 6=iB n/\ρ 7= .int .u64 s/\ρ 8= .slice (some ⟨bu,0,none⟩) (m+1) (m+1)/\ρ 10= .slice (some ⟨b1,0,none⟩) M M/\ρ 24= .slice (some ⟨b12,0,none⟩) n n/\ρ 25=iB i/\
    St w w' [(b12,141,Kr .u32 (pad kb (V/2^s%kb^i) n)),(b1,141,Kr .u32 (pad kb Q M)),(bv,141,Kr .u32 (pad kb D (n+1))),(bu,141,Kr .u32 (pad kb V (m+1)))]) (λi=>n-i) 0
   ⟨aB _,hF.h6,hF.h7,hF.h8,hF.h10,rfl,rfl,hS⟩ ?_
  clear hS hF h11;rintro i ρ w7 ⟨hi,h6,h7,h8,h10,h24,h25,hS⟩;refine V3 ?_;by_cases hlt:i<n
  ·refine V1 ?_;have x1:=lV V i;have x2:=lV V (i+1);have hg1:(pad kb V (m+1)).getD i 0=kS kb V i:=nS _ _ oO;have hg2:(pad kb V (m+1)).getD (i+1) 0=kS kb V (i+1):=nS _ _ oO;have hor:kS kb V (i+1)*2^32|||kS kb V i=kS kb V i+kS kb V (i+1)*4294967296:=by rw[gk,ut _ _ 32 oO]
   refine ja ?_;refine kC [jo 0,jo 1,jo 2,jo 3,jo 4,jo 5,ju 6,jo 7,jo 8,jo 9,jo 10,jo 11,ju 12,jo 13,jo 14,jo 15,jo 16,jo 17,jo 18,jw 19] kR kR hS ?_;intro wz14 hS hBz14;refine J5 ?_;refine jl rfl (kD (i:=i+1) rfl rfl oO dO lK (jm rfl (nN (k:=3) (i:=i+1) rfl kI hS rfl oO dO (jl rfl (kH rfl Tryz.underlying99 ⟨_,Tryz.underlying141⟩ (r:=((kS kb V (i+1):Nat):Int)) (by rw[hg2];exact kX _ ⟨rfl,oO,oO⟩) (jl rfl (uS rfl rfl oO (r:=((kS kb V (i+1)*2^32:Nat):Int)) (by exact uX _ 32 _ dD (kX _ ⟨rfl,oO,oO⟩)) ?_)))))));refine J2 ?_;refine jl rfl (kD (i:=i) rfl rfl oO dO lK (jm rfl (nN (k:=3) (i:=i) rfl kI hS rfl oO dO (jl rfl (kH rfl Tryz.underlying99 ⟨_,Tryz.underlying141⟩ (r:=((kS kb V i:Nat):Int)) (by rw[hg1];exact kX _ ⟨rfl,oO,oO⟩) (jl rfl (zt rfl rfl (r:=((kS kb V i+kS kb V (i+1)*4294967296:Nat):Int)) (by rw[<-hor];exact rj rfl _ _ (by show _<18446744073709551616;omega) (by show _<18446744073709551616;omega)) ?_)))))));refine J1 ?_;refine jl rfl (pW rfl rfl oO (qg _ s (show s<=64 by omega)) (jl rfl (kH rfl Tryz.underlying141 ⟨_,Tryz.underlying99⟩ (r7 _) (jl rfl (kD (i:=i) rfl rfl oO dO lK (jx rfl (pf (k:=0) (i:=i) (a:=_) rfl rfl rfl kI hS rfl oO dO ?_)))))));intro wz15 hS;refine ja ?_;rw[eg,AD V s i oO,CD dD]at hS;refine V3 ?_;exact⟨i+1,_,rfl,⟨hlt,h6,h7,h8,h10,h24,vi rfl oO,hS⟩,oO⟩
  ·refine J1 ?_;refine jt ?_;obtain rfl:i=n:=oO;have hlt3:V/2^s<kb^i:=ct (dE _ _) hVn;rw[bh hlt3]at hS;have hslr:=hS.Iu (k:=0) rfl (n:=i) (cap:=i) (by simp) (aH _) oO;rw[aV (by simp)]at hslr;have hslq:=hS.Iu (k:=1) rfl (n:=M) (cap:=M) (by simp) (aH _) oO;rw[aV (by simp)]at hslq;refine J1 ?_;refine jh (j6 Tryz.call123 rfl (uW _ _ _ hslq (sP dD _ _)) ?_);rintro _ wq16 ⟨hq,hq16⟩;replace hq16:=hq16.symm;subst hq16;refine J1 ?_;refine jh (j6 Tryz.call123 rfl (uW _ _ _ hslr (sP dD _ _)) ?_);rintro _ wq17 ⟨hr,hq17⟩;replace hq17:=hq17.symm;subst hq17;refine J2 ?_;refine jt ?_;refine rD rfl rfl rfl ?_;rw[mP hQM,<-f1]at hq;rw[mP hlt3,f3]at hr;exact⟨⟨_,_,rfl,hq,hr⟩,hS.j4⟩
theorem yo (vx vy:Value) (X Y:Nat) (w:World) (hx:Sl (uk .u32) 1 w vx (kJ X)) (hy:Sl (uk .u32) 1 w vy (kJ Y)) (hY0:0<Y) (hmx:(kJ X).length<=4398046511104):
  lU Tryz.prog 122 #[vx,vy] w λr w'=>(∃q s,r= .tuple #[q,s]/\Sl (uk .u32) 1 w' q (kJ (X/Y))/\Sl (uk .u32) 1 w' s (kJ (X%Y)))/\Below w.heap.size w w':=by
 have hB:kb=4294967296:=rfl;have hS:=St.init w;obtain⟨n,hn⟩:=jz ((kJ Y).length);have hYn:Y<kb^n:=hn▸lN Y;obtain⟨hn0,_⟩:=zx hY0;rw[<-hn]at hn0;refine enter Tryz.func122 rfl Tryz.ntmps122 rfl ?_;refine J4 ?_;refine jh (j6 Tryz.call162 rfl (MS _ _ _ _ _ (hx.j4 hS.j4) (hy.j4 hS.j4)) ?_);rintro _ wc1 ⟨rfl,hBc1⟩;replace hS:=hS.km hBc1;refine V1 ?_;by_cases hlt:X<Y
 ·refine k9 rfl (ao (by rw[tZ hlt];decide)) ?_;refine J3 ?_;refine jt ?_;refine rD rfl rfl rfl ?_;refine⟨⟨_,_,rfl,?_,?_⟩,hS.j4⟩
  ·rw[bV hlt,kJ,nL];exact Sl.nil _ _ _
  ·rw[bh hlt];exact hx.j4 hS.j4
 ·have hge:Y<=X:=iJ hlt;have hcmp:¬sn X Y<0:=by
   rcases bI Y X with h|h
   ·rw[ug h];decide
   ·rw[show X=Y by omega,xB];decide
  refine lx rfl (ae hcmp) ?_;refine J1 ?_;refine jp (ki rfl (hy.j4 hS.j4) ⟨_,Tryz.underlying138⟩ ?_);refine V1 ?_;by_cases h1:n=1
  ·refine V1 ?_;have hg:(kJ Y).getD 0 0=Y:=by
    rw[l9,kS,cU,ft];rw[h1,i5]at hYn;exact bh hYn
   have hYl:Y<=4294967295:=by rw[h1,i5]at hYn;omega
   refine J2 ?_;refine jp (kj (i:=0) rfl rfl (hy.j4 hS.j4) oO dO lK (jq (kt (i:=0) 0 rfl kI (hy.j4 hS.j4) dO rfl rfl (.inr rfl) ?_)));rw[hg];refine jh (j6 Tryz.call163 rfl (MU _ _ _ _ (hx.j4 hS.j4) hY0 hYl oO) ?_);rintro r w2 ⟨⟨q,rfl,hq⟩,hB2⟩;replace hS:=hS.km hB2;refine V5 ?_;have hml:X%Y<=4294967295:=by have:=bG X hY0;omega
   refine J2 ?_;refine jh (mD (vs:=[_]) rfl lK rfl dD dD dD (by simp[Value.cells]) rfl hS ?_);intro b2 wz3 hS hBz3;have hq1:=hq.j4 hBz3;have hsl:=St.Iu (L:=[X%Y]) hS (k:=0) rfl (n:=1) (cap:=1) (by simp) oO oO;refine jh (j6 Tryz.call123 rfl (uW _ _ _ hsl (by intro d hd;rw[aV (by simp)]at hd;rw[aZ.1 hd];omega)) ?_);rintro _ wq4 ⟨hv,hq4⟩;replace hq4:=hq4.symm;subst hq4;refine J2 ?_;refine jt ?_;refine rD rfl rfl rfl ?_;refine⟨⟨_,_,rfl,hq1,?_⟩,hS.j4⟩;have e:lA kb ([X%Y].take 1)=X%Y:=by simp[lA]
   rwa[e]at hv
  ·refine J3 ?_;refine jh (j6 Tryz.call164 rfl (O7 _ _ _ _ _ (hx.j4 hS.j4) (hy.j4 hS.j4) hge oO hmx) ?_);rintro r w2 ⟨⟨q,s,rfl,hq,hs⟩,hB2⟩;replace hS:=hS.km hB2;refine J4 ?_;refine jt ?_;refine rD rfl rfl rfl ?_;exact⟨⟨_,_,rfl,hq,hs⟩,hS.j4⟩
theorem Jw (vx vy:Value) (A B:Nat) (w:World) (hx:Sl (uk .u32) 1 w vx (kJ A)) (hy:Sl (uk .u32) 1 w vy (kJ B)) (hmx:(kJ A).length<=4398046511104) (hmy:(kJ B).length<=4398046511104):
  lU Tryz.prog 121 #[vx,vy] w λr w'=>Sl (uk .u32) 1 w' r (kJ (Nat.gcd A B))/\Below w.heap.size w w':=by
 have hS:=St.init w;refine enter Tryz.func121 rfl Tryz.ntmps121 rfl ?_;refine V1 ?_;refine ku (σ:=Nat×Nat) (λs ρ w'=>Nat.gcd s.1 s.2=Nat.gcd A B/\(kJ s.1).length<=4398046511104/\(kJ s.2).length<=4398046511104/\(∃vx vy,ρ 0=vx/\ρ 1=vy/\Sl (uk .u32) 1 w' vx (kJ s.1)/\Sl (uk .u32) 1 w' vy (kJ s.2))/\St w w' []) (λs=>s.2) (A,B)
  ⟨rfl,hmx,hmy,⟨_,_,rfl,rfl,hx,hy⟩,hS⟩ ?_
 clear hS hx hy;rintro⟨X,Y⟩ ρ w3 ⟨hg,hX,hY,⟨vx,vy,h0,h1,hx,hy⟩,hS⟩;simp only at hg hX hY hx hy;refine J1 ?_;refine jp (ki rfl hy ⟨_,Tryz.underlying138⟩ ?_);refine V1 ?_;have hyn:(kJ Y).length=0↔Y=0:=qY;by_cases hY0:Y=0
 ·refine J3 ?_;refine jt ?_;refine kB rfl rfl ?_;rw[hY0,Nat.gcd_zero_right]at hg;rw[<-hg];exact⟨hx,hS.j4⟩
 ·refine V1 ?_;have hlt:X%Y<Y:=bG _ oO;have hls:=oM (fS hlt);refine J2 ?_;refine jh (j6 Tryz.call122 rfl (yo _ _ _ _ _ hx hy oO oO) ?_);rintro r w4 ⟨⟨q,s,rfl,hq,hs⟩,hB4⟩;refine V9 ?_;refine⟨(Y,X%Y),_,rfl,⟨?_,hY,by simp only;omega,⟨vy,s,rfl,rfl,hy.j4 hB4,hs⟩,hS.km hB4⟩,hlt⟩;simp only;rw[<-hg,jL Y,<-Nat.gcd_rec,jL]
theorem Qf:kJ 1=[1]:=by unfold kJ;rw[uY dD dD,show 1/kb=0 from rfl,nL];rfl
theorem Ed {g:Nat} (h:¬1<(kJ g).length) (hg:0<g):(kJ g).length=1/\(kJ g).getD 0 0=g:=by
 have h1:=(zx hg).1;have h2:(kJ g).length=1:=oO;have h3:=lN g;rw[h2,i5]at h3;refine⟨h2,?_⟩;rw[l9,kS,cU,ft,bh h3]
theorem AC {g:Nat} (h:1<(kJ g).length):g≠1:=by
 rintro rfl;rw[Qf]at h;exact absurd h dD
theorem C9 (b:Bool) (s:ByteArray):Tryz.prog.built 32 [(0,.bool b),(1,.string s)]=some #[.bool b,.string s,.string ⟨#[]⟩]:=by kernel_rfl
theorem G5 (b:Bool) (vn vd:Value) (n d:Nat) (w:World) (hvn:Sl (uk .u32) 1 w vn (kJ n)) (hvd:Sl (uk .u32) 1 w vd (kJ d)) (hn:(kJ n).length<=4398046511104) (hd:(kJ d).length<=4398046511104) (h0:d≠0):
  lU Tryz.prog 78 #[.bool b,vn,vd] w λv w'=>v=kW (j8 (mkRat (sg b n) d))/\Below w.heap.size w w':=by
 have hS:=St.init w;refine enter Tryz.func78 rfl Tryz.ntmps78 rfl ?_;refine J1 ?_;intro b1 wz2 hS hBz2;refine J1 ?_;refine jp (ki rfl (hvn.j4 hS.j4) ⟨_,Tryz.underlying138⟩ ?_);refine V1 ?_;have hzn:(kJ n).length=0↔n=0:=qY;by_cases hz:n=0
 ·refine Y1 ?_;refine jp (kT rfl px ?_);refine J1 ?_;intro wz3 hS;refine jt ?_;refine mb (k:=0) rfl rfl kf hS rfl rfl ?_;refine⟨?_,hS.j4⟩;have:mkRat (sg b 0) d=0:=by cases b<;>simp[sg]
  rw[hz,this,ol];rfl
 ·refine V1 ?_;obtain⟨g,hg⟩:=jz (Nat.gcd n d);have hgp:0<g:=by rw[hg];exact iE _ oO
  have hgn:g<=n:=by rw[hg];exact Nat.gcd_le_left _ oO
  have hgd:g<=d:=by rw[hg];exact Nat.gcd_le_right _ oO
  have hgl:=oM hgn;refine J2 ?_;refine jh (j6 Tryz.call121 rfl (Jw _ _ n d _ (hvn.j4 hS.j4) (hvd.j4 hS.j4) oO oO) ?_);rintro vg w2 ⟨hvg,hB2⟩;replace hS:=hS.km hB2;rw[<-hg]at hvg;refine V1 ?_;refine kx (λρ w'=>ρ 0= .bool b/\ρ 1=vn/\ρ 2=vd/\ρ 6=pB b1/\ρ 7=vg/\ρ 24= .bool (decide (g≠1))/\w2=w') ?_ ?_
  ·by_cases hl1:1<(kJ g).length
   ·refine J1 ?_;refine jp (ki rfl hvg ⟨_,Tryz.underlying138⟩ ?_);refine J2 ?_;refine kL (ka 19 kR rfl dT) (kL (ka 19 kR rfl dT) (kL (ka 19 kR rfl dT) (kL (ka 19 kR rfl dT) (jp (kA (vb rfl dT) rfl ?_)))));refine ja ?_;exact⟨_,rfl,rfl,rfl,rfl,rfl,rfl,vb rfl (ao (AC hl1)).symm,rfl⟩
   ·have hl2:=Ed hl1 hgp;refine J1 ?_;refine jp (ki rfl hvg ⟨_,Tryz.underlying138⟩ ?_);refine J2 ?_;refine ke (j7 19 kR rfl dF) (ko rfl (ke (j7 19 kR rfl dF) (kj (i:=0) rfl rfl hvg oO dO lK (lj (j7 19 kR rfl dF) (kt (i:=0) 0 rfl kI hvg dO rfl rfl (.inr rfl) (ke (j7 19 kR rfl dF) (t5 rfl rfl (jp (kA (vb rfl dF) rfl ?_)))))))));refine ja ?_;exact⟨_,rfl,rfl,rfl,rfl,rfl,rfl,vb rfl (by rw[hl2.2,en];omega),rfl⟩
  rintro ρ w' ⟨k0,k1,k2,k6,k7,k24,rfl⟩;refine ja ?_;refine kx (λρ w'=>∃(n' d':Nat) (v1 v2:Value),0<n'/\d'≠0/\Nat.gcd n' d'=1/\mkRat (sg b n) d=mkRat (sg b n') d'/\(kJ n').length<=4398046511104/\(kJ d').length<=4398046511104/\ρ 0= .bool b/\ρ 1=v1/\ρ 2=v2/\ρ 6=pB b1/\
   Sl (uk .u32) 1 w' v1 (kJ n')/\Sl (uk .u32) 1 w' v2 (kJ d')/\St w w' [(b1,32,j5 ⟨false,⟨#[]⟩,⟨#[]⟩⟩)]) ?_ ?_
  ·refine ja ?_;by_cases hg1:g=1
   ·refine lx k24 (ae (cj hg1)) ?_;refine ja ?_;exact⟨_,rfl,n,d,_,_,oO,h0,by rw[<-hg,hg1],rfl,oO,oO,k0,k1,k2,k6,hvn.j4 hS.j4,hvd.j4 hS.j4,hS⟩
   ·refine k9 k24 (ao hg1) ?_;refine ja ?_;have hnp:0<n/g:=ix hgn hgp;have hdp:0<d/g:=ix hgd hgp;have hln:=oM (dE n g);have hld:=oM (dE d g);refine jr ?_;refine jp (ko k1 (jp (ko k7 (jh (j6 Tryz.call122 rfl (yo _ _ n g _ (hvn.j4 hS.j4) hvg hgp oO) ?_)))));rintro r w3 ⟨⟨q1,s1,rfl,hq1,_⟩,hB3⟩;replace hS:=hS.km hB3;refine Y4 ?_;refine jp (ko k2 (jp (ko k7 (jh (j6 Tryz.call122 rfl (yo _ _ d g _ (hvd.j4 hS.j4) (hvg.j4 hB3) hgp oO) ?_)))));rintro r w4 ⟨⟨q2,s2,rfl,hq2,_⟩,hB4⟩;replace hS:=hS.km hB4;refine V4 ?_;exact⟨_,rfl,n/g,d/g,q1,q2,hnp,oO,by rw[hg,Nat.gcd_div (iK _ _) (fq _ _),<-hg,Nat.div_self hgp],Ei h0 hg,oO,oO,k0,rfl,rfl,k6,hq1.j4 hB4,hq2,hS⟩
  clear k0 k1 k2 k6 k7 k24;clear hS hvn hvd;rintro ρ w' ⟨n',d',v1,v2,hn',hd',hc,he,hln',hld',k0,k1,k2,k6,hvn,hvd,hS⟩;rw[he,CC hn' hd' hc];refine jr ?_;refine jp (ko k0 (jp (ko k1 (jh (j6 Tryz.call79 rfl (BS _ _ _ hvn (xG _) oO) ?_)))));rintro r w5 ⟨rfl,hB5⟩;replace hS:=hS.km hB5;rw[qH];have hvd5:=hvd.j4 hB5;have hS0:=hS;replace hS:=St.init w5;refine jp (kT rfl (C9 _ _) ?_);refine J1 ?_;intro b4 wz5 hS hBz5;refine J1 ?_;intro wz6 hS;refine ja ?_;replace hS:St w5 _ [(_,32,j5 ⟨b,kG n',⟨#[]⟩⟩)]:=hS;refine ja ?_;refine kx (λρ w'=>ρ 2=v2/\ρ 6=pB b1/\ρ 8=pB b4/\ρ 49= .bool (decide (d'≠1))/\wz6=w') ?_ ?_
  ·by_cases hl1:1<(kJ d').length
   ·refine jr ?_;refine jp (ko k2 (jp (ki rfl (hvd5.j4 hS.j4) ⟨_,Tryz.underlying138⟩ ?_)));refine J2 ?_;refine kL (ka 44 kR rfl dT) (kL (ka 44 kR rfl dT) (kL (ka 44 kR rfl dT) (kL (ka 44 kR rfl dT) (jp (kA (vb rfl dT) rfl ?_)))));refine ja ?_;exact⟨_,rfl,k2,k6,rfl,vb rfl (ao (AC hl1)).symm,rfl⟩
   ·have hl2:=Ed hl1 oO;refine jr ?_;refine jp (ko k2 (jp (ki rfl (hvd5.j4 hS.j4) ⟨_,Tryz.underlying138⟩ ?_)));refine J2 ?_;refine ke (j7 44 kR rfl dF) (ko k2 (ke (j7 44 kR rfl dF) (kj (i:=0) rfl rfl (hvd5.j4 hS.j4) oO dO lK (lj (j7 44 kR rfl dF) (kt (i:=0) 0 rfl kI (hvd5.j4 hS.j4) dO rfl rfl (.inr rfl) (ke (j7 44 kR rfl dF) (t5 rfl rfl (jp (kA (vb rfl dF) rfl ?_)))))))));refine ja ?_;exact⟨_,rfl,k2,k6,rfl,vb rfl (by rw[hl2.2,en];omega),rfl⟩
  clear k0 k1 k2 k6;rintro ρ w' ⟨k2,k6,k8,k49,rfl⟩;refine ja ?_;refine kx (λρ w'=>∃b8,ρ 6=pB b1/\ρ 8=pB b8/\St w w' [(b8,32,j5 ⟨b,kG n',if d'=1 then⟨#[]⟩else kG d'⟩),(b1,32,j5 ⟨false,⟨#[]⟩,⟨#[]⟩⟩)]) ?_ ?_
  ·refine ja ?_;by_cases hd1:d'=1
   ·refine lx k49 (ae (cj hd1)) ?_;refine ja ?_;exact⟨_,rfl,_,k6,k8,by rw[aj hd1];exact hS0.join hS⟩
   ·refine k9 k49 (ao hd1) ?_;refine jr ?_;refine jp (ko k2 (jh (j6 Tryz.call79 rfl (BS _ _ _ (hvd5.j4 hS.j4) (xG _) oO) ?_)));rintro r w6 ⟨rfl,hB6⟩;replace hS:=hS.km hB6;rw[qH];refine jp (lC k8 rE (jh (nM (k:=0) rfl rfl tT hS rfl dM rfl ?_)));intro wz7 hS;refine ja ?_;exact⟨_,rfl,_,k6,k8,by rw[ah hd1];exact hS0.join hS⟩
  clear hS hS0 hvd5 hvn hvd;rintro ρ w' ⟨b8,k6,k8,hS⟩;refine jr ?_;refine jq (kO (k:=0) k8 kf hS rfl rfl rfl (.inl rfl) (jh (lI (k:=1) k6 rfl kf hS rfl rfl rfl dM rfl ?_)));intro wz8 hS;refine jt ?_;refine mb (k:=1) rfl k6 kf hS rfl rfl ?_;exact⟨rfl,hS.j4⟩
theorem CM (n:Int) (w:World) (h1: -9223372036854775808<=n) (h2:n<=9223372036854775807):
  lU Tryz.prog 43 #[.int .i64 n] w λv w'=>v= .int .u64 (n.natAbs:Nat)/\w'=w:=by
 refine enter Tryz.func43 rfl Tryz.ntmps43 rfl ?_;refine V3 ?_;by_cases h:n<0
 ·refine k9 rfl (ao h) ?_;refine J2 ?_;refine jp (NB rfl (r:=(-(n+1))) (by exact oN _ ⟨oO,oO,oO⟩) (jp (kH rfl Tryz.underlying99 ⟨_,Tryz.underlying2⟩ (r:=(-(n+1))) (by exact fk _ oO) (jp (oU rfl rfl (r:=((n.natAbs:Nat):Int)) (by exact kX _ ⟨oO,oO,oO⟩) ?_)))));refine J1 ?_;refine jt ?_;refine kB rfl rfl ?_;exact⟨rfl,rfl⟩
 ·refine lx rfl (ae h) ?_;refine J1 ?_;refine jp (kH rfl Tryz.underlying99 ⟨_,Tryz.underlying2⟩ (r:=((n.natAbs:Nat):Int)) (by exact kX _ ⟨oO,oO,oO⟩) ?_);refine J1 ?_;refine jt ?_;refine kB rfl rfl ?_;exact⟨rfl,rfl⟩
theorem Qy (n:Int) (w:World) (h1: -9223372036854775808<=n) (h2:n<=9223372036854775807):
  lU Tryz.prog 76 #[.int .i64 n] w λv w'=>v=kW (j8 (n:Rat))/\Below w.heap.size w w':=by
 have hS:=St.init w;refine enter Tryz.func76 rfl Tryz.ntmps76 rfl ?_;refine J1 ?_;intro b1 wz2 hS hBz2;refine J3 ?_;refine jh (j6 Tryz.call43 rfl (CM n _ h1 h2) ?_);rintro _ wq3 ⟨rfl,hq3⟩;replace hq3:=hq3.symm;subst hq3;refine jh (j6 Tryz.call42 rfl (uZ n.natAbs _ oO) ?_);rintro _ wc4 ⟨rfl,hBc4⟩;replace hS:=hS.km hBc4;refine jp (kT rfl (C9 _ _) ?_);refine J1 ?_;intro wz5 hS;refine jt ?_;refine mb (k:=0) rfl rfl kf hS rfl rfl ?_;exact⟨rfl,hS.j4⟩
theorem NZ (b:Bool) (num den:ByteArray) (w:World) (hn:num.size<=4398046511104) (hd:den.size<=4398046511104) (h0:val den≠0):
  lU Tryz.prog 41 #[.bool b,.string num,.string den] w λv w'=>v= .tuple #[kW (j8 (mkRat (sg b (val num)) (val den))),.bool true]/\Below w.heap.size w w':=by
 have hla:=mS num;have hlb:=mS den;have hne:(kJ (val den)).length≠0:=λh=>h0 (qY.1 h);have hS:=St.init w;refine enter Tryz.func41 rfl Tryz.ntmps41 rfl ?_;refine J1 ?_;intro b1 wz2 hS hBz2;refine J2 ?_;refine jh (j6 Tryz.call77 rfl (Ec _ _ oO) ?_);rintro vd w2 ⟨hvd,hB2⟩;replace hS:=hS.km hB2;refine J2 ?_;refine jp (ki rfl hvd ⟨_,Tryz.underlying138⟩ ?_);refine J4 ?_;refine jh (j6 Tryz.call77 rfl (Ec _ _ oO) ?_);rintro vn w3 ⟨hvn,hB3⟩;replace hS:=hS.km hB3;refine J1 ?_;refine jh (j6 Tryz.call78 rfl (G5 b vn vd _ _ _ hvn (hvd.j4 hB3) oO oO h0) ?_);rintro r w4 ⟨rfl,hB4⟩;replace hS:=hS.km hB4;refine J1 ?_;intro wz3 hS;refine J1 ?_;refine jt ?_;refine nb (k:=0) rfl rfl rfl kf hS rfl rfl ?_;exact⟨rfl,hS.j4⟩
theorem RH (a:Int) (n:Nat):sg (decide (a<0)!=decide (((n:Nat):Int)<0)) a.natAbs=a:=by
 have h:decide (((n:Nat):Int)<0)=false:=by simp
 rw[h];unfold sg;by_cases ha:a<0<;>simp[ha]<;>omega
theorem FM (a:Int) (n:Nat) (w:World) (h1: -9223372036854775808<=a) (h2:a<=9223372036854775807) (hn0:0<n) (hn:n<=9223372036854775807):
  lU Tryz.prog 23 #[.int .i64 a,.int .i64 n] w λv w'=>v= .tuple #[kW (j8 (mkRat a n)),.bool true]/\Below w.heap.size w w':=by
 have hS:=St.init w;have hs1:=CU (n:=a.natAbs) oO;have hs2:=CU (n:=n) oO;have hmk:=λw=>NZ (decide (a<0)!=decide (((n:Nat):Int)<0)) (kG a.natAbs) (kG n) w oO oO (by rw[kY];omega);rw[kY,kY,RH]at hmk;refine enter Tryz.func23 rfl Tryz.ntmps23 rfl ?_;refine J1 ?_;intro b1 wz2 hS hBz2;refine J5 ?_;refine jp (Cd rfl rfl Tryz.underlying4 ?_);refine J1 ?_;refine jh (j6 Tryz.call43 rfl (CM a _ h1 h2) ?_);rintro _ wq3 ⟨rfl,hq3⟩;replace hq3:=hq3.symm;subst hq3;refine jh (j6 Tryz.call42 rfl (uZ a.natAbs _ oO) ?_);rintro _ wc4 ⟨rfl,hBc4⟩;replace hS:=hS.km hBc4;refine J1 ?_;refine jh (j6 Tryz.call43 rfl (CM n _ oO oO) ?_);rintro _ wq5 ⟨rfl,hq5⟩;replace hq5:=hq5.symm;subst hq5;rw[fL];refine jh (j6 Tryz.call42 rfl (uZ n _ oO) ?_);rintro _ wc6 ⟨rfl,hBc6⟩;replace hS:=hS.km hBc6;refine jh (j6 Tryz.call41 rfl (hmk _) ?_);rintro _ wc7 ⟨rfl,hBc7⟩;replace hS:=hS.km hBc7;refine J3 ?_;intro wz8 hS;refine J1 ?_;refine jt ?_;refine nb (k:=0) rfl rfl rfl kf hS rfl rfl ?_;exact⟨rfl,hS.j4⟩
theorem Ub (a b:ByteArray):a.toList=b.toList↔a=b:=by
 have:=Oe a b;rw[gg]at this;simpa using this
theorem AI (d:Nat) (r s:RR) (w:World):(Op.equalIn (d+2) 32 (kW r) (kW s)).run Tryz.prog w= .ok (decide (r=s)) w:=by
 unfold kW;rw[run_equalIn_agg (P:=Tryz.prog) w (d+1) 32 _ _ kR kR];have hb:Tryz.prog.underlying 4=some .bool:=by kernel_rfl
 have hs:Tryz.prog.underlying 9=some .string:=by kernel_rfl
 simp only[Program.fieldsOf,Tryz.underlying32];simp[Op.eqFields,part,run_equalIn_bool' (P:=Tryz.prog) w _ _ _ _ hb,run_equalIn_string (P:=Tryz.prog) w _ _ _ _ hs,Ub];cases r;cases s
 rename_i a b c a' b' c';simp only[RR.mk.injEq];by_cases h1:a=a'<;>by_cases h2:b=b'<;>by_cases h3:c=c'<;>simp[h1,h2,h3]
section
variable {N : Nat} {ρ : Nat → Value} {d : Option Tmp} {ty : TypeId} {pos : String} {aft : Array Edge} {g : Option (Nat × Bool)} {x y : Operand} {t' : TypeId} {K : Value → Prop}
theorem P4 {r s:RR} (hx:ev N ρ x=kW r) (hy:ev N ρ y=kW s) (h:K (.bool (decide (r=s)))):lX Tryz.prog N ρ ⟨d,.binOp .eql 32 x y t',ty,pos,aft,g⟩ K:=by
 refine⟨_,λw=> ?_,h⟩;have h1:(eqGuard .eql 32 x y (kW r) (kW s)).run Tryz.prog w= .ok () w:=run_eqGuard_agg (P:=Tryz.prog) w .eql 32 x y _ _ kR;have h2:(binOp .eql 32 (kW r) (kW s)).run Tryz.prog w= .ok (.bool (decide (r=s))) w:=by
  have:=run_eql_struct (P:=Tryz.prog) w 32 #[.bool r.neg,.string r.num,.string r.den] #[.bool s.neg,.string s.num,.string s.den];have h3:=AI 9998 r s w;unfold kW at*;rw[this,h3];rfl
 simp only[execOp,hx,hy,dP,h1,h2,dp];rfl
theorem GX {r s:RR} (hx:ev N ρ x=kW r) (hy:ev N ρ y=kW s) (h:K (.bool (decide (r≠s)))):lX Tryz.prog N ρ ⟨d,.binOp .neq 32 x y t',ty,pos,aft,g⟩ K:=by
 refine⟨_,λw=> ?_,h⟩;have h1:(eqGuard .neq 32 x y (kW r) (kW s)).run Tryz.prog w= .ok () w:=run_eqGuard_agg (P:=Tryz.prog) w .neq 32 x y _ _ kR;have h2:(binOp .neq 32 (kW r) (kW s)).run Tryz.prog w= .ok (.bool (decide (r≠s))) w:=by
  have:=run_neq_struct (P:=Tryz.prog) w 32 #[.bool r.neg,.string r.num,.string r.den] #[.bool s.neg,.string s.num,.string s.den];have h3:=AI 9998 r s w;unfold kW at*;rw[this,h3];simp[Result.andThen]
 simp only[execOp,hx,hy,dP,h1,h2,dp];rfl
end
end Go.Proofs.YtoeiejliehgopaaGreatDoor
namespace Go.Sx
open Go Go.RowKit
def RB (k:Nat) (l:List RR):Prop:=∀r∈l,Lr r<=k
end Go.Sx
namespace Go.Proofs.YtoeiejliehgopaaGreatDoor
open Go Go.RowKit Go.Sx
theorem W0 (p q:Rat):L (Dy p q)<=max (L p) (L q):=by unfold Dy;split<;>omega
theorem Vq (p q:Rat):L (wq p q)<=max (L p) (L q):=by unfold wq;split<;>omega
section
variable {P : Program} {N : Nat} {ρ : Nat → Value} {w : World}
  {d : Option Tmp} {ty : TypeId} {pos : String} {aft : Array Edge} {g : Option (Nat × Bool)} {x y : Operand} {t e : TypeId} {K : Value → Prop}
theorem tY {b n i sz:Nat} {zz:List Value} {kk:IntKind} {m:Int} (hx:ev N ρ x= .pointer (some ⟨b,0,none⟩)) (hy:ev N ρ y= .int kk m) (hm:m=(i:Int)) (hi:i<n)
  (ht:P.underlying t=some (.array n e)) (he:lO P e=some (sz,false,zz)) (h:K (.pointer (some ⟨b,i*sz,none⟩))):
  lX P N ρ ⟨d,.indexAddr t x y,ty,pos,aft,g⟩ K:=by
 obtain⟨ii,dd,zv,hi1,hu,_,hsz,_⟩:=qI he;subst hm hsz;refine⟨_,λw=> ?_,h⟩;simp[execOp,hx,hy,Instr.indexAt,asIntOf,cS ht,hi,sizeOf,typeInfo,hi1,add_lit,Instr.sureAddr]
end
theorem wE (xs:List RR):∀u∈xs.flatMap j5,u.oneCell'=true:=by
 intro u hu;obtain⟨x,_,hx⟩:=dQ.1 hu;simp only[j5,bJ,df,fM]at hx;rcases hx with rfl|rfl|rfl<;>rfl
theorem QD:toQ kP=0:=by rw[<-toQ_ofQ 0,ol];rfl
end Go.Proofs.YtoeiejliehgopaaGreatDoor
namespace Go.Sx
open Go Go.RowKit Go.Proofs.YtoeiejliehgopaaGreatDoor
def ky {α:Type} (n:Nat) (f:Nat->α):List α:=(List.range n).map f
theorem j9 {α:Type} (n:Nat) (f:Nat->α):(ky n f).length=n:=by simp[ky]
theorem kz {α:Type} {n:Nat} (f:Nat->α) (d:α) {i:Nat} (h:i<n):(ky n f).getD i d=f i:=by
 simp[ky,ap,h]
theorem kF {α:Type} {n:Nat} {f g:Nat->α} (h:∀i,i<n->f i=g i):ky n f=ky n g:=by
 unfold ky;exact eY λi hi=>h i (cW.1 hi)
theorem t9 {α:Type} (n:Nat) (d:α):List.replicate n d=ky n λ_=>d:=by
 refine ff (by simp[ky]) λi h1 h2=> ?_;simp[ky]
theorem nt {α:Type} {n:Nat} (f:Nat->α) (i:Nat) (v:α):(ky n f).set i v=ky n λj=>if j=i then v else f j:=by
 refine ff (by simp[ky]) λj h1 h2=> ?_;rw[List.getElem_set];simp only[ky,ew,jC];by_cases h:i=j
 ·subst h;simp
 ·rw[ah h,ah (λe=>h e.symm)]
theorem Je {α:Type} (l:List α) (d:α):l=ky l.length λi=>l.getD i d:=by
 refine ff (by simp[ky]) λi h1 h2=> ?_;simp[ky,ap,h1]
theorem tf {α:Type} {n:Nat} {f:Nat->α} {x:α} (h:x∈ky n f):∃i,i<n/\f i=x:=by
 obtain⟨i,hi,e⟩:=bX.1 h;exact⟨i,cW.1 hi,e⟩
theorem om {α:Type} (n:Nat) (f:Nat->α):ky (n+1) f=ky n f++[f n]:=by
 simp[ky,iT]
theorem K5 (m n:Nat) (hm:m<2^63) (hn:n<2^63):pM .and .i64 m n=((m&&&n:Nat):Int):=by
 have hlt:m&&&n<2^63:=ct Nat.and_le_left hm;show IntKind.wrap .i64 (((BitVec.ofInt 64 (m:Int)&&&BitVec.ofInt 64 (n:Int)).toNat:Nat):Int)=_;rw[fR,fR,BitVec.toNat_and,gi,gi,bh oO,bh oO];exact oN _ ⟨rfl,oO,oO⟩
open Go Go.RowKit
section
variable {P : Program} {N : Nat} {ρ : Nat → Value} {w w0 : World} {H : List kU}
  {d : Option Tmp} {ty : TypeId} {pos : String} {aft : Array Edge} {g : Option (Nat × Bool)} {x y : Operand} {t e : TypeId} {v vs : Value} {K2 : Value → World → Prop}
theorem tD {α:Type} {enc:α->List Value} {size:Nat} {X:List α} {L:List kU} {i:Nat} {zz:List Value} {agg:Bool} (u:α) (hu:∀x,(enc x).length=size) (hx:ev N ρ x= .pointer (some ((tB vs).add (i*size)))) (hy:ev N ρ y=v) (ht:lO P t=some (size,agg,zz)) (hG:Gl enc e size vs X L) (hS:St w0 w (H++L))
  (hi:i<X.length) (hv:v.cells.toList=enc u) (h1:(enc u).all (·.oneCell')=true)
  (h:∀w',(∃L',Gl enc e size vs (X.set i u) L'/\St w0 w' (H++L'))->K2 undef w'):pd P N ρ w ⟨d,.store t x y,ty,pos,aft,g⟩ K2:=by
 obtain⟨hX,⟨rfl,h0,_⟩|⟨b,cap,spare,rfl,rfl,h2,h3,h4⟩⟩:=hG
 ·omega
 have hx':ev N ρ x= .pointer (some ⟨b,i*size,none⟩):=by
  rw[hx];show Value.pointer (some ((⟨b,0,none⟩:Addr).add (i*size)))=_;rw[add_lit,bZ]
 have hk:(H++[(b,e,X.flatMap enc++spare)])[H.length]?=some (b,e,X.flatMap enc++spare):=by simp
 have hfit:i*size+size<=(X.flatMap enc).length:=by
  rw[hX];have:(i+1)*size<=X.length*size:=aO _ hi;rw[bA]at this;omega
 refine lI hx' hy ht hS hk hv (hu u) (by rw[aG];omega) h1 (λw' hS'=> ?_);have hsp:splice (X.flatMap enc++spare) (i*size) (enc u)=(X.set i u).flatMap enc++spare:=by
  rw[<-wZ hu X u hi];unfold splice;rw[fG oO,fH (by rw[hu];exact hfit)];simp only[aI]
 rw[hsp]at hS';refine h w' ⟨[(b,e,(X.set i u).flatMap enc++spare)],⟨?_,.inr ⟨b,cap,spare,by rw[ce],rfl,by rw[ce];exact h2,h3,?_⟩⟩,hS'.cast (by simp)⟩
 ·rw[ce,<-hX,<-wZ hu X u hi];unfold splice;simp only[aG,dg,fe,hu];omega
 ·rw[<-h4,aG,aG,<-wZ hu X u hi];unfold splice;simp only[aG,dg,fe,hu];omega
end
end Go.Sx
namespace Go.Proofs.YtoeiejliehgopaaGreatDoor
open Go Go.RowKit Go.Sx
def sK (c:Int):List Value:=[.int .i64 c]
end Go.Proofs.YtoeiejliehgopaaGreatDoor
