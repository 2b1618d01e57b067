import Derived.Test.YtoeiejliehgopaaGreatDoorUd2
set_option maxRecDepth 20000
set_option maxHeartbeats 8000000
namespace Go.Proofs.YtoeiejliehgopaaGreatDoor
open Go Go.RowKit Go.Sx
theorem pm (r s:RR) (w:World) (hr:Lr r+Lr s<=MX):
  lW Tryz.prog 50 #[lu r,lu s] w λv w'=>v= .int .i64 (tf (toQ r) (toQ s))/\Below w.heap.size w w':=by
 have hM:MX=1099511627776:=rfl;have hL1:=uK r;have hL2:=uK s;have hS:=St.init w;refine enter Tryz.func50 rfl Tryz.ntmps50 rfl ?_;refine jr ?_;refine jh (lj (new:=j6 r) rfl rfl hS ?_);intro b1 wz2 hS hBz2;refine jh (lj (new:=j6 s) rfl rfl hS ?_);intro b3 wz4 hS hBz4;refine V1 ?_;refine kE [ju 0,ju 2,jv 1,jv 3,jw 4,jw 5] kR kR hS ?_;intro wz5 hS hBz5;refine J2 ?_;refine jn rfl (j7 Tryz.call28 rfl (nX r _ oO) ?_);rintro _ wc6 ⟨rfl,hBc6⟩;replace hS:=hS.ko hBc6;refine⟨hBc6,?_⟩;refine jn rfl (j7 Tryz.call28 rfl (nX s _ oO) ?_);rintro _ wc7 ⟨rfl,hBc7⟩;replace hS:=hS.ko hBc7;refine⟨hBc7,?_⟩;refine J1 ?_;intro wz8 hS;refine J1 ?_;intro wz9 hS;refine ja ?_;replace hS:St w _ [(b3,32,j6 (j9 (toQ s))),(b1,32,j6 (j9 (toQ r)))]:=hS;obtain⟨p,hp⟩:=jz (toQ r);obtain⟨q,hq⟩:=jz (toQ s);rw[<-hp]at hS hL1⊢;rw[<-hq]at hS hL2⊢;have hn1:=tU p;have hn2:=tU q;have hd1:=to p;have hd2:=to q;have hm1:=lO p.num.natAbs q.den;have hm2:=lO q.num.natAbs p.den;refine ja ?_;refine kE [ju 0,ju 2,jv 1,jv 3,jo 4,jo 5] kR kR hS ?_;intro wz10 hS hBz10;refine J2 ?_;refine jn rfl (j7 Tryz.call89 rfl (AD p _) ?_);rintro _ wc11 ⟨rfl,hBc11⟩;replace hS:=hS.ko hBc11;refine⟨hBc11,?_⟩;refine jn rfl (j7 Tryz.call89 rfl (AD q _) ?_);rintro _ wc12 ⟨rfl,hBc12⟩;replace hS:=hS.ko hBc12;refine⟨hBc12,?_⟩;refine V5 ?_;by_cases h:sj p=sj q
 ·refine lx rfl (ae (ca h)) ?_;refine ja ?_;refine kE [jo 0,ju 1,ju 2,jo 5,ju 6,ju 7,jv 3,jv 4,jv 8,jv 9,jv 10,jo 11] kR kR hS ?_;intro wz13 hS hBz13;refine J6 ?_;refine jn rfl (j7 Tryz.call31 rfl (tT q _) ?_);rintro _ wc14 ⟨rfl,hBc14⟩;replace hS:=hS.ko hBc14;refine⟨hBc14,?_⟩;refine jn rfl (j7 Tryz.call30 rfl (wB p.num.natAbs q.den _ oO oO) ?_);rintro _ wc15 ⟨rfl,hBc15⟩;replace hS:=hS.ko hBc15;refine⟨hBc15,?_⟩;refine jn rfl (j7 Tryz.call31 rfl (tT p _) ?_);rintro _ wc16 ⟨rfl,hBc16⟩;replace hS:=hS.ko hBc16;refine⟨hBc16,?_⟩;refine jn rfl (j7 Tryz.call30 rfl (wB q.num.natAbs p.den _ oO oO) ?_);rintro _ wc17 ⟨rfl,hBc17⟩;replace hS:=hS.ko hBc17;refine⟨hBc17,?_⟩;refine jn rfl (j7 Tryz.call90 rfl (VP _ _ _ oO oO) ?_);rintro _ wq18 ⟨rfl,hq18⟩;replace hq18:=hq18.symm;subst hq18;refine⟨Below.refl _ _,?_⟩;refine V3 ?_;have hcl:=R6 h;by_cases hneg:p.num<0
  ·refine k9 rfl (ak hneg) ?_;refine J1 ?_;refine jp (OI rfl (r:=(-sI (p.num.natAbs*q.den) (q.num.natAbs*p.den))) (by unfold sI;split<;>(try split)<;>rfl) ?_);refine J1 ?_;refine jt ?_;refine kD rfl rfl ?_;rw[aj (by simpa using hneg)]at hcl;exact⟨vi rfl hcl,hS.j5⟩
  ·refine lx rfl (ae hneg) ?_;refine J2 ?_;refine jt ?_;refine kD rfl rfl ?_;rw[ah (by simpa using hneg)]at hcl;exact⟨vi rfl hcl,hS.j5⟩
 ·refine k9 rfl (ak h) ?_;refine V3 ?_;have hcs:=RJ h;by_cases hlt:sj p<sj q
  ·refine k9 rfl (ak hlt) ?_;refine J1 ?_;refine jt ?_;refine kD rfl rfl ?_;rw[aj hlt]at hcs;exact⟨vi rfl hcs.symm,hS.j5⟩
  ·refine lx rfl (ae hlt) ?_;refine J1 ?_;refine jt ?_;refine kD rfl rfl ?_;rw[ah hlt]at hcs;exact⟨vi rfl hcs.symm,hS.j5⟩
theorem IZ (p q:Rat) (w:World) (hL:L p+L q<=MX):
  lW Tryz.prog 36 #[lu (j9 p),lu (j9 q)] w λv w'=>v=lu (j9 (p+q))/\Below w.heap.size w w':=by
 have hM:MX=1099511627776:=rfl;have hn1:=tU p;have hn2:=tU q;have hd1:=to p;have hd2:=to q;have hm1:=lO p.num.natAbs q.den;have hm2:=lO q.num.natAbs p.den;have hm3:=lO p.den q.den;have hS:=St.init w;refine enter Tryz.func36 rfl Tryz.ntmps36 rfl ?_;refine jr ?_;refine jh (lj (new:=j6 (j9 p)) rfl rfl hS ?_);intro b1 wz2 hS hBz2;refine jh (lj (new:=j6 (j9 q)) rfl rfl hS ?_);intro b3 wz4 hS hBz4;refine J1 ?_;intro b5 wz6 hS hBz6;refine ja ?_;refine kE [jo 0,ju 1,jo 2,ju 3,jo 4,jo 5,jo 6] kR kR hS ?_;intro wz7 hS hBz7;refine Xg ?_;refine jp (wv rfl rfl ?_);refine ja ?_;refine kz (λρ w'=>∃X Y D:Nat,D≠0/\p=mkRat (sg (decide (p.num<0)) X) D/\q=mkRat (sg (decide (q.num<0)) Y) D/\(kG X).size<=MX/\(kG Y).size<=MX/\(kG D).size<=MX/\
  ρ 2=pB b1/\ρ 3=pB b3/\ρ 4=pB b5/\ρ 5= .string (kG X)/\ρ 6= .string (kG Y)/\ρ 7= .string (kG D)/\
  St w w' [(b5,32,j6 ⟨false,⟨#[]⟩,⟨#[]⟩⟩),(b3,32,j6 (j9 q)),(b1,32,j6 (j9 p))]) ?_ ?_
 ·refine ja ?_;by_cases hden:p.den=q.den
  ·refine lx rfl (ae (ca (AY.2 hden))) ?_;refine J1 ?_;refine jh (j7 Tryz.call31 rfl (tT p _) ?_);rintro _ wc8 ⟨rfl,hBc8⟩;replace hS:=hS.ko hBc8;refine V1 ?_;exact⟨_,rfl,p.num.natAbs,q.num.natAbs,p.den,p.den_nz,(Hu p).symm,by rw[hden];exact(Hu q).symm,oO,oO,oO,rfl,rfl,rfl,rfl,rfl,rfl,hS⟩
  ·refine k9 rfl (ak (λg=>hden (AY.1 g))) ?_;refine ja ?_;refine kE [jo 0,ju 1,jo 4,ju 5,jv 2,jv 3,jv 6,jv 7,jo 8,jo 9] kR kR hS ?_;intro wz9 hS hBz9;refine J4 ?_;refine jn rfl (j7 Tryz.call31 rfl (tT q _) ?_);rintro _ wc10 ⟨rfl,hBc10⟩;replace hS:=hS.ko hBc10;refine⟨hBc10,?_⟩;refine jn rfl (j7 Tryz.call30 rfl (wB p.num.natAbs q.den _ oO oO) ?_);rintro _ wc11 ⟨rfl,hBc11⟩;replace hS:=hS.ko hBc11;refine⟨hBc11,?_⟩;refine jn rfl (j7 Tryz.call31 rfl (tT p _) ?_);rintro _ wc12 ⟨rfl,hBc12⟩;replace hS:=hS.ko hBc12;refine⟨hBc12,?_⟩;refine jn rfl (j7 Tryz.call30 rfl (wB q.num.natAbs p.den _ oO oO) ?_);rintro _ wc13 ⟨rfl,hBc13⟩;replace hS:=hS.ko hBc13;refine⟨hBc13,?_⟩;refine V2 ?_;refine kE [ju 0,ju 2,jv 1,jv 3,jv 4,jo 5] kR kR hS ?_;intro wz14 hS hBz14;refine J2 ?_;refine jn rfl (j7 Tryz.call31 rfl (tT p _) ?_);rintro _ wc15 ⟨rfl,hBc15⟩;replace hS:=hS.ko hBc15;refine⟨hBc15,?_⟩;refine jn rfl (j7 Tryz.call31 rfl (tT q _) ?_);rintro _ wc16 ⟨rfl,hBc16⟩;replace hS:=hS.ko hBc16;refine⟨hBc16,?_⟩;refine jn rfl (j7 Tryz.call30 rfl (wB p.den q.den _ oO oO) ?_);rintro _ wc17 ⟨rfl,hBc17⟩;replace hS:=hS.ko hBc17;refine⟨hBc17,?_⟩;refine V1 ?_;exact⟨_,rfl,p.num.natAbs*q.den,q.num.natAbs*p.den,p.den*q.den,fW p.den_nz q.den_nz,(yX p q.den_nz).symm,by rw[bF p.den];exact(yX q p.den_nz).symm,oO,oO,oO,rfl,rfl,rfl,rfl,rfl,rfl,hS⟩
 clear hS hm1 hm2 hm3;rintro ρ w' ⟨X,Y,D,hD,hp,hq,sX,sY,sD,g2,g3,g4,g5,g6,g7,hS⟩;have hsum:=ut X Y;have hXY:=Db (sg (decide (p.num<0)) X) (sg (decide (q.num<0)) Y) hD;rw[<-hp,<-hq]at hXY;clear hp hq;rw[hXY];have hD2:val (kG D)≠0:=by rw[li];exact hD
 refine jr ?_;refine jp (lI g2 u9 ?_);refine J1 ?_;refine jp (lI g3 u9 ?_);refine J1 ?_;refine jp (Vy rfl rfl Tryz.underlying4 ?_);refine ja ?_;by_cases hneg:decide (p.num<0)=decide (q.num<0)
 ·have hb:(decide (p.num<0)==decide (q.num<0))=true:=by rw[hneg];exact beq_self_eq_true _
  refine k9 rfl (hb) ?_;refine ja ?_;have hred:=λw=>rX (decide (p.num<0)) (kG (X+Y)) (kG D) w oO oO hD2;rw[li,li]at hred;refine ja ?_;refine kE [jo 0,ju 1,jo 2,jo 3,jo 5,jv 4,jv 6,jw 7] kR kR hS ?_;intro wz18 hS hBz18;refine jl rfl (lI g2 u9 ?_);refine J1 ?_;refine jl rfl (ks g5 (jl rfl (ks g6 (jl rfl (ks g7 (jn rfl (j7 Tryz.call74 rfl (SR X Y _ oO oO) ?_)))))));rintro _ wc19 ⟨rfl,hBc19⟩;replace hS:=hS.ko hBc19;refine⟨hBc19,?_⟩;refine jn rfl (j7 Tryz.call29 rfl (hred _) ?_);rintro _ wc20 ⟨rfl,hBc20⟩;replace hS:=hS.ko hBc20;refine⟨hBc20,?_⟩;refine jx rfl (lG (k:=0) g4 rfl ki hS rfl rfl rfl dM rfl ?_);intro wz21 hS;refine jt ?_;refine mq (k:=0) rfl g4 ki hS rfl rfl ?_;rw[<-hneg,TC];exact⟨rfl,hS.j5⟩
 ·have hb:(decide (p.num<0)==decide (q.num<0))=false:=by rw[beq_eq_false_iff_ne];exact hneg
  refine lx rfl (hb) ?_;refine ja ?_;by_cases hle:Y<=X
  ·have hs1:=lT (Nat.sub_le X Y);have hred:=λw=>rX (decide (p.num<0)) (kG (X-Y)) (kG D) w oO oO hD2;rw[li,li]at hred;refine jr ?_;refine jp (ks g5 (jp (ks g6 (jh (j7 Tryz.call75 rfl (Kv X Y _ oO oO hle) ?_)))));rintro _ wc22 ⟨rfl,hBc22⟩;replace hS:=hS.ko hBc22;refine V6 ?_;refine k9 rfl (rfl) ?_;refine jr ?_;refine jp (lI g2 u9 ?_);refine J2 ?_;refine jp (ks g7 (jh (j7 Tryz.call29 rfl (hred _) ?_)));rintro _ wc23 ⟨rfl,hBc23⟩;replace hS:=hS.ko hBc23;refine jh (lG (k:=0) g4 rfl ki hS rfl rfl rfl dM rfl ?_);intro wz24 hS;refine jt ?_;refine mq (k:=0) rfl g4 ki hS rfl rfl ?_;rw[Uf hneg hle];exact⟨rfl,hS.j5⟩
  ·have hs1:=lT (Nat.sub_le Y X);have hred:=λw=>rX (decide (q.num<0)) (kG (Y-X)) (kG D) w oO oO hD2;rw[li,li]at hred;refine jr ?_;refine jp (ks g5 (jp (ks g6 (jh (j7 Tryz.call75 rfl (IA X Y _ oO oO oO) ?_)))));rintro _ wc25 ⟨rfl,hBc25⟩;replace hS:=hS.ko hBc25;refine V6 ?_;refine lx rfl (rfl) ?_;refine jr ?_;refine jp (ks g6 (jp (ks g5 (jh (j7 Tryz.call75 rfl (Kv Y X _ oO oO oO) ?_)))));rintro _ wc26 ⟨rfl,hBc26⟩;replace hS:=hS.ko hBc26;refine Y5 ?_;refine jp (lI g3 u9 ?_);refine J2 ?_;refine jp (ks g7 (jh (j7 Tryz.call29 rfl (hred _) ?_)));rintro _ wc27 ⟨rfl,hBc27⟩;replace hS:=hS.ko hBc27;refine jh (lG (k:=0) g4 rfl ki hS rfl rfl rfl dM rfl ?_);intro wz28 hS;refine jt ?_;refine mq (k:=0) rfl g4 ki hS rfl rfl ?_;rw[Q8 hneg oO];exact⟨rfl,hS.j5⟩
theorem oo (r s:RR) (w:World) (hr:Lr r+Lr s<=MX):
  lW Tryz.prog 18 #[lu r,lu s] w λv w'=>v=lu (j9 (toQ r+toQ s))/\Below w.heap.size w w':=by
 have hL1:=uK r;have hL2:=uK s;have hS:=St.init w;refine enter Tryz.func18 rfl Tryz.ntmps18 rfl ?_;refine jr ?_;refine jh (lj (new:=j6 r) rfl rfl hS ?_);intro b1 wz2 hS hBz2;refine jh (lj (new:=j6 s) rfl rfl hS ?_);intro b3 wz4 hS hBz4;refine J1 ?_;intro b5 wz6 hS hBz6;refine ja ?_;refine kE [ju 0,ju 2,jv 1,jv 3,jv 4,jw 5] kR kR hS ?_;intro wz7 hS hBz7;refine J2 ?_;refine jn rfl (j7 Tryz.call28 rfl (nX r _ oO) ?_);rintro _ wc8 ⟨rfl,hBc8⟩;replace hS:=hS.ko hBc8;refine⟨hBc8,?_⟩;refine jn rfl (j7 Tryz.call28 rfl (nX s _ oO) ?_);rintro _ wc9 ⟨rfl,hBc9⟩;replace hS:=hS.ko hBc9;refine⟨hBc9,?_⟩;refine jn rfl (j7 Tryz.call36 rfl (IZ (toQ r) (toQ s) _ oO) ?_);rintro _ wc10 ⟨rfl,hBc10⟩;replace hS:=hS.ko hBc10;refine⟨hBc10,?_⟩;refine J1 ?_;intro wz11 hS;refine jt ?_;refine mq (k:=0) rfl rfl ki hS rfl rfl ?_;exact⟨rfl,hS.j5⟩
theorem mD (r s:RR) (w:World) (hr:Lr r+Lr s<=MX):
  lW Tryz.prog 16 #[lu r,lu s] w λv w'=>v=lu (j9 (toQ r-toQ s))/\Below w.heap.size w w':=by
 have hL1:=uK r;have hL2:=uK s;have hL3:=C3 (toQ s);have hS:=St.init w;refine enter Tryz.func16 rfl Tryz.ntmps16 rfl ?_;refine jr ?_;refine jh (lj (new:=j6 r) rfl rfl hS ?_);intro b1 wz2 hS hBz2;refine jh (lj (new:=j6 s) rfl rfl hS ?_);intro b3 wz4 hS hBz4;refine J1 ?_;intro b5 wz6 hS hBz6;refine ja ?_;refine kE [ju 0,ju 2,jv 1,jv 3,jv 4,jv 5,jw 6] kR kR hS ?_;intro wz7 hS hBz7;refine J2 ?_;refine jn rfl (j7 Tryz.call28 rfl (nX r _ oO) ?_);rintro _ wc8 ⟨rfl,hBc8⟩;replace hS:=hS.ko hBc8;refine⟨hBc8,?_⟩;refine jn rfl (j7 Tryz.call28 rfl (nX s _ oO) ?_);rintro _ wc9 ⟨rfl,hBc9⟩;replace hS:=hS.ko hBc9;refine⟨hBc9,?_⟩;refine jn rfl (j7 Tryz.call37 rfl (ED (toQ s) _) ?_);rintro _ wc10 ⟨rfl,hBc10⟩;replace hS:=hS.ko hBc10;refine⟨hBc10,?_⟩;refine jn rfl (j7 Tryz.call36 rfl (IZ (toQ r) (-toQ s) _ oO) ?_);rintro _ wc11 ⟨rfl,hBc11⟩;replace hS:=hS.ko hBc11;refine⟨hBc11,?_⟩;refine J1 ?_;intro wz12 hS;refine jt ?_;refine mq (k:=0) rfl rfl ki hS rfl rfl ?_;rw[g8];exact⟨rfl,hS.j5⟩
def zw (p q:Rat):Rat:=if p<=q then p else q
def DX (p q:Rat):Rat:=if q<=p then p else q
theorem Mv (r s:RR) (w:World) (hr:Lr r+Lr s<=MX):
  lW Tryz.prog 129 #[lu r,lu s] w λv w'=>v=lu (j9 (zw (toQ r) (toQ s)))/\Below w.heap.size w w':=by
 have hS:=St.init w;refine enter Tryz.func129 rfl Tryz.ntmps129 rfl ?_;refine jr ?_;refine jh (lj (new:=j6 r) rfl rfl hS ?_);intro b1 wz2 hS hBz2;refine jh (lj (new:=j6 s) rfl rfl hS ?_);intro b3 wz4 hS hBz4;refine J1 ?_;intro b5 wz6 hS hBz6;refine J2 ?_;refine jh (j7 Tryz.call50 rfl (pm r s _ hr) ?_);rintro _ wc7 ⟨rfl,hBc7⟩;replace hS:=hS.ko hBc7;refine V1 ?_;by_cases h:toQ r<=toQ s
 ·refine k9 rfl (ak (KA.2 h)) ?_;refine J1 ?_;refine jh (j7 Tryz.call28 rfl (nX r _ oO) ?_);rintro _ wc8 ⟨rfl,hBc8⟩;replace hS:=hS.ko hBc8;refine J1 ?_;intro wz9 hS;refine jt ?_;refine mq (k:=0) rfl rfl ki hS rfl rfl ?_;exact⟨by unfold zw;rw[aj h];rfl,hS.j5⟩
 ·refine lx rfl (ae (λg=>h (KA.1 g))) ?_;refine J1 ?_;refine jh (j7 Tryz.call28 rfl (nX s _ oO) ?_);rintro _ wc10 ⟨rfl,hBc10⟩;replace hS:=hS.ko hBc10;refine J1 ?_;intro wz11 hS;refine jt ?_;refine mq (k:=0) rfl rfl ki hS rfl rfl ?_;exact⟨by unfold zw;rw[ah h];rfl,hS.j5⟩
theorem Gn (r s:RR) (w:World) (hr:Lr r+Lr s<=MX):
  lW Tryz.prog 52 #[lu r,lu s] w λv w'=>v=lu (j9 (DX (toQ r) (toQ s)))/\Below w.heap.size w w':=by
 have hS:=St.init w;refine enter Tryz.func52 rfl Tryz.ntmps52 rfl ?_;refine jr ?_;refine jh (lj (new:=j6 r) rfl rfl hS ?_);intro b1 wz2 hS hBz2;refine jh (lj (new:=j6 s) rfl rfl hS ?_);intro b3 wz4 hS hBz4;refine J1 ?_;intro b5 wz6 hS hBz6;refine J2 ?_;refine jh (j7 Tryz.call50 rfl (pm r s _ hr) ?_);rintro _ wc7 ⟨rfl,hBc7⟩;replace hS:=hS.ko hBc7;refine V1 ?_;by_cases h:toQ s<=toQ r
 ·refine k9 rfl (ak (K5.2 h)) ?_;refine J1 ?_;refine jh (j7 Tryz.call28 rfl (nX r _ oO) ?_);rintro _ wc8 ⟨rfl,hBc8⟩;replace hS:=hS.ko hBc8;refine J1 ?_;intro wz9 hS;refine jt ?_;refine mq (k:=0) rfl rfl ki hS rfl rfl ?_;exact⟨by unfold DX;rw[aj h];rfl,hS.j5⟩
 ·refine lx rfl (ae (λg=>h (K5.1 g))) ?_;refine J1 ?_;refine jh (j7 Tryz.call28 rfl (nX s _ oO) ?_);rintro _ wc10 ⟨rfl,hBc10⟩;replace hS:=hS.ko hBc10;refine J1 ?_;intro wz11 hS;refine jt ?_;refine mq (k:=0) rfl rfl ki hS rfl rfl ?_;exact⟨by unfold DX;rw[ah h];rfl,hS.j5⟩
theorem MY (n:Int):mkRat (sg (decide (n<0)) n.natAbs) 1=(n:Rat):=by
 have h:sg (decide (n<0)) n.natAbs=n:=by
  unfold sg;by_cases h:n<0<;>simp[h]<;>omega
 rw[h];have:=eu (n:Rat);rwa[Rat.num_intCast,Rat.den_intCast]at this
theorem C2 {n:Nat} (h:n<18446744073709551616):(kG n).size<=8:=lN h
theorem GM (n:Int) (w:World) (h1: -9223372036854775808<=n) (h2:n<=9223372036854775807):
  lW Tryz.prog 71 #[.int .i64 n] w λv w'=>v= .string (kG n.natAbs)/\Below w.heap.size w w':=by
 have hS:=St.init w;refine enter Tryz.func71 rfl Tryz.ntmps71 rfl ?_;refine V3 ?_;by_cases h:n<0
 ·refine k9 rfl (ak h) ?_;refine J1 ?_;refine jp (kJ rfl Tryz.underlying99 ⟨_,Tryz.underlying2⟩ (r:=((n+18446744073709551616:Int))) (by rw[xD];omega) (jp (OI rfl (r:=((n.natAbs:Nat):Int)) (by rw[xD];omega) (jh (j7 Tryz.call113 rfl (sE n.natAbs _ oO) ?_)))));rintro _ wc1 ⟨rfl,hBc1⟩;replace hS:=hS.ko hBc1;refine J1 ?_;refine jt ?_;refine kD rfl rfl ?_;exact⟨rfl,hS.j5⟩
 ·refine lx rfl (ae h) ?_;refine J1 ?_;refine jp (kJ rfl Tryz.underlying99 ⟨_,Tryz.underlying2⟩ (r:=((n.natAbs:Nat):Int)) (by rw[xD];omega) (jh (j7 Tryz.call113 rfl (sE n.natAbs _ oO) ?_)));rintro _ wc2 ⟨rfl,hBc2⟩;replace hS:=hS.ko hBc2;refine J1 ?_;refine jt ?_;refine kD rfl rfl ?_;exact⟨rfl,hS.j5⟩
theorem mH (n:Int) (w:World) (h1: -9223372036854775808<=n) (h2:n<=9223372036854775807):
  lW Tryz.prog 33 #[.int .i64 n] w λv w'=>v=lu (j9 (n:Rat))/\Below w.heap.size w w':=by
 have hM:MX=1099511627776:=rfl;have hs:=C2 (n:=n.natAbs) oO;have hred:=λw=>rX (decide (n<0)) (kG n.natAbs) ⟨#[1]⟩ w oO (by show 1<=_;omega) (by rw[yv];decide);rw[li,yv,MY]at hred;have hS:=St.init w;refine enter Tryz.func33 rfl Tryz.ntmps33 rfl ?_;refine J1 ?_;intro b1 wz2 hS hBz2;refine J3 ?_;refine jh (j7 Tryz.call71 rfl (GM n _ h1 h2) ?_);rintro _ wc3 ⟨rfl,hBc3⟩;replace hS:=hS.ko hBc3;refine jh (j7 Tryz.call29 rfl (hred _) ?_);rintro _ wc4 ⟨rfl,hBc4⟩;replace hS:=hS.ko hBc4;refine J1 ?_;intro wz5 hS;refine jt ?_;refine mq (k:=0) rfl rfl ki hS rfl rfl ?_;exact⟨rfl,hS.j5⟩
def xW (l:List Rat):Rat:=l.foldl (· + ·) 0
theorem EF (l:List Rat) (q:Rat):xW (l++[q])=xW l+q:=by unfold xW;rw[ey];rfl
def x5:List RR->Nat
 | []=>0
 |r::l=>Lr r+1+x5 l
theorem uj (l m:List RR):x5 (l++m)=x5 l+x5 m:=by
 induction l with
 |nil=>simp[x5]
 |cons r l ih=>simp only[bW,x5,ih];omega
theorem lC {α:Type} (l:List α) (i:Nat) (d:α) (h:i<l.length):l.take (i+1)=l.take i++[l.getD i d]:=by
 rw[jL h,ai,aG h];rfl
theorem M5 (l:List RR) (i:Nat):x5 (l.take i)<=x5 l:=by
 conv=>rhs;rw[<-da i l,uj]
 omega
def kP:RR:=⟨false,⟨#[]⟩,⟨#[]⟩⟩
theorem kH {α:Type} (l:List α) (i:Nat) (d:α) (h:i<l.length):l.getD i d∈l:=by
 rw[ai,aG h];exact jU h
theorem lA:j6 kP=j6 (j9 0):=by rw[oC];rfl
theorem Mh (v:Value) (l:List RR) (w:World) (hv:Sl j6 3 w v l) (hl:x5 l+1<=MX):
  lW Tryz.prog 97 #[v] w λr w'=>r=lu (j9 (xW (l.map toQ)))/\Below w.heap.size w w':=by
 have hM:MX=1099511627776:=rfl;have hmax:=hv.maxLen;have hS:=St.init w;refine enter Tryz.func97 rfl Tryz.ntmps97 rfl ?_;refine J1 ?_;intro b1 wz2 hS hBz2;refine jr ?_;refine jp (kQ rfl pI ?_);refine J1 ?_;intro b3 wz4 hS hBz4;refine J1 ?_;intro wz5 hS;refine J1 ?_;refine jp (kj rfl (hv.j5 hS.j5) ⟨_,Tryz.underlying34⟩ ?_);refine V1 ?_;replace hS:=hS.cast (H':=[(b3,32,j6 (j9 (xW ((l.take 0).map toQ)))),(b1,32,j6 kP)]) (by rw[show xW ((l.take 0).map toQ)=0 from rfl,<-lA];rfl);refine kx (σ:=Nat) (λi ρ w'=>i<=l.length/\L (xW ((l.take i).map toQ))<=x5 (l.take i)+1/\ρ 2=pB b1/\ρ 3=pB b3/\ρ 7=v/\ρ 8=iB l.length/\ρ 9=iB i/\
   St w w' [(b3,32,j6 (j9 (xW ((l.take i).map toQ)))),(b1,32,j6 kP)]) (λi=>l.length-i) 0
  ⟨ax _,by rw[show xW ((l.take 0).map toQ)=0 from rfl,n8];omega,rfl,rfl,rfl,rfl,rfl,hS⟩ ?_
 clear hS;rintro i ρ w2 ⟨hi,hLi,h2,h3,h7,h8,h9,hS⟩;refine V1 ?_;by_cases hlt:i<l.length
 ·refine V1 ?_;have ht:=lC l i kP hlt;have hs1:=M5 l (i+1);rw[ht,uj]at hs1;simp only[x5]at hs1;have hLr:=uK (l.getD i kP);have hadd:=Bc (xW ((l.take i).map toQ)) (toQ (l.getD i kP));refine jr ?_;refine jp (kp (i:=i) h7 h9 (hv.j5 hS.j5) oO dO kM (jq (ky (i:=i) kP rfl ki (hv.j5 hS.j5) dO rfl rfl (.inl rfl) ?_)));refine J1 ?_;intro b6 wz7 hS hBz7;refine J1 ?_;intro wz8 hS;refine ja ?_;replace hS:St w _ [(_,32,j6 (l.getD i kP)),(b3,32,j6 (j9 (xW ((l.take i).map toQ)))),(b1,32,j6 kP)]:=hS;refine ja ?_;refine kE [ju 0,ju 1,jv 2,jv 3,jw 4] kR kR hS ?_;intro wz9 hS hBz9;refine J2 ?_;refine jn rfl (j7 Tryz.call28 rfl (nX (l.getD i kP) _ oO) ?_);rintro _ wc10 ⟨rfl,hBc10⟩;replace hS:=hS.ko hBc10;refine⟨hBc10,?_⟩;refine jn rfl (j7 Tryz.call36 rfl (IZ (xW ((l.take i).map toQ)) (toQ (l.getD i kP)) _ oO) ?_);rintro _ wc11 ⟨rfl,hBc11⟩;replace hS:=hS.ko hBc11;refine⟨hBc11,?_⟩;refine J1 ?_;intro wz12 hS;refine ja ?_;have he:xW ((l.take (i+1)).map toQ)=xW ((l.take i).map toQ)+toQ (l.getD i kP):=by rw[ht,bO,jy,EF]
  rw[<-he]at hadd;replace hS:St w _ [(_,32,j6 (l.getD i kP)),(b3,32,j6 (j9 (xW ((l.take i).map toQ)+toQ (l.getD i kP)))),(b1,32,j6 kP)]:=hS;rw[<-he]at hS;refine V2 ?_;exact⟨i+1,_,rfl,⟨hlt,by rw[ht,uj]at*;simp only[x5];omega,h2,h3,h7,h8,vi rfl oO,hS.drop (ab _ _)⟩,oO⟩
 ·refine J1 ?_;refine jt ?_;obtain rfl:i=l.length:=oO;rw[bK]at hS;refine J2 ?_;intro wz13 hS;refine jt ?_;refine mq (k:=1) rfl h2 ki hS rfl rfl ?_;exact⟨rfl,hS.j5⟩
theorem yb (s:ByteArray) (w:World) (hs:s.size<=9223372036854775807):
  lW Tryz.prog 120 #[.string s] w λv w'=>v= .string (kG (val s))/\w'=w:=by
 refine enter Tryz.func120 rfl Tryz.ntmps120 rfl ?_;refine V2 ?_;refine kx (σ:=Nat) (λk ρ w'=>k<=s.size/\(∀i (_:i<k) (h:i<s.size),s[i]=0)/\ρ 0= .string s/\ρ 3=iB k/\w'=w) (λk=>s.size-k) 0
  ⟨oO,λi h=>oO,rfl,rfl,rfl⟩ ?_
 rintro k ρ w' ⟨hk,hz,h0,h3,rfl⟩;by_cases hlt:k<s.size
 ·refine J5 ?_;refine kf (j8 8 kR rfl dT) (ks h0 (kf (j8 8 kR rfl dT) (ks h3 (kf (j8 8 kR rfl dT) (wU (i:=k) rfl rfl oO oO Tryz.underlying9 (kf (j8 8 kR rfl dT) (qd rfl rfl (jp (kC (vb rfl dT) rfl ?_)))))))));refine ja ?_;by_cases h:s[k]=0
  ·refine k9 rfl (ak (by rw[h];rfl)) ?_;refine V3 ?_;refine⟨k+1,_,rfl,⟨oO,λi hi hi'=> ?_,h0,vi rfl oO,rfl⟩,oO⟩;rcases bH i k with h2|h2
   ·exact hz i h2 hi'
   ·obtain rfl:i=k:=oO;exact h
  ·refine lx rfl (ae (λg=>h (jX.1 (by simp at g;exact g)))) ?_;refine J2 ?_;refine jp (FT (lo:=k) rfl rfl rfl oO Tryz.underlying9 ?_);refine J1 ?_;refine jt ?_;refine kD rfl rfl ?_;exact⟨bI Value.string (xG s k hk hz (.inr ⟨hlt,h⟩)),rfl⟩
 ·refine J5 ?_;refine kN (kb 8 kR rfl dF) (kN (kb 8 kR rfl dF) (kN (kb 8 kR rfl dF) (kN (kb 8 kR rfl dF) (jp (kC (vb rfl dF) rfl ?_)))));refine ja ?_;refine lx rfl (rfl) ?_;refine J2 ?_;refine jp (FT (lo:=k) rfl rfl rfl oO Tryz.underlying9 ?_);refine J1 ?_;refine jt ?_;refine kD rfl rfl ?_;exact⟨bI Value.string (xG s k hk hz (.inl oO)),rfl⟩
theorem DF (V:Nat):(kL V).length=((kG V).size+3)/4:=by
 obtain⟨k,hk⟩:=jz ((kG V).size);rw[<-hk];rcases dh V with h0|h0
 ·subst h0;rw[r7,nQ]at hk;unfold kL;rw[nQ,hk];rfl
 ·have h1:V<256^k:=by rw[hk];exact qo V
  have h2:256^(k-1)<=V:=by
   refine rS dD ?_;rw[<-r7,<-hk];have:1<=k:=by rw[hk];exact uH h0
   omega
  have h3:(kL V).length<=(k+3)/4:=by
   refine xb (dq h1 ?_);rw[show kd=256^4 from rfl,<-fC];exact bM dD oO
  have h4:(k+3)/4<=(kL V).length:=by
   rcases bH (kL V).length ((k+3)/4)with h|h
   ·exfalso;have h5:=lQ V;have h6:kd^(kL V).length<=256^(k-1):=by
     rw[show kd=256^4 from rfl,<-fC];exact bM dD oO
    omega
   ·exact h
  omega
theorem PZ (V:Nat):pad kd V (kL V).length=kL V:=by
 have h:=vZ (b:=kd) dD (pad kd V (kL V).length) (kL V).length (ti dD _ _) (by simp) (λi h1 h2=>by simp at h2;omega) ?_
 ·rw[mR (lQ V),aU (by simp)]at h;exact h
 ·rcases dh (kL V).length with h0|h0
  ·exact .inl h0
  ·right;rw[nY _ _ oO];have hV:0<V:=by
    rcases dh V with g|g
    ·rw[g]at h0;unfold kL at h0;rw[nQ]at h0;exact absurd h0 (by simp)
    ·exact g
   have:=(yS hV).2;omega
theorem EZ (s:ByteArray) (w:World) (hs:s.size<=70368744177664):
  lW Tryz.prog 77 #[.string s] w λr w'=>Sl (uk .u32) 1 w' r (kL (val s))/\Below w.heap.size w w':=by
 have hS:=St.init w;have hsz:=ql s;refine enter Tryz.func77 rfl Tryz.ntmps77 rfl ?_;refine J2 ?_;refine jh (j7 Tryz.call120 rfl (yb _ _ oO) ?_);rintro _ wq1 ⟨rfl,hq1⟩;replace hq1:=hq1.symm;subst hq1;refine V1 ?_;obtain⟨V,hV⟩:=jz (val s);rw[<-hV];rw[<-hV]at hsz;obtain⟨S,hSe⟩:=jz (kG V);have hvS:val S=V:=by rw[hSe,li]
 have hlen:=DF V;rw[<-hSe]at hlen hsz;rw[<-hSe];refine J3 ?_;refine jp (sF rfl rfl oO (r:=(((S.size+3)/4:Nat):Int)) (by exact gk _ _ oO) (jh (pV (n:=(S.size+3)/4) rfl rfl lP oO oO oO oO hS ?_)));intro b2 wz3 hS hBz3;refine V2 ?_;obtain⟨n,hn⟩:=jz ((S.size+3)/4);rw[<-hn,<-oV kd n,show 0=V%256^0 by rw[cO,dX]]at hS;refine kx (σ:=Nat) (λi ρ w'=>i<=S.size/\ρ 0= .string S/\ρ 3= .slice (some ⟨b2,0,none⟩) n n/\ρ 4=iB i/\St w w' [(b2,141,Kr .u32 (pad kd (V%256^i) n))]) (λi=>S.size-i) 0
  ⟨ax _,rfl,by rw[hn];rfl,rfl,hS⟩ ?_
 clear hS;rintro i ρ w2 ⟨hi,h0,h3,h4,hS⟩;refine V4 ?_;by_cases hlt:i<S.size
 ·refine V1 ?_;have hb:=Be S i hlt;rw[hvS]at hb;have hl:=qO (b:=kd) dD (V%256^i) (i/4);have hd:=qO (b:=256) dD V i;have hg:(pad kd (V%256^i) n).getD (i/4) 0=kS kd (V%256^i) (i/4):=nY _ _ oO;have hp:2^(8*(i%4))<=2^24:=bM dD oO;have hq:kS 256 V i*2^(8*(i%4))<4294967296:=bY (fb (Nat.le_of_lt_succ hd) hp) dD;refine ja ?_;refine kE [jo 0,jo 1,jo 2,jo 3,jo 4,jo 5,jo 6,ju 7,jo 8,jo 9,jo 10,jo 11,jo 12,jo 13,jo 14,jo 15,jo 16,jo 17,jo 18,jo 19,jo 20,jo 21,jo 22,jw 23] kR kR hS ?_;intro wz4 hS hBz4;refine J2 ?_;refine jl rfl (sF rfl rfl oO (r:=((i/4:Nat):Int)) (by exact gk _ _ oO) ?_);refine J2 ?_;refine jl rfl (sF rfl rfl oO (r:=((i/4:Nat):Int)) (by exact gk _ _ oO) (jl rfl (kF (i:=i/4) rfl rfl oO dO lP (jm rfl (nS (k:=0) (i:=i/4) rfl kK hS rfl oO dO ?_)))));refine J6 ?_;refine jl rfl (wU (i:=S.size-1-i) rfl rfl oO oO Tryz.underlying9 (jl rfl (kJ rfl Tryz.underlying141 ⟨_,Tryz.underlying5⟩ (r:=((kS 256 V i:Nat):Int)) (by rw[hb];exact fi _ oO) ?_)));refine J1 ?_;refine jl rfl (pY rfl rfl oO (r:=((i%4:Nat):Int)) (by rfl) (jl rfl (ws rfl rfl (r:=((8*(i%4):Nat):Int)) (by exact pP _ oO) (jl rfl (kJ rfl Tryz.underlying94 ⟨_,Tryz.underlying3⟩ (r:=((8*(i%4):Nat):Int)) (by exact fh _ oO) (jl rfl (uV rfl rfl oO (uW _ _ _ (show _<=32 by omega) (pC _ ⟨rfl,oO,oO⟩)) (jl rfl (zc rfl rfl (rM rfl _ _ (by rw[hg];exact hl) hq) (jl rfl (kF (i:=i/4) rfl rfl oO dO lP (jx rfl (pj (k:=0) (i:=i/4) (a:=_) rfl rfl rfl kK hS rfl oO dO ?_)))))))))))));intro wz5 hS;refine ja ?_;rw[hg,Im]at hS;refine V3 ?_;exact⟨i+1,_,rfl,⟨hlt,h0,h3,vi rfl oO,hS⟩,oO⟩
 ·refine J1 ?_;refine jt ?_;obtain rfl:i=S.size:=oO;have hval:V<256^S.size:=by rw[<-hvS];exact F3 S
  rw[aZ hval,show n=(kL V).length by omega,PZ]at hS;have hsl:=hS.IS (k:=0) rfl (n:=n) (cap:=n) oO (aB _) oO;rw[aU oO]at hsl;refine J2 ?_;refine jt ?_;refine kD rfl rfl ?_;exact⟨hsl,hS.j5⟩
theorem uX (v:Value) (L:List Nat) (w:World) (hv:Sl (uk .u32) 1 w v L) (hL:∀d∈L,d<kd):
  lW Tryz.prog 123 #[v] w λr w'=>Sl (uk .u32) 1 w' r (kL (lB kd L))/\w'=w:=by
 have hmax:=hv.maxLen;refine enter Tryz.func123 rfl Tryz.ntmps123 rfl ?_;refine J2 ?_;refine jp (kj rfl hv ⟨_,Tryz.underlying138⟩ ?_);refine V1 ?_;refine kx (σ:=Nat) (λn ρ w'=>n<=L.length/\(∀i,n<=i->i<L.length->L.getD i 0=0)/\ρ 0=v/\ρ 3=iB n/\w'=w) (λn=>n) L.length
  ⟨aB _,λi h1 h2=>oO,rfl,rfl,rfl⟩ ?_
 rintro n ρ w' ⟨hn,hz,h0,h3,rfl⟩;have hdone:(n=0\/L.getD (n-1) 0≠0)->L.take n=kL (lB kd L):=λh=>vZ (b:=kd) dD L n hL hn hz h;by_cases hpos:0<n
 ·by_cases hl:L.getD (n-1) 0=0
  ·refine J3 ?_;refine kf (j8 8 kR rfl dT) (ks h0 (kf (j8 8 kR rfl dT) (ks h3 (kf (j8 8 kR rfl dT) (sG rfl rfl (cx _ oO) (kf (j8 8 kR rfl dT) (kp (i:=n-1) rfl rfl hv oO dO lP (lD (j8 8 kR rfl dT) (ky (i:=n-1) 0 rfl kK hv dO rfl rfl (.inr rfl) (kf (j8 8 kR rfl dT) (qd rfl rfl (jp (kC (vb rfl dT) rfl ?_)))))))))))));refine V4 ?_;refine⟨n-1,_,rfl,⟨oO,λi h1 h2=> ?_,h0,vi rfl oO,rfl⟩,oO⟩;rcases bH i n with h4|h4
   ·rw[show i=n-1 by omega];exact hl
   ·exact hz i h4 h2
  ·refine J3 ?_;refine kf (j8 8 kR rfl dT) (ks h0 (kf (j8 8 kR rfl dT) (ks h3 (kf (j8 8 kR rfl dT) (sG rfl rfl (cx _ oO) (kf (j8 8 kR rfl dT) (kp (i:=n-1) rfl rfl hv oO dO lP (lD (j8 8 kR rfl dT) (ky (i:=n-1) 0 rfl kK hv dO rfl rfl (.inr rfl) (kf (j8 8 kR rfl dT) (qd rfl rfl (jp (kC (vb rfl dT) rfl ?_)))))))))))));refine J3 ?_;refine jp (zI (hi:=n) rfl rfl hv rfl hn lP ?_);refine J1 ?_;refine jt ?_;refine kD rfl rfl ?_;refine⟨?_,rfl⟩;rw[<-hdone (.inr hl)];exact hv.sub (Ao _) dD (ax n) hn
 ·refine J3 ?_;refine kN (kb 8 kR rfl dF) (kN (kb 8 kR rfl dF) (kN (kb 8 kR rfl dF) (kN (kb 8 kR rfl dF) (kN (kb 8 kR rfl dF) (kN (kb 8 kR rfl dF) (jp (kC (vb rfl dF) rfl ?_)))))));refine ja ?_;refine lx rfl (rfl) ?_;refine J2 ?_;refine jp (zI (hi:=n) rfl rfl hv rfl hn lP ?_);refine J1 ?_;refine jt ?_;refine kD rfl rfl ?_;refine⟨?_,rfl⟩;rw[<-hdone (.inl oO)];exact hv.sub (Ao _) dD (ax n) hn
theorem I1 (V k q x:Nat) (hk:0<k) (hx:x=kS kd V (k-1)):
  (pad 256 (V/kd^(k-1)) (q+4)).reverse=(pad 256 (V/kd^k) q).reverse++[x/16777216%256,x/65536%256,x/256%256,x%256]:=by
 have h:=ph kd V (k-1);rw[show k-1+1=k by omega,<-hx]at h;have hlt:x<kd:=by rw[hx];exact qO dD _ _
 rw[h];generalize V/kd^k=U;have hB:kd=4294967296:=rfl;rw[show q+4=q+1+1+1+1 from rfl,xm,xm,xm,xm];simp only[jM,aF,bW,ce];rw[hB]at hlt⊢;have e1:(4294967296*U+x)/256/256/256/256=U:=oO;have e2:(4294967296*U+x)/256/256/256%256=x/16777216%256:=oO;have e3:(4294967296*U+x)/256/256%256=x/65536%256:=oO;have e4:(4294967296*U+x)/256%256=x/256%256:=oO;have e5:(4294967296*U+x)%256=x%256:=oO;rw[e1,e2,e3,e4,e5]
theorem Cd (v:Value) (L:List Nat) (w:World) (hv:Sl (uk .u32) 1 w v L) (hL:∀d∈L,d<kd) (hs:L.length<=17592186044416):
  lW Tryz.prog 79 #[v] w λr w'=>r= .string (kG (lB kd L))/\Below w.heap.size w w':=by
 have hS:=St.init w;obtain⟨V,hV⟩:=jz (lB kd L);refine enter Tryz.func79 rfl Tryz.ntmps79 rfl ?_;refine J2 ?_;refine jh (j7 Tryz.call123 rfl (uX v L _ hv hL) ?_);rintro _ wq1 ⟨hl,hq1⟩;replace hq1:=hq1.symm;subst hq1;refine V1 ?_;rename_i vl;rw[<-hV]at hl⊢;obtain⟨m,hm⟩:=jz ((kL V).length);have hVm:V<kd^m:=by rw[hm];exact lQ V
 have hmL:m<=L.length:=by
  rw[hm];refine xb ?_;rw[hV];exact tK L hL
 refine J1 ?_;refine jp (kj rfl hl ⟨_,Tryz.underlying138⟩ (jp (ws rfl rfl (cx _ oO) (jh (Pr (enc:=uk .u8) (n:=4*m) rfl rfl Dl oO oO oO oO hS ?_)))));intro va2 La2 wa2 hG hS hBa2;refine J2 ?_;refine jp (kj rfl (hl.j5 hS.j5) ⟨_,Tryz.underlying138⟩ ?_);refine V2 ?_;refine kx (σ:=Nat) (λk ρ w'=>k<=m/\ρ 0=vl/\ρ 4=iB ((k:Int)-1)/\∃vb Lb,ρ 3=vb/\Gl (uk .u8) 5 1 vb ((pad 256 (V/kd^k) (4*(m-k))).reverse) Lb/\St w w' ([]++Lb)) (λk=>k) m
  ⟨aB _,rfl,vi rfl oO,⟨_,_,rfl,by rw[dU];exact hG,hS⟩⟩ ?_
 clear hS;rintro k ρ w3 ⟨hk,h0,h4,vb,Lb,h3,hG,hS⟩;refine V2 ?_;have hlenG:((pad 256 (V/kd^k) (4*(m-k))).reverse).length=4*(m-k):=by simp
 by_cases hk0:0<k
 ·refine J3 ?_;refine jp (kp (i:=k-1) rfl rfl (hl.j5 hS.j5) oO dO lP (jq (ky (i:=k-1) 0 rfl kK (hl.j5 hS.j5) dO rfl rfl (.inr rfl) ?_)));refine V1 ?_;have hx:=me V (k-1);have hxl:=lY V (k-1);rw[hx];obtain⟨x,hxe⟩:=jz (kS kd V (k-1));rw[<-hxe]at hxl⊢;have h4b:=I1 V k (4*(m-k)) x hk0 hxe;refine J2 ?_;refine jp (pX rfl rfl oO (r:=((x/16777216:Nat):Int)) (by exact qp (k:= .u32) x 24 dD) (jp (kJ rfl Tryz.underlying5 ⟨_,Tryz.underlying141⟩ (uA _) ?_)));refine J1 ?_;refine jp (pX rfl rfl oO (r:=((x/65536:Nat):Int)) (by exact qp (k:= .u32) x 16 dD) (jp (kJ rfl Tryz.underlying5 ⟨_,Tryz.underlying141⟩ (uA _) ?_)));refine J1 ?_;refine jp (pX rfl rfl oO (r:=((x/256:Nat):Int)) (by exact qp (k:= .u32) x 8 dD) (jp (kJ rfl Tryz.underlying5 ⟨_,Tryz.underlying141⟩ (uA _) ?_)));refine J1 ?_;refine jp (kJ rfl Tryz.underlying5 ⟨_,Tryz.underlying141⟩ (uA _) (jh (mO (vs:=[_,_,_,_]) rfl Dl rfl dD dD dD (by simp[Value.cells]) rfl hS ?_)));intro b3 wz4 hS hBz4;refine jh (mz [x/16777216%256,x/65536%256,x/256%256,x%256] rfl rfl Dl dD hG hS rfl rfl (Ao _) (UO _ [x/16777216%256,x/65536%256,x/256%256,x%256]) dL dL ?_);intro va5 La5 wa5 hG hS hga5;refine V1 ?_;rw[<-h4b,show 4*(m-k)+4=4*(m-(k-1)) by omega]at hG;refine V3 ?_;exact⟨k-1,_,rfl,⟨oO,h0,vi rfl oO,⟨_,_,rfl,hG,hS⟩⟩,oO⟩
 ·refine J1 ?_;refine jt ?_;obtain rfl:k=0:=oO;rw[cO,fu,Nat.sub_zero]at hG;have hVlt:V<256^(4*m):=by rw[fC];exact hVm
  have hsz:(zq (pad 256 V (4*m)).reverse).size<=9223372036854775807:=by rw[EX];simp;omega
  refine J1 ?_;refine jq (T3 rfl ⟨Tryz.underlying189,Tryz.underlying5,Tryz.underlying9⟩ hG hS (jh (j7 Tryz.call120 rfl (yb _ _ hsz) ?_)));rintro _ wq6 ⟨rfl,hq6⟩;replace hq6:=hq6.symm;subst hq6;refine J1 ?_;refine jt ?_;refine kD rfl rfl ?_;rw[II,aZ hVlt];exact⟨rfl,hS.j5⟩
theorem ve (u:Nat) (w:World) (hu:u<18446744073709551616):
  lW Tryz.prog 42 #[.int .u64 u] w λr w'=>r= .string (kG u)/\Below w.heap.size w w':=by
 have hS:=St.init w;refine enter Tryz.func42 rfl Tryz.ntmps42 rfl ?_;refine J2 ?_;refine jp (kJ rfl Tryz.underlying141 ⟨_,Tryz.underlying99⟩ (ss _) ?_);refine J1 ?_;refine jp (pX rfl rfl oO (r:=((u/4294967296:Nat):Int)) (by exact qp _ 32 dD) (jp (kJ rfl Tryz.underlying141 ⟨_,Tryz.underlying99⟩ (r:=((u/4294967296:Nat):Int)) (by exact pC _ oO) (jh (mO (vs:=[_,_]) rfl lP rfl dD dD dD (by simp[Value.cells]) rfl hS ?_)))));intro b1 wz2 hS hBz2;have hsl:=St.IS (L:=[u%4294967296,u/4294967296]) hS (k:=0) rfl (n:=2) (cap:=2) (by simp) oO oO;have hd:∀d∈[u%4294967296,u/4294967296],d<kd:=by
  intro d hd;simp only[bC,ct,fo]at hd;unfold kd;omega
 refine jh (j7 Tryz.call79 rfl (Cd _ _ _ hsl hd (by simp)) ?_);rintro _ wc3 ⟨rfl,hBc3⟩;replace hS:=hS.ko hBc3;refine J1 ?_;refine jt ?_;refine kD rfl rfl ?_;exact⟨vs rfl (bI kG (Cx u)),hS.j5⟩
theorem Nb (u v:Value) (m n:Nat) (w:World) (hu:Sl (uk .u32) 1 w u (kL m)) (hv:Sl (uk .u32) 1 w v (kL n)):
  lW Tryz.prog 162 #[u,v] w λr w'=>r= .int .i64 (sI m n)/\Below w.heap.size w w':=by
 have hlu:=hu.maxLen;have hlv:=hv.maxLen;have hS:=St.init w;refine enter Tryz.func162 rfl Tryz.ntmps162 rfl ?_;refine J2 ?_;refine jp (kj rfl (hu.j5 hS.j5) ⟨_,Tryz.underlying138⟩ ?_);refine J1 ?_;refine jp (kj rfl (hv.j5 hS.j5) ⟨_,Tryz.underlying138⟩ ?_);refine V1 ?_;by_cases hl:(kL m).length=(kL n).length
 ·refine lx rfl (ae (by simp[hl])) ?_;refine J1 ?_;refine jp (kj rfl (hu.j5 hS.j5) ⟨_,Tryz.underlying138⟩ ?_);refine V2 ?_;refine kx (σ:=Nat) (λi ρ w'=>i<=(kL m).length/\m/kd^i=n/kd^i/\ρ 0=u/\ρ 1=v/\ρ 5=iB ((i:Int)-1)/\St w w' []) (λi=>i) (kL m).length
   ⟨aB _,?_,rfl,rfl,rfl,hS⟩ ?_
  ·have h1:m<kd^(kL m).length:=mV dD m;have h2:n<kd^(kL n).length:=mV dD n;rw[bS h1,hl,bS h2]
  clear hS;rintro i ρ w' ⟨hi,hq,h0,h1,h5,hS⟩;refine V2 ?_;by_cases hpos:0<i
  ·refine V1 ?_;have hlen:i-1<(kL m).length:=oO;refine ja ?_;refine kE [jo 0,jo 1,jo 2,ju 3,jo 4,jo 5,jo 6,ju 7,jo 8] kR kR hS ?_;intro wz1 hS hBz1;refine J2 ?_;refine jl rfl (kp (i:=i-1) rfl rfl (hu.j5 hS.j5) oO dO lP (jm rfl (ky (i:=i-1) 0 rfl kK (hu.j5 hS.j5) dO rfl rfl (.inr rfl) ?_)));refine J2 ?_;refine jl rfl (kp (i:=i-1) rfl rfl (hv.j5 hS.j5) oO dO lP (jm rfl (ky (i:=i-1) 0 rfl kK (hv.j5 hS.j5) dO rfl rfl (.inr rfl) ?_)));refine V1 ?_;rw[me,me];have hs1:=ph kd m (i-1);have hs2:=ph kd n (i-1);rw[show i-1+1=i by omega]at hs1 hs2;by_cases hne:kS kd m (i-1)=kS kd n (i-1)
   ·refine V4 ?_;exact⟨i-1,_,rfl,⟨oO,by rw[hs1,hs2,hq,hne],h0,h1,vi rfl oO,hS⟩,oO⟩
   ·refine V1 ?_;refine kE [jo 0,jo 1,jo 2,ju 3,jo 4,jo 5,jo 6,ju 7,jo 8] kR kR hS ?_;intro wz2 hS hBz2;refine J2 ?_;refine jl rfl (kp (i:=i-1) rfl rfl (hu.j5 hS.j5) oO dO lP (jm rfl (ky (i:=i-1) 0 rfl kK (hu.j5 hS.j5) dO rfl rfl (.inr rfl) ?_)));refine J2 ?_;refine jl rfl (kp (i:=i-1) rfl rfl (hv.j5 hS.j5) oO dO lP (jm rfl (ky (i:=i-1) 0 rfl kK (hv.j5 hS.j5) dO rfl rfl (.inr rfl) ?_)));refine V1 ?_;rw[me,me];by_cases hlt:kS kd m (i-1)<kS kd n (i-1)
    ·refine J2 ?_;refine jt ?_;refine kD rfl rfl ?_;refine⟨vi rfl (ug (su (b:=kd) (i:=i-1) ?_)).symm,hS.j5⟩;rw[hs1,hs2,hq];omega
    ·refine J2 ?_;refine jt ?_;refine kD rfl rfl ?_;refine⟨vi rfl (ul (su (b:=kd) (i:=i-1) ?_)).symm,hS.j5⟩;rw[hs1,hs2,hq];omega
  ·refine J2 ?_;refine jt ?_;refine kD rfl rfl ?_;obtain rfl:i=0:=oO;rw[cO,fu,fu]at hq;rw[hq];exact⟨vi rfl (by rw[xF]),hS.j5⟩
 ·refine J2 ?_;refine jp (kj rfl (hu.j5 hS.j5) ⟨_,Tryz.underlying138⟩ ?_);refine J1 ?_;refine jp (kj rfl (hv.j5 hS.j5) ⟨_,Tryz.underlying138⟩ ?_);refine V1 ?_;by_cases hlt:(kL m).length<(kL n).length
  ·refine J2 ?_;refine jt ?_;refine kD rfl rfl ?_;exact⟨vi rfl (ug (ue hlt)).symm,hS.j5⟩
  ·refine J2 ?_;refine jt ?_;refine kD rfl rfl ?_;exact⟨vi rfl (ul (ue oO)).symm,hS.j5⟩
theorem Nr (vx:Value) (X d:Nat) (w:World) (hx:Sl (uk .u32) 1 w vx (kL X)) (hd:0<d) (hd2:d<=4294967295) (hmx:(kL X).length<=17592186044416):
  lW Tryz.prog 163 #[vx,.int .u32 d] w λr w'=>(∃v,r= .tuple #[v,.int .u32 (X%d:Nat)]/\Sl (uk .u32) 1 w' v (kL (X/d)))/\Below w.heap.size w w':=by
 have hS:=St.init w;obtain⟨n,hn⟩:=jz ((kL X).length);have hXn:X<kd^n:=hn▸lQ X;refine enter Tryz.func163 rfl Tryz.ntmps163 rfl ?_;refine J3 ?_;refine jp (kj rfl (hx.j5 hS.j5) ⟨_,Tryz.underlying138⟩ (jh (pV (n:=(kL X).length) rfl rfl lP oO oO oO oO hS ?_)));intro b1 wz2 hS hBz2;refine J3 ?_;refine jp (kj rfl (hx.j5 hS.j5) ⟨_,Tryz.underlying138⟩ ?_);refine V2 ?_;rw[<-hn,<-oV kd n]at hS;refine kx (σ:=Nat×Nat×Nat) (λs ρ w'=>s.1<=n/\s.2.2<d/\X/kd^s.1=s.2.1*d+s.2.2/\kd^s.1*s.2.1<kd^n/\ρ 0=vx/\ρ 1= .int .u32 d/\ρ 6= .slice (some ⟨b1,0,none⟩) n n/\ρ 7= .int .u64 s.2.2/\ρ 8=iB ((s.1:Int)-1)/\St w w' [(b1,141,Kr .u32 (pad kd (kd^s.1*s.2.1) n))]) (λs=>s.1) (n,0,0)
  ⟨aB _,hd,by simp only[fq];exact bS hXn,by simp only[eP];omega,rfl,rfl,by rw[hn];rfl,rfl,vi rfl (by rw[hn]),hS⟩ ?_
 clear hS;rintro⟨i,q,r⟩ ρ w3 ⟨hi,hr,hinv,hq,h0,h1,h6,h7,h8,hS⟩;simp only at hi hr hinv hq h0 h1 h6 h7 h8 hS;refine V2 ?_;by_cases hlt:0<i
 ·refine V1 ?_;have hil:i-1<(kL X).length:=oO;have x1:=lY X (i-1);have hg:(kL X).getD (i-1) 0=kS kd X (i-1):=me X (i-1);have hor:r*2^32|||kS kd X (i-1)=kS kd X (i-1)+r*2^32:=by rw[gh];exact uu _ _ _ oO
  refine J1 ?_;refine jp (uV rfl rfl oO (r:=((r*2^32:Nat):Int)) (by exact uW r 32 _ dD (kZ _ ⟨rfl,oO,oO⟩)) ?_);refine J2 ?_;refine jp (kp (i:=i-1) rfl rfl (hx.j5 hS.j5) oO dO lP (jq (ky (i:=i-1) 0 rfl kK (hx.j5 hS.j5) dO rfl rfl (.inr rfl) (jp (kJ rfl Tryz.underlying99 ⟨_,Tryz.underlying141⟩ (r:=((kS kd X (i-1):Nat):Int)) (by rw[hg];exact kZ _ ⟨rfl,oO,oO⟩) (jp (zc rfl rfl (r:=((kS kd X (i-1)+r*2^32:Nat):Int)) (by rw[<-hor];exact rM rfl _ _ (by show _<18446744073709551616;omega) (by show _<18446744073709551616;omega)) ?_)))))));refine V1 ?_;obtain⟨t,ht⟩:=jz (kS kd X (i-1)+r*2^32);rw[<-ht];have ht1:t/d<=4294967295:=by
   have:t<d*4294967296:=by
    have:(r+1)*4294967296<=d*4294967296:=aH _ hr;omega
   have:=dc this;omega
  refine J4 ?_;refine jp (kJ rfl Tryz.underlying99 ⟨_,Tryz.underlying141⟩ (r:=((d:Nat):Int)) (by exact kZ _ ⟨rfl,oO,oO⟩) (jp (sF rfl rfl oO (i5 _ _ oO) (jp (kJ rfl Tryz.underlying141 ⟨_,Tryz.underlying99⟩ (r:=((t/d:Nat):Int)) (by exact pC _ ⟨by push_cast;rfl,fg _,by generalize t/d=z at ht1⊢;omega⟩) (jp (kF (i:=i-1) rfl rfl oO dO lP (jh (pj (k:=0) (i:=i-1) (a:=_) rfl rfl rfl kK hS rfl oO dO ?_)))))))));intro wz3 hS;refine J2 ?_;refine jp (kJ rfl Tryz.underlying99 ⟨_,Tryz.underlying141⟩ (r:=((d:Nat):Int)) (by exact kZ _ ⟨rfl,oO,oO⟩) (jp (pY rfl rfl oO (r:=((t%d:Nat):Int)) (by rw[ff oO];push_cast;rfl) ?_)));refine V1 ?_;obtain⟨e1,e2⟩:=ui (b:=kd) (q:=q) (i:=i) (e:=t/d) (n:=n) dD (by unfold kd;omega) hlt hi hq;rw[ec,e1]at hS;refine V3 ?_;have hs:=ph kd X (i-1);rw[show i-1+1=i by omega,hinv]at hs;refine⟨(i-1,kd*q+t/d,t%d),_,rfl,⟨by simp only;omega,bG _ hd,?_,e2,h0,h1,h6,rfl,vi rfl (by simp only;omega),hS⟩,by simp only;omega⟩;simp only;have h9:=cH t d;have h10:kd=2^32:=rfl;rw[hs,bl,aW,bf,dR,dR,bF (t/d) d,h9,ht,h10];omega
 ·refine J1 ?_;refine jt ?_;obtain rfl:i=0:=oO;rw[cO,fu]at hinv;rw[cO,dG]at hS hq;have hqd:X/d=q:=by rw[hinv,dK,iW _ _ hd,bS hr,bZ]
  have hrd:X%d=r:=by rw[hinv,ia,aZ hr]
  have hsl:=hS.IS (k:=0) rfl (n:=n) (cap:=n) (by simp) (aB _) oO;rw[aU (by simp)]at hsl;refine J1 ?_;refine jh (j7 Tryz.call123 rfl (uX _ _ _ hsl (ti dD _ _)) ?_);rintro _ wq4 ⟨hv,hq4⟩;replace hq4:=hq4.symm;subst hq4;refine J1 ?_;refine jp (kJ rfl Tryz.underlying141 ⟨_,Tryz.underlying99⟩ (r:=((r:Nat):Int)) (by exact pC _ ⟨rfl,oO,oO⟩) ?_);refine J2 ?_;refine jt ?_;refine rH rfl rfl rfl ?_;rw[mR hq]at hv;rw[hqd,hrd];exact⟨⟨_,rfl,hv⟩,hS.j5⟩
theorem A9 (vx:Value) (X c n:Nat) (w:World) (hx:Sl (uk .u32) 1 w vx (kL X)) (hc:c<32) (hn:(kL X).length+1=n) (hmx:n<=17592186044416):
  lW Tryz.prog 184 #[vx,.int .u64 c] w λr w'=>
   (∃b,r= .slice (some ⟨b,0,none⟩) n n/\w.heap.size<=b/\w'.heap[b]?=some (.cells (Kr .u32 (pad kd (X*2^c) n)).toArray 141 (0,0)))/\Below w.heap.size w w':=by
 have hS:=St.init w;obtain⟨m,hm⟩:=jz ((kL X).length);have hXm:X<kd^m:=hm▸lQ X;have hp2:2^c<=2^31:=bM dD oO;have hpos:0<2^c:=cy dD;refine enter Tryz.func184 rfl Tryz.ntmps184 rfl ?_;refine J2 ?_;refine jp (kj rfl (hx.j5 hS.j5) ⟨_,Tryz.underlying138⟩ ?_);refine J1 ?_;refine jh (pV (n:=n) rfl rfl lP oO oO oO oO hS ?_);intro b1 wz2 hS hBz2;refine V2 ?_;rw[<-oV kd n]at hS;refine kx (σ:=Nat) (λi ρ w'=>i<=m/\ρ 0=vx/\ρ 1= .int .u64 c/\ρ 5= .slice (some ⟨b1,0,none⟩) n n/\ρ 6=iB i/\St w w' [(b1,141,Kr .u32 (pad kd (X%kd^i*2^c) n))]) (λi=>m-i) 0
  ⟨ax _,rfl,rfl,rfl,rfl,by rw[cO,dX,fq];exact hS⟩ ?_
 clear hS;rintro i ρ w3 ⟨hi,h0,h1,h5,h6,hS⟩;refine J2 ?_;refine jp (kj rfl (hx.j5 hS.j5) ⟨_,Tryz.underlying138⟩ ?_);refine V1 ?_;by_cases hlt:i<m
 ·refine V1 ?_;have hil:i<(kL X).length:=oO;have x1:=lY X i;obtain⟨x,hxd⟩:=jz (kS kd X i);rw[<-hxd]at x1;have hx2:x*2^c<=4294967295*2^31:=fb x1 hp2;obtain⟨V,hV⟩:=jz (X%kd^i*2^c);have hVs:X%kd^(i+1)*2^c=V+kd^i*(x*2^c):=by rw[mod_pow_succ,bl,<-hV,bf,hxd]
  have hVlt:V<kd^i*2^c:=by rw[hV];exact db (si dD X i) hpos
  have hBi:0<kd^i:=cy dD;have hVd:V/kd^i<2^c:=dc hVlt;have hVb:V<kd^(i+1):=by
   have:kd^i*2^c<=kd^i*kd:=bn _ (by unfold kd;omega);rw[bA];omega
  have hdg:kS kd V i=V/kd^i:=rC dD hVb;have hfit:=EU (V/kd^i) x c oO hVd;have hget:(pad kd V n).getD i 0=V/kd^i:=by rw[nY _ _ oO,hdg]
  rw[<-hV]at hS;have hsplit:=cH (x*2^c) 4294967296;have hlow:V+kd^i*((x*2^c)%4294967296)<kd^(i+1):=by
   have h8:=cH V (kd^i);have h9:=bG V hBi;have h10:kd^i*(V/kd^i+(x*2^c)%4294967296+1)<=kd^i*kd:=bn _ hfit;rw[aW,aW]at h10;rw[bA];omega
  refine J2 ?_;refine jp (kp (i:=i) rfl rfl (hx.j5 hS.j5) oO dO lP (jq (ky (i:=i) 0 rfl kK (hx.j5 hS.j5) dO rfl rfl (.inr rfl) (jp (kJ rfl Tryz.underlying99 ⟨_,Tryz.underlying141⟩ (r:=((x:Nat):Int)) (by rw[me,hxd];exact kZ _ ⟨rfl,oO,oO⟩) ?_)))));refine J1 ?_;refine jp (uV rfl rfl oO (uW x c ((x*2^c:Nat):Int) (by show c<=64;omega) (kZ _ ⟨rfl,oO,oO⟩)) ?_);refine J5 ?_;refine jp (kF (i:=i) rfl rfl oO dO lP (jq (nS (k:=0) (i:=i) rfl kK hS rfl oO dO ?_)));refine J1 ?_;refine jp (kJ rfl Tryz.underlying141 ⟨_,Tryz.underlying99⟩ (ss _) (jp (zc rfl rfl (r:=((V/kd^i+(x*2^c)%4294967296:Nat):Int)) (by rw[hget,<-IK _ _ _ oO hVd];exact rM rfl _ _ (by show _<4294967296;omega) (by show _<4294967296;omega)) (jp (kF (i:=i) rfl rfl oO dO lP (jh (pj (k:=0) (i:=i) (a:=_) rfl rfl rfl kK hS rfl oO dO ?_)))))));intro wz3 hS;refine ja ?_;have hset:=zg (b:=kd) (v:=V) (n:=n) (k:=i) (x:=(x*2^c)%4294967296) dD hVb hlow;rw[hdg]at hset;rw[ec,hset]at hS;have hnext:V+kd^i*((x*2^c)%4294967296)+kd^(i+1)*(x*2^c/4294967296)=X%kd^(i+1)*2^c:=by
   have:kd^(i+1)*(x*2^c/4294967296)=kd^i*(4294967296*(x*2^c/4294967296)):=by rw[bA,bf]
   rw[hVs,this,dR,<-aW];congr 2;omega
  have hhi:x*2^c/4294967296<2147483648:=oO;refine J4 ?_;refine jp (pX rfl rfl oO (r:=((x*2^c/4294967296:Nat):Int)) (by exact qp _ 32 dD) (jp (kJ rfl Tryz.underlying141 ⟨_,Tryz.underlying99⟩ (r:=((x*2^c/4294967296:Nat):Int)) (by exact pC _ ⟨rfl,oO,oO⟩) (jp (kF (i:=i+1) rfl rfl oO dO lP (jh (pj (k:=0) (i:=i+1) (a:=_) rfl rfl rfl kK hS rfl oO dO ?_)))))));intro wz4 hS;refine ja ?_;obtain⟨e1,e2⟩:=xK (b:=kd) (r:=V+kd^i*((x*2^c)%4294967296)) (i:=i+1) (d:=x*2^c/4294967296) (n:=n) dD hlow (show _<4294967296 by omega);rw[ec,e1,hnext]at hS;refine V3 ?_;exact⟨i+1,_,rfl,⟨hlt,h0,h1,h5,vi rfl oO,hS⟩,oO⟩
 ·refine J1 ?_;refine jt ?_;obtain rfl:i=m:=oO;rw[aZ hXm]at hS;refine J2 ?_;refine jt ?_;refine kD rfl rfl ?_;exact⟨⟨b1,rfl,hS.ge (k:=0) rfl,hS.get (k:=0) rfl⟩,hS.j5⟩
structure LF (ρ:Nat->Value) (n s m M bu bv bq:Nat):Prop where
 h6:ρ 6=iB n
 h7:ρ 7= .int .u64 s
 h8:ρ 8= .slice (some ⟨bu,0,none⟩) (m+1) (m+1)
 h9:ρ 9= .slice (some ⟨bv,0,none⟩) n (n+1)
 h10:ρ 10= .slice (some ⟨bq,0,none⟩) M M
theorem Fy (a b c d:kV): [a,b,c].set 2 d=[a,b,d]:=rfl
theorem RQ (t:Nat) (h:t<=18446744073709551615):pO .and .u64 (t:Int) 4294967295=((t%4294967296:Nat):Int):=by
 rw[show t%4294967296=t&&&4294967295 from(gH t 32).symm];exact Fo rfl t 4294967295 (by show t<18446744073709551616;omega) dD
theorem Rc (x y:Nat) (hx:x<=4294967295) (hy:y<=4294967296):IntKind.u32.wrap (IntKind.u64.wrap ((x:Int)-(y:Int)))=(((x+4294967296-y)%4294967296:Nat):Int):=by
 rw[xD,tJ];omega
theorem Kg (x y:Nat) (hx:x<=4294967295) (hy:y<=4294967296):(x+4294967296-y)%4294967296+y=x+4294967296*(if x<y then 1 else 0):=by
 rcases bH x y with h|h
 ·rw[aj h];omega
 ·rw[ah oO];omega
theorem Om (vx vy:Value) (X Y:Nat) (w:World) (hx:Sl (uk .u32) 1 w vx (kL X)) (hy:Sl (uk .u32) 1 w vy (kL Y)) (hYX:Y<=X) (hn2:2<=(kL Y).length) (hmx:(kL X).length<=4398046511104):
  lW Tryz.prog 164 #[vx,vy] w λr w'=>(∃q s,r= .tuple #[q,s]/\Sl (uk .u32) 1 w' q (kL (X/Y))/\Sl (uk .u32) 1 w' s (kL (X%Y)))/\Below w.heap.size w w':=by
 have hB:kd=4294967296:=rfl;have hS:=St.init w;obtain⟨m,hm⟩:=jz ((kL X).length);obtain⟨n,hn⟩:=jz ((kL Y).length);obtain⟨M,hM⟩:=jz (m-n+1);have hXm:X<kd^m:=hm▸lQ X;have hYn:Y<kd^n:=hn▸lQ Y;have hnm:n<=m:=by rw[hn,hm];exact nH dD hYX
 have hY0:0<Y:=by
  rcases dh Y with h|h
  ·rw[h]at hn2;unfold kL at hn2;rw[nQ]at hn2;exact absurd hn2 dD
  ·exact h
 obtain⟨hn0,htp⟩:=yS hY0;rw[<-hn]at hn0 htp hn2;have htl:=lY Y (n-1);obtain⟨x,hxe⟩:=jz (kS kd Y (n-1));rw[<-hxe]at htp htl;refine enter Tryz.func164 rfl Tryz.ntmps164 rfl ?_;refine J3 ?_;refine jp (kj rfl (hy.j5 hS.j5) ⟨_,Tryz.underlying138⟩ ?_);refine J2 ?_;refine jb ?_;refine kz (λρ w'=>∃s:Nat,s<32/\x*2^s<kd/\kd<=2*(x*2^s)/\ρ 0=vx/\ρ 1=vy/\ρ 6=iB n/\ρ 7= .int .u64 s/\St w w' []) ?_ ?_
 ·refine ja ?_;refine kx (σ:=Nat) (λs ρ w'=>s<32/\x*2^s<kd/\ρ 0=vx/\ρ 1=vy/\ρ 6=iB n/\ρ 7= .int .u64 s/\St w w' []) (λs=>32-s) 0
   ⟨dD,by simp only[cO,eC];omega,rfl,rfl,vi rfl (by rw[hn]),rfl,hS⟩ ?_
  clear hS;rintro s ρ w2 ⟨hs,hxs,h0,h1,h6,h7,hS⟩;refine J3 ?_;refine jp (kp (i:=n-1) rfl rfl (hy.j5 hS.j5) oO dO lP (jq (ky (i:=n-1) 0 rfl kK (hy.j5 hS.j5) dO rfl rfl (.inr rfl) ?_)));refine J1 ?_;refine jp (uV rfl rfl oO (r:=((x*2^s:Nat):Int)) (by rw[me,<-hxe];exact uW x s _ (by show s<=32;omega) (pC _ ⟨rfl,oO,oO⟩)) ?_);refine V1 ?_;by_cases hlt:x*2^s<2147483648
  ·refine V1 ?_;have hs2:s+1<32:=by
    rcases bH (s+1) 32 with g|g
    ·exact g
    ·exfalso;obtain rfl:s=31:=oO;have:1*2^31<=x*2^31:=aH _ htp;omega
   refine V3 ?_;refine⟨s+1,_,rfl,⟨hs2,?_,h0,h1,h6,vi rfl oO,hS⟩,oO⟩;rw[bA,<-bf];omega
  ·refine J1 ?_;refine jt ?_;exact⟨_,rfl,s,hs,hxs,oO,h0,h1,h6,h7,hS⟩
 clear hS;rintro ρ w2 ⟨s,hs,hxs,hxs2,h0,h1,h6,h7,hS⟩;refine ja ?_;rw[hxe]at hxs hxs2;obtain⟨hD,hD2⟩:=Ht hn0 hYn hs hxs hxs2;have hpc:0<2^s:=cy dD;have hpc2:2^s<=2^31:=bM dD oO;obtain⟨D,hDe⟩:=jz (Y*2^s);rw[<-hDe]at hD hD2;have hD0:0<D:=by rw[hDe];exact dH hY0 hpc
 have hUD:X*2^s<D*kd^(m-n+1):=by
  have h3:X*2^s<kd^m*2^s:=db hXm hpc;have h4:kd^m*2^s<=kd^m*2^31:=bn _ hpc2;have h5:kd^n*kd^(m-n+1)=kd^m*kd:=by rw[<-dy,<-bA];congr 1;omega
  have h6:kd^n*kd^(m-n+1)<=2*D*kd^(m-n+1):=aH _ hD2;rw[bf]at h6;have h7:kd^m*kd=kd^m*4294967296:=rfl;omega
 rw[<-hM]at hUD;clear hxs hxs2 hXm;refine J2 ?_;refine jh (j7 Tryz.call184 rfl (A9 _ X s (m+1) _ (hx.j5 hS.j5) hs oO oO) ?_);rintro r w3 ⟨⟨bu,rfl,hbu1,hbu2⟩,hB3⟩;replace hS:=hS.push hB3 hbu1 hbu2;refine J3 ?_;refine jh (j7 Tryz.call184 rfl (A9 _ Y s (n+1) _ (hy.j5 hS.j5) hs oO oO) ?_);rintro r w4 ⟨⟨bv,rfl,hbv1,hbv2⟩,hB4⟩;replace hS:=hS.push hB4 hbv1 hbv2;rw[<-hDe]at hS;refine J1 ?_;refine jp (FQ (hi:=n) rfl rfl rfl oO lP ?_);refine J2 ?_;refine jp (kj rfl (hx.j5 hS.j5) ⟨_,Tryz.underlying138⟩ ?_);refine J3 ?_;refine jh (pV (n:=M) rfl rfl lP oO oO oO oO hS ?_);intro b1 wz2 hS hBz2;refine J2 ?_;refine jp (kj rfl (hx.j5 hS.j5) ⟨_,Tryz.underlying138⟩ ?_);refine V3 ?_;rw[<-oV,show 0=kd^M*0 by rw[eP]]at hS;refine kx (σ:=Nat×Nat×Nat) (λt ρ w'=>t.1<=M/\X*2^s=t.2.1*D*kd^t.1+t.2.2/\t.2.2<D*kd^t.1/\LF ρ n s m M bu bv b1/\ρ 11=iB ((t.1:Int)-1)/\
   St w w' [(b1,141,Kr .u32 (pad kd (kd^t.1*t.2.1) M)),(bv,141,Kr .u32 (pad kd D (n+1))),(bu,141,Kr .u32 (pad kd t.2.2 (m+1)))]) (λt=>t.1) (M,0,X*2^s)
  ⟨aB _,by simp,hUD,⟨h6,h7,rfl,rfl,rfl⟩,vi rfl oO,hS⟩ ?_
 clear hS h0 h1 h6 h7;rintro⟨k,Q,V⟩ ρ w6 ⟨hk,hinv,hV,hF,h11,hS⟩;simp only at hk hinv hV h11 hS;refine V2 ?_;by_cases hk0:0<k
 ·refine V1 ?_;have hpk:0<kd^(k-1):=cy dD;have hkk:kd^k=kd^(k-1)*kd:=by rw[<-bA];congr 1;omega
  have hVs:V%kd^(k-1)+kd^(k-1)*(V/kd^(k-1))=V:=fk _ _;have hU:V/kd^(k-1)<D*kd:=by
   refine dc ?_;rw[hkk]at hV;rw[io];exact hV
  have hlo:V%kd^(k-1)<kd^(k-1):=bG _ hpk;obtain⟨lo,hloe⟩:=jz (V%kd^(k-1));obtain⟨U,hUe⟩:=jz (V/kd^(k-1));rw[<-hloe,<-hUe]at hVs;rw[<-hUe]at hU;rw[<-hloe]at hlo;clear hloe hUe;obtain⟨j,hj⟩:=jz (k-1);rw[<-hj]at hpk hkk hVs hlo;have hq0:U/D<kd:=dc hU;have hQ:kd^k*Q<kd^M:=by
   rcases bH (kd^k*Q) (kd^M)with h|h
   ·exact h
   ·exfalso;have h3:D*kd^M<=D*(kd^k*Q):=bn _ h;have h4:D*(kd^k*Q)=Q*D*kd^k:=by ac_rfl
    omega
  obtain⟨eq1,eq2⟩:=ui (b:=kd) (q:=Q) (i:=k) (e:=U/D) (n:=M) dD hq0 hk0 hk hQ;have hinv2:X*2^s=(kd*Q+U/D)*D*kd^j+(lo+kd^j*(U%D)):=by
   have g1:=cH U D;have g2:kd^j*U=kd^j*(D*(U/D))+kd^j*(U%D):=by rw[<-aW,g1]
   have g3:(kd*Q+U/D)*D*kd^j=Q*D*kd^k+kd^j*(D*(U/D)):=by
    rw[hkk,bl,bl];congr 1<;>ac_rfl
   rw[g3,hinv,<-hVs,g2];omega
  have hV2:lo+kd^j*(U%D)<D*kd^j:=by
   have g1:U%D+1<=D:=bG _ hD0;have g2:kd^j*(U%D+1)<=kd^j*D:=bn _ g1;rw[bF D,aW]at*;omega
  rw[<-hVs]at hS;clear hinv hV hVs hQ hUD;have hjm:j+n+1<=m+1:=oO;have h11':ρ 11=iB (j:Int):=h11.trans (bI (Value.int IntKind.i64) oO);clear h11;have hkn:=Kn.of n U D hn2 hD hD2 hU;have hU1:U<kd^(n+1):=by
   rw[bA];exact iO hU (db hD dD)
  have hgU:∀Z i,i<=n->(pad kd (lo+kd^j*Z) (m+1)).getD (j+i) 0=kS kd Z i:=λZ i hi=>by rw[nY _ _ oO,Gh dD hlo]
  have hgD:∀i,i<n+1->(pad kd D (n+1)).getD i 0=kS kd D i:=λi hi=>nY _ _ hi;have hgd1:=hgD (n-1) oO;have hgd2:=hgD (n-2) oO;have a0:=lY U n;have a1:=lY U (n-1);have a2:=lY U (n-2);have c1:=lY D (n-1);have c2:=lY D (n-2);have hd1:=hkn.h1;obtain⟨top,htop⟩:=jz (kS kd U n*kd+kS kd U (n-1));have htop2:top=kS kd U (n-1)+kS kd U n*2^32:=by rw[htop,dK]
  have hor:kS kd U n*2^32|||kS kd U (n-1)=top:=by rw[gh,uu _ _ _ oO,htop2]
  have htl2:top<=18446744073709551615:=by rw[htop];omega
  have hgn1:(pad kd (lo+kd^j*U) (m+1)).getD (j+n-1) 0=kS kd U (n-1):=by rw[show j+n-1=j+(n-1) by omega];exact hgU U _ oO
  have hgn2:(pad kd (lo+kd^j*U) (m+1)).getD (j+n-2) 0=kS kd U (n-2):=by rw[show j+n-2=j+(n-2) by omega];exact hgU U _ oO
  refine ja ?_;refine kE [jo 0,jo 1,jo 2,jo 3,jo 4,ju 5,jo 6,jo 7,jo 8,jo 9,jo 10,jo 11,jo 12,jo 13,ju 14,jo 15,jo 16,jo 17] kR kR hS ?_;intro wz3 hS hBz3;refine jl rfl (ks hF.h8 ?_);refine J1 ?_;refine jl rfl (ks hF.h6 ?_);refine J1 ?_;refine jl rfl (kF (i:=j+n) rfl rfl oO dO lP (jm rfl (nS (k:=2) (i:=j+n) rfl kK hS rfl oO dO (jl rfl (kJ rfl Tryz.underlying99 ⟨_,Tryz.underlying141⟩ (r:=((kS kd U n:Nat):Int)) (by rw[hgU U n oO];exact kZ _ ⟨rfl,oO,oO⟩) (jl rfl (uV rfl rfl oO (r:=((kS kd U n*2^32:Nat):Int)) (by exact uW _ 32 _ dD (kZ _ ⟨rfl,oO,oO⟩)) (jl rfl (ks hF.h8 ?_)))))))));refine J1 ?_;refine jl rfl (ks hF.h6 ?_);refine J2 ?_;refine jl rfl (kF (i:=j+n-1) rfl rfl oO dO lP (jm rfl (nS (k:=2) (i:=j+n-1) rfl kK hS rfl oO dO (jl rfl (kJ rfl Tryz.underlying99 ⟨_,Tryz.underlying141⟩ (r:=((kS kd U (n-1):Nat):Int)) (by rw[hgn1];exact kZ _ ⟨rfl,oO,oO⟩) (jl rfl (zc rfl rfl (r:=((top:Nat):Int)) (by rw[<-hor];exact rM rfl _ _ (by show _<18446744073709551616;omega) (by show _<18446744073709551616;omega)) ?_)))))));refine J2 ?_;refine jp (ks hF.h9 (jp (ks hF.h6 ?_)));refine J1 ?_;refine jp (kF (i:=n-1) rfl rfl oO dO lP (jq (nS (k:=1) (i:=n-1) rfl kK hS rfl oO dO (jp (kJ rfl Tryz.underlying99 ⟨_,Tryz.underlying141⟩ (r:=((kS kd D (n-1):Nat):Int)) (by rw[hgd1];exact kZ _ ⟨rfl,oO,oO⟩) (jp (sF rfl rfl oO (r:=((top/kS kd D (n-1):Nat):Int)) (by rw[i5 _ _ oO];push_cast;rfl) ?_)))))));refine J2 ?_;refine jp (ks hF.h9 (jp (ks hF.h6 ?_)));refine J1 ?_;refine jp (kF (i:=n-1) rfl rfl oO dO lP (jq (nS (k:=1) (i:=n-1) rfl kK hS rfl oO dO (jp (kJ rfl Tryz.underlying99 ⟨_,Tryz.underlying141⟩ (r:=((kS kd D (n-1):Nat):Int)) (by rw[hgd1];exact kZ _ ⟨rfl,oO,oO⟩) (jp (pY rfl rfl oO (r:=((top%kS kd D (n-1):Nat):Int)) (by rw[ff oO];push_cast;rfl) ?_)))))));refine J1 ?_;refine jb ?_;refine kz (λρ w'=>∃g,g<kd/\U/D<=g/\g<=U/D+1/\LF ρ n s m M bu bv b1/\ρ 11=iB j/\ρ 13= .int .u64 g/\
    St w w' [(b1,141,Kr .u32 (pad kd (kd^k*Q) M)),(bv,141,Kr .u32 (pad kd D (n+1))),(bu,141,Kr .u32 (pad kd (lo+kd^j*U) (m+1)))]) ?_ ?_
  ·refine ja ?_;refine kx (σ:=Nat×Nat) (λt ρ w'=>t.1*kS kd D (n-1)+t.2=top/\U/D<=t.1/\t.2<kd/\LF ρ n s m M bu bv b1/\ρ 11=iB j/\ρ 13= .int .u64 t.1/\ρ 14= .int .u64 t.2/\
     St w w' [(b1,141,Kr .u32 (pad kd (kd^k*Q) M)),(bv,141,Kr .u32 (pad kd D (n+1))),(bu,141,Kr .u32 (pad kd (lo+kd^j*U) (m+1)))]) (λt=>t.1) (top/kS kd D (n-1),top%kS kd D (n-1))
    ⟨by simp only;rw[bF];exact cH _ _,by simp only;rw[htop];exact hkn.q_le_top,by simp only;have:=bG top hd1;omega,⟨hF.h6,hF.h7,hF.h8,hF.h9,hF.h10⟩,h11',rfl,rfl,hS⟩ ?_
   clear hS hF h11';rintro⟨g,r⟩ ρ w3 ⟨hinv,hgq,hr,hF,h11,h13,h14,hS⟩;simp only at hinv hgq hr h13 h14 hS;have hgt:g<=top:=by
    have:g*1<=g*kS kd D (n-1):=bn _ hd1;omega
   refine ja ?_;by_cases hgB:kd<=g
   ·refine ja ?_;refine kE [jo 0,jo 1,jo 2,jo 3,jo 4,jo 5,jo 6,jo 7,ju 8,jo 9,jo 10,jo 11,jo 12,jo 13,jo 14,jo 15,jo 16,jo 17,jo 18,ju 19,jo 20,jo 21,jo 22,jo 23] kR kR hS ?_;intro wz4 hS hBz4;refine J3 ?_;refine nU rfl (kb 95 kR rfl dT) (nU rfl (kb 95 kR rfl dT) (nU rfl (kb 95 kR rfl dT) (nU rfl (kb 95 kR rfl dT) (nU rfl (kb 95 kR rfl dT) (nU rfl (kb 95 kR rfl dT) (nU rfl (kb 95 kR rfl dT) (nU rfl (kb 95 kR rfl dT) (nU rfl (kb 95 kR rfl dT) (nU rfl (kb 95 kR rfl dT) (nU rfl (kb 95 kR rfl dT) (nU rfl (kb 95 kR rfl dT) (nU rfl (kb 95 kR rfl dT) (nU rfl (kb 95 kR rfl dT) ?_)))))))))))));refine nU rfl (kb 95 kR rfl dT) (nU rfl (kb 95 kR rfl dT) (nU rfl (kb 95 kR rfl dT) (nU rfl (kb 95 kR rfl dT) (nU rfl (kb 95 kR rfl dT) (nU rfl (kb 95 kR rfl dT) (jl rfl (kC (vb rfl dT) rfl ?_)))))));refine ja ?_;refine k9 rfl (rfl) ?_;refine ja ?_;have hgq2:U/D<g:=oO;have hg0:0<g:=bY (ax _) hgq2;have hg1:U/D<=g-1:=gN hgq2;refine V3 ?_;have hgd:(g-1)*kS kd D (n-1)+(r+kS kd D (n-1))=top:=by
     obtain⟨g',rfl⟩:∃g',g=g'+1:=⟨g-1,oO⟩;rw[bl,dG]at hinv;rw[ic];omega
    refine J1 ?_;refine jp (ks hF.h9 (jp (ks hF.h6 ?_)));refine J1 ?_;refine jp (kF (i:=n-1) rfl rfl oO dO lP (jq (nS (k:=1) (i:=n-1) rfl kK hS rfl oO dO (jp (kJ rfl Tryz.underlying99 ⟨_,Tryz.underlying141⟩ (r:=((kS kd D (n-1):Nat):Int)) (by rw[hgd1];exact kZ _ ⟨rfl,oO,oO⟩) (jp (pe rfl rfl (r:=((r+kS kd D (n-1):Nat):Int)) (by exact kZ _ ⟨by push_cast;rfl,oO,oO⟩) ?_)))))));refine V3 ?_;by_cases hbrk:kd<=r+kS kd D (n-1)
    ·refine J1 ?_;refine jt ?_;have hgB:g-1<kd:=by
      rcases bH (g-1) kd with h|h
      ·exact h
      ·exfalso;have h1:kd*kS kd D (n-1)<=(g-1)*kS kd D (n-1):=aH _ h;have h2:=hkn.top_le;rw[<-htop,bF]at h2;omega
     have hgq:=hkn.rest (by rw[<-htop];exact hgd) oO hbrk;exact⟨_,rfl,g-1,hgB,hg1,oO,⟨hF.h6,hF.h7,hF.h8,hF.h9,hF.h10⟩,h11,vi rfl oO,hS⟩
    ·refine V1 ?_;refine⟨(g-1,r+kS kd D (n-1)),_,rfl,⟨hgd,hg1,by simp only;omega,⟨hF.h6,hF.h7,hF.h8,hF.h9,hF.h10⟩,h11,vi rfl (by simp only;omega),rfl,hS⟩,by simp only;omega⟩
   ·have hgd2':g*kS kd D (n-2)<=4294967295*4294967295:=fb oO c2;have hor2:r*2^32|||kS kd U (n-2)=r*4294967296+kS kd U (n-2):=by rw[gh,uu _ _ _ oO,dK]
    refine ja ?_;refine kE [jo 0,jo 1,jo 2,jo 3,jo 4,jo 5,jo 6,jo 7,ju 8,jo 9,jo 10,jo 11,jo 12,jo 13,jo 14,jo 15,jo 16,jo 17,jo 18,ju 19,jo 20,jo 21,jo 22,jo 23] kR kR hS ?_;intro wz5 hS hBz5;refine J3 ?_;refine kU rfl (j8 95 kR rfl dF) (ks h13 (kU rfl (j8 95 kR rfl dF) (ks hF.h9 (kU rfl (j8 95 kR rfl dF) (ks hF.h6 (kU rfl (j8 95 kR rfl dF) (sG rfl rfl (cx _ oO) (kU rfl (j8 95 kR rfl dF) (kF (i:=n-2) rfl rfl oO dO lP (nl rfl (j8 95 kR rfl dF) (nS (k:=1) (i:=n-2) rfl kK hS rfl oO dO (kU rfl (j8 95 kR rfl dF) (kJ rfl Tryz.underlying99 ⟨_,Tryz.underlying141⟩ (r:=((kS kd D (n-2):Nat):Int)) (by rw[hgd2];exact kZ _ ⟨rfl,oO,oO⟩) (kU rfl (j8 95 kR rfl dF) (ws rfl rfl (r:=((g*kS kd D (n-2):Nat):Int)) (by exact kZ _ ⟨by push_cast;rfl,oO,oO⟩) (kU rfl (j8 95 kR rfl dF) (ks h14 (kU rfl (j8 95 kR rfl dF) (uV rfl rfl oO (r:=((r*2^32:Nat):Int)) (by exact uW _ 32 _ dD (kZ _ ⟨rfl,oO,oO⟩)) (kU rfl (j8 95 kR rfl dF) (ks hF.h8 (kU rfl (j8 95 kR rfl dF) (ks h11 (kU rfl (j8 95 kR rfl dF) (ks hF.h6 (kU rfl (j8 95 kR rfl dF) (pe rfl rfl (cx _ oO) ?_)))))))))))))))))))))))))));refine kU rfl (j8 95 kR rfl dF) (sG rfl rfl (cx _ oO) (kU rfl (j8 95 kR rfl dF) (kF (i:=j+n-2) rfl rfl oO dO lP (nl rfl (j8 95 kR rfl dF) (nS (k:=2) (i:=j+n-2) rfl kK hS rfl oO dO (kU rfl (j8 95 kR rfl dF) (kJ rfl Tryz.underlying99 ⟨_,Tryz.underlying141⟩ (r:=((kS kd U (n-2):Nat):Int)) (by rw[hgn2];exact kZ _ ⟨rfl,oO,oO⟩) (kU rfl (j8 95 kR rfl dF) (zc rfl rfl (r:=((r*4294967296+kS kd U (n-2):Nat):Int)) (by rw[<-hor2];exact rM rfl _ _ (by show _<18446744073709551616;omega) (by show _<18446744073709551616;omega)) (kU rfl (j8 95 kR rfl dF) (uc rfl rfl (jl rfl (kC (vb rfl dF) rfl ?_)))))))))))));refine ja ?_;by_cases href:r*4294967296+kS kd U (n-2)<g*kS kd D (n-2)
    ·refine k9 rfl (ak (by exact_mod_cast href)) ?_;refine ja ?_;have hgq2:U/D<g:=hkn.refuted (by rw[<-htop];exact hinv) hgq href;have hg0:0<g:=bY (ax _) hgq2;have hg1:U/D<=g-1:=gN hgq2;refine V3 ?_;have hgd:(g-1)*kS kd D (n-1)+(r+kS kd D (n-1))=top:=by
      obtain⟨g',rfl⟩:∃g',g=g'+1:=⟨g-1,oO⟩;rw[bl,dG]at hinv;rw[ic];omega
     refine J1 ?_;refine jp (ks hF.h9 (jp (ks hF.h6 ?_)));refine J1 ?_;refine jp (kF (i:=n-1) rfl rfl oO dO lP (jq (nS (k:=1) (i:=n-1) rfl kK hS rfl oO dO (jp (kJ rfl Tryz.underlying99 ⟨_,Tryz.underlying141⟩ (r:=((kS kd D (n-1):Nat):Int)) (by rw[hgd1];exact kZ _ ⟨rfl,oO,oO⟩) (jp (pe rfl rfl (r:=((r+kS kd D (n-1):Nat):Int)) (by exact kZ _ ⟨by push_cast;rfl,oO,oO⟩) ?_)))))));refine V3 ?_;by_cases hbrk:kd<=r+kS kd D (n-1)
     ·refine J1 ?_;refine jt ?_;have hgB:g-1<kd:=by
       rcases bH (g-1) kd with h|h
       ·exact h
       ·exfalso;have h1:kd*kS kd D (n-1)<=(g-1)*kS kd D (n-1):=aH _ h;have h2:=hkn.top_le;rw[<-htop,bF]at h2;omega
      have hgq:=hkn.rest (by rw[<-htop];exact hgd) oO hbrk;exact⟨_,rfl,g-1,hgB,hg1,oO,⟨hF.h6,hF.h7,hF.h8,hF.h9,hF.h10⟩,h11,vi rfl oO,hS⟩
     ·refine V1 ?_;refine⟨(g-1,r+kS kd D (n-1)),_,rfl,⟨hgd,hg1,by simp only;omega,⟨hF.h6,hF.h7,hF.h8,hF.h9,hF.h10⟩,h11,vi rfl (by simp only;omega),rfl,hS⟩,by simp only;omega⟩
    ·refine lx rfl (ae (by exact_mod_cast href)) ?_;refine jt ?_;have hnear:=hkn.near (by rw[<-htop];exact hinv) oO (iH href);exact⟨_,rfl,g,oO,hgq,hnear,⟨hF.h6,hF.h7,hF.h8,hF.h9,hF.h10⟩,h11,h13,hS⟩
  clear hS a0 a1 a2 c1 c2 hor htl2 htop2 hF h11';rintro ρ w2 ⟨g,hgB,hq1,hq2,hF,h11,h13,hS⟩;clear htop hgn1 hgn2;refine J3 ?_;refine jb ?_;refine kz (λρ w'=>∃c bb Z,c<=4294967295/\bb<=1/\Z<kd^(n+1)/\Z+g*D=U+kd^n*(c+bb)/\LF ρ n s m M bu bv b1/\ρ 11=iB j/\ρ 13= .int .u64 g/\ρ 15= .int .u64 (c:Nat)/\ρ 16= .int .u64 (bb:Nat)/\
    St w w' [(b1,141,Kr .u32 (pad kd (kd^k*Q) M)),(bv,141,Kr .u32 (pad kd D (n+1))),(bu,141,Kr .u32 (pad kd (lo+kd^j*Z) (m+1)))]) ?_ ?_
  ·refine ja ?_;refine kx (σ:=Nat×Nat×Nat×Nat) (λt ρ w'=>t.1<=n/\t.2.1<=4294967295/\t.2.2.1<=1/\t.2.2.2<kd^(n+1)/\t.2.2.2+g*(D%kd^t.1)=U+kd^t.1*(t.2.1+t.2.2.1)/\LF ρ n s m M bu bv b1/\ρ 11=iB j/\ρ 13= .int .u64 g/\ρ 15= .int .u64 t.2.1/\ρ 16= .int .u64 t.2.2.1/\ρ 17=iB t.1/\
     St w w' [(b1,141,Kr .u32 (pad kd (kd^k*Q) M)),(bv,141,Kr .u32 (pad kd D (n+1))),(bu,141,Kr .u32 (pad kd (lo+kd^j*t.2.2.2) (m+1)))]) (λt=>n-t.1) (0,0,0,U)
    ⟨ax _,ax _,ax _,hU1,by simp[dX],⟨hF.h6,hF.h7,hF.h8,hF.h9,hF.h10⟩,h11,h13,rfl,rfl,rfl,hS⟩ ?_
   clear hS hF h11 h13;rintro⟨i,c,bb,Z⟩ ρ w3 ⟨hi,hc,hbb,hZ,hinv,hF,h11,h13,h15,h16,h17,hS⟩;simp only at hi hc hbb hZ hinv h15 h16 h17 hS;refine J1 ?_;refine jp (ks hF.h6 ?_);refine V1 ?_;by_cases hlt:i<n
   ·refine V1 ?_;have x1:=lY Z i;have d1:=lY D i;have hgX:=hgU Z i hi;obtain⟨u1,u2⟩:=yw g (kS kd D i) 0 c oO d1 oO hc;obtain⟨t,ht⟩:=jz (g*kS kd D i+c);have htl:t<=18446744073709551615:=oO;refine J2 ?_;refine jp (ks hF.h9 ?_);refine J1 ?_;refine jp (kF (i:=i) rfl rfl oO dO lP (jq (nS (k:=1) (i:=i) rfl kK hS rfl oO dO (jp (kJ rfl Tryz.underlying99 ⟨_,Tryz.underlying141⟩ (r:=((kS kd D i:Nat):Int)) (by rw[hgD i oO];exact kZ _ ⟨rfl,oO,oO⟩) (jp (ws rfl rfl (r:=((g*kS kd D i:Nat):Int)) (by exact kZ _ ⟨by push_cast;rfl,oO,oO⟩) (jp (pe rfl rfl (r:=((t:Nat):Int)) (by rw[ht];exact kZ _ ⟨oO,oO,oO⟩) ?_)))))))));refine J2 ?_;refine jp (Eo rfl rfl (RQ t htl) ?_);refine J1 ?_;refine jp (pe rfl rfl (r:=((t%4294967296+bb:Nat):Int)) (by exact kZ _ ⟨oO,oO,oO⟩) ?_);refine J2 ?_;refine jp (pX rfl rfl oO (r:=((t/4294967296:Nat):Int)) (by exact qp _ 32 dD) ?_);refine Y1 ?_;refine jp (ks hF.h8 ?_);refine J3 ?_;refine jp (kF (i:=j+i) rfl rfl oO dO lP (jq (nS (k:=2) (i:=j+i) rfl kK hS rfl oO dO (jp (kJ rfl Tryz.underlying99 ⟨_,Tryz.underlying141⟩ (r:=((kS kd Z i:Nat):Int)) (by rw[hgX];exact kZ _ ⟨rfl,oO,oO⟩) ?_)))));refine V5 ?_;obtain⟨y,hy9⟩:=jz (t%4294967296+bb);have hyl:y<=4294967296:=oO;rw[<-hy9];obtain⟨xx,hxx⟩:=jz ((if kS kd Z i<y then kS kd Z i+4294967296 else kS kd Z i));obtain⟨b',hb'⟩:∃c',c'=(if kS kd Z i<y then 1 else 0):=⟨_,rfl⟩;have hub:xx=kS kd Z i+4294967296*b':=by rw[hxx,hb'];split<;>omega
    have hul:y<=xx/\xx-y<=4294967295:=by rw[hxx];split<;>omega
    have hb1:b'<=1:=by rw[hb'];split<;>omega
    refine kz (λρ w'=>LF ρ n s m M bu bv b1/\ρ 11=iB j/\ρ 13= .int .u64 g/\ρ 15= .int .u64 (t/4294967296:Nat)/\ρ 16= .int .u64 (b':Nat)/\ρ 17=iB i/\ρ 18= .int .u64 (y:Nat)/\ρ 19= .int .u64 (xx:Nat)/\w3=w') ?_ ?_
    ·refine ja ?_;by_cases hlt2:kS kd Z i<y
     ·rw[aj hlt2]at hxx hb';refine J2 ?_;refine jp (pe rfl rfl (r:=((xx:Nat):Int)) (by rw[hxx];exact kZ _ ⟨oO,oO,oO⟩) ?_);refine V2 ?_;exact⟨_,rfl,⟨hF.h6,hF.h7,hF.h8,hF.h9,hF.h10⟩,h11,h13,rfl,vi rfl (by rw[hb'];rfl),h17,vi rfl (by rw[hy9]),rfl,rfl⟩
     ·rw[ah hlt2]at hxx hb';refine V1 ?_;exact⟨_,rfl,⟨hF.h6,hF.h7,hF.h8,hF.h9,hF.h10⟩,h11,h13,rfl,vi rfl (by rw[hb'];rfl),h17,vi rfl (by rw[hy9]),vi rfl (by rw[hxx]),rfl⟩
    clear hxx hb' hF h11 h13 h15 h16 h17;rintro ρ w' ⟨hF,h11,h13,h15,h16,h17,h18,h19,rfl⟩;refine jr ?_;refine jp (ks hF.h8 ?_);refine J5 ?_;refine jp (sG rfl rfl (r:=((xx-y:Nat):Int)) (by exact kZ _ ⟨oO,oO,oO⟩) (jp (kJ rfl Tryz.underlying141 ⟨_,Tryz.underlying99⟩ (r:=((xx-y:Nat):Int)) (by exact pC _ ⟨rfl,oO,oO⟩) (jp (kF (i:=j+i) rfl rfl oO dO lP (jh (pj (k:=2) (i:=j+i) (a:=_) rfl rfl rfl kK hS rfl oO dO ?_)))))));intro wz6 hS;refine ja ?_;obtain⟨Z',e1,e2,e3⟩:=po (b:=kd) (lo:=lo) (X:=Z) (o:=j) (k:=i) (d:=xx-y) (n:=m+1) dD hlo (show _<4294967296 by omega) oO;rw[Fy,e1]at hS;refine V3 ?_;refine⟨(i+1,t/4294967296,b',Z'),_,rfl,⟨hlt,by simp only;omega,hb1,e3 _ oO hZ,?_,⟨hF.h6,hF.h7,hF.h8,hF.h9,hF.h10⟩,h11,h13,h15,h16,vi rfl (by simp),hS⟩,by simp only;omega⟩;simp only;have f1:g*(D%kd^(i+1))=g*(D%kd^i)+kd^i*(g*kS kd D i):=by rw[mod_pow_succ,aW];congr 1;ac_rfl
    have f2:kd^(i+1)*(t/4294967296+b')=kd^i*(4294967296*(t/4294967296)+4294967296*b'):=by rw[bA,bf,<-aW]
    have f3:kS kd Z i+(4294967296*(t/4294967296)+4294967296*b')=(xx-y)+(g*kS kd D i+c)+bb:=oO;have f4:kd^i*kS kd Z i+kd^i*(4294967296*(t/4294967296)+4294967296*b')=kd^i*(xx-y)+kd^i*(g*kS kd D i)+kd^i*(c+bb):=by
     rw[<-aW,f3,<-aW,<-aW];congr 1;omega
    rw[f1,f2];omega
   ·refine J1 ?_;refine jt ?_;obtain rfl:i=n:=oO;rw[aZ hD]at hinv;exact⟨_,rfl,c,bb,Z,hc,hbb,hZ,hinv,⟨hF.h6,hF.h7,hF.h8,hF.h9,hF.h10⟩,h11,h13,h15,h16,hS⟩
  clear hS hF h11 h13;rintro ρ w3 ⟨c,bb,Z,hc,hbb,hZ,hinv,hF,h11,h13,h15,h16,hS⟩;refine ja ?_;have x1:=lY Z n;have hgX:=hgU Z n (aB _);refine J2 ?_;refine jp (pe rfl rfl (r:=((c+bb:Nat):Int)) (by exact kZ _ ⟨by push_cast;rfl,oO,oO⟩) ?_);refine Y1 ?_;refine jp (ks hF.h8 ?_);refine J1 ?_;refine jp (ks hF.h6 ?_);refine J1 ?_;refine jp (kF (i:=j+n) rfl rfl oO dO lP (jq (nS (k:=2) (i:=j+n) rfl kK hS rfl oO dO (jp (kJ rfl Tryz.underlying99 ⟨_,Tryz.underlying141⟩ (r:=((kS kd Z n:Nat):Int)) (by rw[hgX];exact kZ _ ⟨rfl,oO,oO⟩) ?_)))));refine V5 ?_;obtain⟨u',hu'⟩:∃u',u'=(kS kd Z n+4294967296-(c+bb))%4294967296:=⟨_,rfl⟩;obtain⟨b',hb'⟩:∃b',b'=if kS kd Z n<c+bb then 1 else 0:=⟨_,rfl⟩
  have hub:u'+(c+bb)=kS kd Z n+4294967296*b':=by rw[hu',hb'];exact Kg _ _ x1 oO
  have hb1:b'<=1:=by rw[hb'];split<;>omega
  have hbc:(b'=0↔¬kS kd Z n<c+bb):=by rw[hb'];split<;>omega
  have hul:u'<kd:=by rw[hu'];exact bG _ dD
  refine jr ?_;refine jp (ks hF.h8 ?_);refine J1 ?_;refine jp (ks hF.h6 ?_);refine J3 ?_;refine jp (sG rfl rfl rfl (jp (kJ rfl Tryz.underlying141 ⟨_,Tryz.underlying99⟩ (r:=((u':Nat):Int)) (by rw[hu'];exact Rc _ _ x1 oO) (jp (kF (i:=j+n) rfl rfl oO dO lP (jh (pj (k:=2) (i:=j+n) (a:=_) rfl rfl rfl kK hS rfl oO dO ?_)))))));intro wz7 hS;refine ja ?_;obtain⟨Y',e1,e2,e3⟩:=po (b:=kd) (lo:=lo) (X:=Z) (o:=j) (k:=n) (d:=u') (n:=m+1) dD hlo hul oO;have hY':=e3 _ oO hZ;rw[Fy,e1]at hS;have hYU:Y'+g*D=U+kd^(n+1)*b':=by
   have f2:kd^(n+1)*b'=kd^n*(4294967296*b'):=by rw[bA,bf]
   have f4:kd^n*kS kd Z n+kd^n*(4294967296*b')=kd^n*u'+kd^n*(c+bb):=by
    rw[<-aW,<-aW];congr 1;omega
   omega
  clear e1 e2 e3 hub hu' hb' hgX x1 hinv;refine V1 ?_;have hdm:=cH U D;have hDpos:0<D:=hkn.dpos;refine kz (λρ w'=>LF ρ n s m M bu bv b1/\ρ 11=iB j/\ρ 13= .int .u64 (U/D:Nat)/\
    St w w' [(b1,141,Kr .u32 (pad kd (kd^k*Q) M)),(bv,141,Kr .u32 (pad kd D (n+1))),(bu,141,Kr .u32 (pad kd (lo+kd^j*(U%D)) (m+1)))]) ?_ ?_
  ·refine ja ?_;by_cases hb0:b'=0
   ·refine lx rfl (ae (by have:=hbc.1 hb0;omega)) ?_;refine ja ?_;rw[hb0,eP,d9]at hYU;have hg1:g<=U/D:=(dY hDpos).2 oO;have hgq:g=U/D:=oO;have hYm:Y'=U%D:=by rw[hgq,bF]at hYU;omega
    rw[hYm]at hS;exact⟨_,rfl,⟨hF.h6,hF.h7,hF.h8,hF.h9,hF.h10⟩,h11,h13.trans (by rw[hgq]),hS⟩
   ·refine k9 rfl (ak (by have:=λh=>hb0 (hbc.2 h);omega)) ?_;refine ja ?_;obtain rfl:b'=1:=oO;have hgq:g=U/D+1:=by
     rcases bH (U/D) g with h|h
     ·omega
     ·exfalso;have:g*D<=U:=(dY hDpos).1 h;omega
    have hYR:Y'+D=U%D+kd^(n+1):=by
     rw[hgq,bl,dG,bF]at hYU;omega
    refine J1 ?_;refine jp (sG rfl rfl (r:=((U/D:Nat):Int)) (by rw[hgq];exact kZ _ ⟨by push_cast;omega,fg _,by generalize U/D=z at hq0⊢;omega⟩) ?_);refine J3 ?_;refine jb ?_;refine kz (λρ w'=>∃c Z,c<=1/\Z<kd^(n+1)/\Z+kd^n*c=Y'+D/\LF ρ n s m M bu bv b1/\ρ 11=iB j/\ρ 13= .int .u64 (U/D:Nat)/\ρ 15= .int .u64 (c:Nat)/\
      St w w' [(b1,141,Kr .u32 (pad kd (kd^k*Q) M)),(bv,141,Kr .u32 (pad kd D (n+1))),(bu,141,Kr .u32 (pad kd (lo+kd^j*Z) (m+1)))]) ?_ ?_
    ·refine ja ?_;refine kx (σ:=Nat×Nat×Nat) (λt ρ w'=>t.1<=n/\t.2.1<=1/\t.2.2<kd^(n+1)/\t.2.2+kd^t.1*t.2.1=Y'+D%kd^t.1/\LF ρ n s m M bu bv b1/\ρ 11=iB j/\ρ 13= .int .u64 (U/D:Nat)/\ρ 15= .int .u64 t.2.1/\ρ 23=iB t.1/\
       St w w' [(b1,141,Kr .u32 (pad kd (kd^k*Q) M)),(bv,141,Kr .u32 (pad kd D (n+1))),(bu,141,Kr .u32 (pad kd (lo+kd^j*t.2.2) (m+1)))]) (λt=>n-t.1) (0,0,Y')
      ⟨ax _,ax _,hY',by simp[dX],⟨hF.h6,hF.h7,hF.h8,hF.h9,hF.h10⟩,h11,rfl,rfl,rfl,hS⟩ ?_
     clear hS hF h11 h13 h15 h16;rintro⟨i,c,Z⟩ ρ w3 ⟨hi,hc,hZ,hinv,hF,h11,h13,h15,h23,hS⟩;simp only at hi hc hZ hinv h15 h23 hS;refine J1 ?_;refine jp (ks hF.h6 ?_);refine V1 ?_;by_cases hlt:i<n
     ·refine V1 ?_;have x1:=lY Z i;have d1:=lY D i;have hgX:=hgU Z i hi;obtain⟨t,ht⟩:=jz (kS kd Z i+kS kd D i+c);refine ja ?_;refine kE [jo 0,jo 1,jo 2,jo 3,jo 4,jo 5,ju 6,jo 7,jo 8,jo 9,jo 10,jo 11,ju 12,jo 13,jo 14,jo 15] kR kR hS ?_;intro wz8 hS hBz8;refine J1 ?_;refine jl rfl (ks hF.h8 ?_);refine J3 ?_;refine jl rfl (kF (i:=j+i) rfl rfl oO dO lP (jm rfl (nS (k:=2) (i:=j+i) rfl kK hS rfl oO dO (jl rfl (kJ rfl Tryz.underlying99 ⟨_,Tryz.underlying141⟩ (r:=((kS kd Z i:Nat):Int)) (by rw[hgX];exact kZ _ ⟨rfl,oO,oO⟩) (jl rfl (pe rfl rfl (r:=((c+kS kd Z i:Nat):Int)) (by exact kZ _ ⟨by push_cast;rfl,oO,oO⟩) (jl rfl (ks hF.h9 ?_)))))))));refine J1 ?_;refine jl rfl (kF (i:=i) rfl rfl oO dO lP (jm rfl (nS (k:=1) (i:=i) rfl kK hS rfl oO dO (jl rfl (kJ rfl Tryz.underlying99 ⟨_,Tryz.underlying141⟩ (r:=((kS kd D i:Nat):Int)) (by rw[hgD i oO];exact kZ _ ⟨rfl,oO,oO⟩) (jl rfl (pe rfl rfl (r:=((t:Nat):Int)) (by rw[ht];exact kZ _ ⟨oO,oO,oO⟩) ?_)))))));refine Y1 ?_;refine jp (ks hF.h8 ?_);refine J4 ?_;refine jp (kJ rfl Tryz.underlying141 ⟨_,Tryz.underlying99⟩ (ss _) (jp (kF (i:=j+i) rfl rfl oO dO lP (jh (pj (k:=2) (i:=j+i) (a:=_) rfl rfl rfl kK hS rfl oO dO ?_)))));intro wz9 hS;refine J1 ?_;refine jp (pX rfl rfl oO (r:=((t/4294967296:Nat):Int)) (by exact qp _ 32 dD) ?_);refine V1 ?_;obtain⟨Z',e1,e2,e3⟩:=po (b:=kd) (lo:=lo) (X:=Z) (o:=j) (k:=i) (d:=t%4294967296) (n:=m+1) dD hlo (bG _ dD) oO;rw[Fy,e1]at hS;refine V3 ?_;refine⟨(i+1,t/4294967296,Z'),_,rfl,⟨hlt,by simp only;omega,e3 _ oO hZ,?_,⟨hF.h6,hF.h7,hF.h8,hF.h9,hF.h10⟩,h11,h13,rfl,vi rfl (by simp),hS⟩,by simp only;omega⟩;simp only;have f2:kd^(i+1)*(t/4294967296)=kd^i*(4294967296*(t/4294967296)):=by rw[bA,bf]
      have f4:kd^i*(t%4294967296)+kd^i*(4294967296*(t/4294967296))=kd^i*kS kd Z i+kd^i*kS kd D i+kd^i*c:=by
       rw[<-aW,fk,ht,aW,aW]
      rw[mod_pow_succ,f2];omega
     ·refine J1 ?_;refine jt ?_;obtain rfl:i=n:=oO;rw[aZ hD]at hinv;exact⟨_,rfl,c,Z,hc,hZ,hinv,⟨hF.h6,hF.h7,hF.h8,hF.h9,hF.h10⟩,h11,h13,h15,hS⟩
    clear hS hF h11 h13 h15 h16;rintro ρ w4 ⟨c,Z,hc,hZ,hinv,hF,h11,h13,h15,hS⟩;refine ja ?_;have x1:=lY Z n;have hgX:=hgU Z n (aB _);refine jr ?_;refine jp (ks hF.h8 ?_);refine J1 ?_;refine jp (ks hF.h6 ?_);refine J1 ?_;refine jp (ks hF.h8 ?_);refine J1 ?_;refine jp (ks hF.h6 ?_);refine J1 ?_;refine jp (kF (i:=j+n) rfl rfl oO dO lP (jq (nS (k:=2) (i:=j+n) rfl kK hS rfl oO dO ?_)));refine J1 ?_;refine jp (kJ rfl Tryz.underlying141 ⟨_,Tryz.underlying99⟩ (r:=((c:Nat):Int)) (by exact pC _ ⟨rfl,oO,oO⟩) (jp (pe rfl rfl (r:=(((kS kd Z n+c)%4294967296:Nat):Int)) (by rw[hgX,tJ];omega) (jp (kF (i:=j+n) rfl rfl oO dO lP (jh (pj (k:=2) (i:=j+n) (a:=_) rfl rfl rfl kK hS rfl oO dO ?_)))))));intro wz10 hS;refine ja ?_;obtain⟨W,e1,e2,e3⟩:=po (b:=kd) (lo:=lo) (X:=Z) (o:=j) (k:=n) (d:=(kS kd Z n+c)%4294967296) (n:=m+1) dD hlo (bG _ dD) oO;rw[Fy,e1]at hS;have hW:W=U%D:=by
     have hR:U%D<kd^n:=iO (bG _ hDpos) hD;have hpos:0<kd^n:=cy dD;have htop:kS kd Z n=Z/kd^n:=rC dD hZ;have hdz:=cH Z (kd^n);have hmz:=bG Z hpos;have hsum:Z%kd^n+kd^n*(Z/kd^n+c)=U%D+kd^n*4294967296:=by
      have:kd^(n+1)=kd^n*4294967296:=bA ..;rw[aW];omega
     have hy:Z/kd^n+c=4294967296:=by
      have h1:(Z%kd^n+kd^n*(Z/kd^n+c))/kd^n=(U%D+kd^n*4294967296)/kd^n:=by rw[hsum]
      rwa[cU _ _ hpos,cU _ _ hpos,bS hmz,bS hR,bZ,bZ]at h1
     rw[htop,hy]at e2;rw[hy]at hsum;simp only[Nat.mod_self,eP,d9]at e2;omega
    rw[hW]at hS;exact⟨_,rfl,⟨hF.h6,hF.h7,hF.h8,hF.h9,hF.h10⟩,h11,h13,hS⟩
  clear hS hF h11 h13 h15 h16 hYU;rintro ρ w4 ⟨hF,h11,h13,hS⟩;refine jr ?_;refine jp (ks hF.h10 ?_);refine J2 ?_;refine jp (kJ rfl Tryz.underlying141 ⟨_,Tryz.underlying99⟩ (r:=((U/D:Nat):Int)) (by exact pC _ ⟨rfl,fg _,by generalize U/D=z at hq0⊢;omega⟩) (jp (kF (i:=j) rfl rfl oO dO lP (jh (pj (k:=0) (i:=j) (a:=(U/D)) rfl rfl rfl kK hS rfl oO dO ?_)))));intro wz11 hS;refine ja ?_;rw[ec,hj,eq1,<-hj]at hS;refine V3 ?_;exact⟨(j,kd*Q+U/D,lo+kd^j*(U%D)),_,rfl,⟨by simp only;omega,hinv2,hV2,⟨hF.h6,hF.h7,hF.h8,hF.h9,hF.h10⟩,rfl,hS⟩,by simp only;omega⟩
 ·refine J1 ?_;refine jt ?_;obtain rfl:k=0:=oO;rw[cO,eC]at hinv hV;rw[cO,dG]at hS;rw[hDe]at hinv hV;obtain⟨f1,f2,f3⟩:=yg hpc hinv hV;rw[<-hDe]at hinv hV;have hQM:Q<kd^M:=by
   rcases bH Q (kd^M)with h|h
   ·exact h
   ·exfalso;have h3:D*kd^M<=D*Q:=bn _ h;rw[bF D Q]at h3;omega
  have hVn:V<kd^n:=oO;refine jr ?_;refine jp (ks hF.h6 (jh (pV (n:=n) rfl rfl lP oO oO oO oO hS ?_)));intro b12 wz13 hS hBz13;refine V2 ?_;rw[<-oV kd n,show 0=V/2^s%kd^0 by rw[cO,dX]]at hS;refine kx (σ:=Nat) (λi ρ w'=>i<=n/\ρ 6=iB n/\ρ 7= .int .u64 s/\ρ 8= .slice (some ⟨bu,0,none⟩) (m+1) (m+1)/\ρ 10= .slice (some ⟨b1,0,none⟩) M M/\ρ 24= .slice (some ⟨b12,0,none⟩) n n/\ρ 25=iB i/\
    St w w' [(b12,141,Kr .u32 (pad kd (V/2^s%kd^i) n)),(b1,141,Kr .u32 (pad kd Q M)),(bv,141,Kr .u32 (pad kd D (n+1))),(bu,141,Kr .u32 (pad kd V (m+1)))]) (λi=>n-i) 0
   ⟨ax _,hF.h6,hF.h7,hF.h8,hF.h10,rfl,rfl,hS⟩ ?_
  clear hS hF h11;rintro i ρ w7 ⟨hi,h6,h7,h8,h10,h24,h25,hS⟩;refine V3 ?_;by_cases hlt:i<n
  ·refine V1 ?_;have x1:=lY V i;have x2:=lY V (i+1);have hg1:(pad kd V (m+1)).getD i 0=kS kd V i:=nY _ _ oO;have hg2:(pad kd V (m+1)).getD (i+1) 0=kS kd V (i+1):=nY _ _ oO;have hor:kS kd V (i+1)*2^32|||kS kd V i=kS kd V i+kS kd V (i+1)*4294967296:=by rw[gh,uu _ _ 32 oO]
   refine ja ?_;refine kE [jo 0,jo 1,jo 2,jo 3,jo 4,jo 5,ju 6,jo 7,jo 8,jo 9,jo 10,jo 11,ju 12,jo 13,jo 14,jo 15,jo 16,jo 17,jo 18,jw 19] kR kR hS ?_;intro wz14 hS hBz14;refine J5 ?_;refine jl rfl (kF (i:=i+1) rfl rfl oO dO lP (jm rfl (nS (k:=3) (i:=i+1) rfl kK hS rfl oO dO (jl rfl (kJ rfl Tryz.underlying99 ⟨_,Tryz.underlying141⟩ (r:=((kS kd V (i+1):Nat):Int)) (by rw[hg2];exact kZ _ ⟨rfl,oO,oO⟩) (jl rfl (uV rfl rfl oO (r:=((kS kd V (i+1)*2^32:Nat):Int)) (by exact uW _ 32 _ dD (kZ _ ⟨rfl,oO,oO⟩)) ?_)))))));refine J2 ?_;refine jl rfl (kF (i:=i) rfl rfl oO dO lP (jm rfl (nS (k:=3) (i:=i) rfl kK hS rfl oO dO (jl rfl (kJ rfl Tryz.underlying99 ⟨_,Tryz.underlying141⟩ (r:=((kS kd V i:Nat):Int)) (by rw[hg1];exact kZ _ ⟨rfl,oO,oO⟩) (jl rfl (zc rfl rfl (r:=((kS kd V i+kS kd V (i+1)*4294967296:Nat):Int)) (by rw[<-hor];exact rM rfl _ _ (by show _<18446744073709551616;omega) (by show _<18446744073709551616;omega)) ?_)))))));refine J1 ?_;refine jl rfl (pX rfl rfl oO (qp _ s (show s<=64 by omega)) (jl rfl (kJ rfl Tryz.underlying141 ⟨_,Tryz.underlying99⟩ (ss _) (jl rfl (kF (i:=i) rfl rfl oO dO lP (jx rfl (pj (k:=0) (i:=i) (a:=_) rfl rfl rfl kK hS rfl oO dO ?_)))))));intro wz15 hS;refine ja ?_;rw[ec,A8 V s i oO,B5 dD]at hS;refine V3 ?_;exact⟨i+1,_,rfl,⟨hlt,h6,h7,h8,h10,h24,vi rfl oO,hS⟩,oO⟩
  ·refine J1 ?_;refine jt ?_;obtain rfl:i=n:=oO;have hlt3:V/2^s<kd^i:=bY (dz _ _) hVn;rw[aZ hlt3]at hS;have hslr:=hS.IS (k:=0) rfl (n:=i) (cap:=i) (by simp) (aB _) oO;rw[aU (by simp)]at hslr;have hslq:=hS.IS (k:=1) rfl (n:=M) (cap:=M) (by simp) (aB _) oO;rw[aU (by simp)]at hslq;refine J1 ?_;refine jh (j7 Tryz.call123 rfl (uX _ _ _ hslq (ti dD _ _)) ?_);rintro _ wq16 ⟨hq,hq16⟩;replace hq16:=hq16.symm;subst hq16;refine J1 ?_;refine jh (j7 Tryz.call123 rfl (uX _ _ _ hslr (ti dD _ _)) ?_);rintro _ wq17 ⟨hr,hq17⟩;replace hq17:=hq17.symm;subst hq17;refine J2 ?_;refine jt ?_;refine rH rfl rfl rfl ?_;rw[mR hQM,<-f1]at hq;rw[mR hlt3,f3]at hr;exact⟨⟨_,_,rfl,hq,hr⟩,hS.j5⟩
theorem yq (vx vy:Value) (X Y:Nat) (w:World) (hx:Sl (uk .u32) 1 w vx (kL X)) (hy:Sl (uk .u32) 1 w vy (kL Y)) (hY0:0<Y) (hmx:(kL X).length<=4398046511104):
  lW Tryz.prog 122 #[vx,vy] w λr w'=>(∃q s,r= .tuple #[q,s]/\Sl (uk .u32) 1 w' q (kL (X/Y))/\Sl (uk .u32) 1 w' s (kL (X%Y)))/\Below w.heap.size w w':=by
 have hB:kd=4294967296:=rfl;have hS:=St.init w;obtain⟨n,hn⟩:=jz ((kL Y).length);have hYn:Y<kd^n:=hn▸lQ Y;obtain⟨hn0,_⟩:=yS hY0;rw[<-hn]at hn0;refine enter Tryz.func122 rfl Tryz.ntmps122 rfl ?_;refine J4 ?_;refine jh (j7 Tryz.call162 rfl (Nb _ _ _ _ _ (hx.j5 hS.j5) (hy.j5 hS.j5)) ?_);rintro _ wc1 ⟨rfl,hBc1⟩;replace hS:=hS.ko hBc1;refine V1 ?_;by_cases hlt:X<Y
 ·refine k9 rfl (ak (by rw[ug hlt];decide)) ?_;refine J3 ?_;refine jt ?_;refine rH rfl rfl rfl ?_;refine⟨⟨_,_,rfl,?_,?_⟩,hS.j5⟩
  ·rw[bS hlt,kL,nQ];exact Sl.nil _ _ _
  ·rw[aZ hlt];exact hx.j5 hS.j5
 ·have hge:Y<=X:=iH hlt;have hcmp:¬sI X Y<0:=by
   rcases bH Y X with h|h
   ·rw[ul h];decide
   ·rw[show X=Y by omega,xF];decide
  refine lx rfl (ae hcmp) ?_;refine J1 ?_;refine jp (kj rfl (hy.j5 hS.j5) ⟨_,Tryz.underlying138⟩ ?_);refine V1 ?_;by_cases h1:n=1
  ·refine V1 ?_;have hg:(kL Y).getD 0 0=Y:=by
    rw[me,kS,cO,fu];rw[h1,i3]at hYn;exact aZ hYn
   have hYl:Y<=4294967295:=by rw[h1,i3]at hYn;omega
   refine J2 ?_;refine jp (kp (i:=0) rfl rfl (hy.j5 hS.j5) oO dO lP (jq (ky (i:=0) 0 rfl kK (hy.j5 hS.j5) dO rfl rfl (.inr rfl) ?_)));rw[hg];refine jh (j7 Tryz.call163 rfl (Nr _ _ _ _ (hx.j5 hS.j5) hY0 hYl oO) ?_);rintro r w2 ⟨⟨q,rfl,hq⟩,hB2⟩;replace hS:=hS.ko hB2;refine V5 ?_;have hml:X%Y<=4294967295:=by have:=bG X hY0;omega
   refine J2 ?_;refine jh (mO (vs:=[_]) rfl lP rfl dD dD dD (by simp[Value.cells]) rfl hS ?_);intro b2 wz3 hS hBz3;have hq1:=hq.j5 hBz3;have hsl:=St.IS (L:=[X%Y]) hS (k:=0) rfl (n:=1) (cap:=1) (by simp) oO oO;refine jh (j7 Tryz.call123 rfl (uX _ _ _ hsl (by intro d hd;rw[aU (by simp)]at hd;rw[aQ.1 hd];omega)) ?_);rintro _ wq4 ⟨hv,hq4⟩;replace hq4:=hq4.symm;subst hq4;refine J2 ?_;refine jt ?_;refine rH rfl rfl rfl ?_;refine⟨⟨_,_,rfl,hq1,?_⟩,hS.j5⟩;have e:lB kd ([X%Y].take 1)=X%Y:=by simp[lB]
   rwa[e]at hv
  ·refine J3 ?_;refine jh (j7 Tryz.call164 rfl (Om _ _ _ _ _ (hx.j5 hS.j5) (hy.j5 hS.j5) hge oO hmx) ?_);rintro r w2 ⟨⟨q,s,rfl,hq,hs⟩,hB2⟩;replace hS:=hS.ko hB2;refine J4 ?_;refine jt ?_;refine rH rfl rfl rfl ?_;exact⟨⟨_,_,rfl,hq,hs⟩,hS.j5⟩
theorem I0 (vx vy:Value) (A B:Nat) (w:World) (hx:Sl (uk .u32) 1 w vx (kL A)) (hy:Sl (uk .u32) 1 w vy (kL B)) (hmx:(kL A).length<=4398046511104) (hmy:(kL B).length<=4398046511104):
  lW Tryz.prog 121 #[vx,vy] w λr w'=>Sl (uk .u32) 1 w' r (kL (Nat.gcd A B))/\Below w.heap.size w w':=by
 have hS:=St.init w;refine enter Tryz.func121 rfl Tryz.ntmps121 rfl ?_;refine V1 ?_;refine kx (σ:=Nat×Nat) (λs ρ w'=>Nat.gcd s.1 s.2=Nat.gcd A B/\(kL s.1).length<=4398046511104/\(kL s.2).length<=4398046511104/\(∃vx vy,ρ 0=vx/\ρ 1=vy/\Sl (uk .u32) 1 w' vx (kL s.1)/\Sl (uk .u32) 1 w' vy (kL s.2))/\St w w' []) (λs=>s.2) (A,B)
  ⟨rfl,hmx,hmy,⟨_,_,rfl,rfl,hx,hy⟩,hS⟩ ?_
 clear hS hx hy;rintro⟨X,Y⟩ ρ w3 ⟨hg,hX,hY,⟨vx,vy,h0,h1,hx,hy⟩,hS⟩;simp only at hg hX hY hx hy;refine J1 ?_;refine jp (kj rfl hy ⟨_,Tryz.underlying138⟩ ?_);refine V1 ?_;have hyn:(kL Y).length=0↔Y=0:=rF;by_cases hY0:Y=0
 ·refine J3 ?_;refine jt ?_;refine kD rfl rfl ?_;rw[hY0,Nat.gcd_zero_right]at hg;rw[<-hg];exact⟨hx,hS.j5⟩
 ·refine V1 ?_;have hlt:X%Y<Y:=bG _ oO;have hls:=o4 (fP hlt);refine J2 ?_;refine jh (j7 Tryz.call122 rfl (yq _ _ _ _ _ hx hy oO oO) ?_);rintro r w4 ⟨⟨q,s,rfl,hq,hs⟩,hB4⟩;refine V9 ?_;refine⟨(Y,X%Y),_,rfl,⟨?_,hY,by simp only;omega,⟨vy,s,rfl,rfl,hy.j5 hB4,hs⟩,hS.ko hB4⟩,hlt⟩;simp only;rw[<-hg,jK Y,<-Nat.gcd_rec,jK]
theorem Qg:kL 1=[1]:=by unfold kL;rw[u0 dD dD,show 1/kd=0 from rfl,nQ];rfl
theorem E1 {g:Nat} (h:¬1<(kL g).length) (hg:0<g):(kL g).length=1/\(kL g).getD 0 0=g:=by
 have h1:=(yS hg).1;have h2:(kL g).length=1:=oO;have h3:=lQ g;rw[h2,i3]at h3;refine⟨h2,?_⟩;rw[me,kS,cO,fu,aZ h3]
theorem A4 {g:Nat} (h:1<(kL g).length):g≠1:=by
 rintro rfl;rw[Qg]at h;exact absurd h dD
theorem Dh (b:Bool) (s:ByteArray):Tryz.prog.built 32 [(0,.bool b),(1,.string s)]=some #[.bool b,.string s,.string ⟨#[]⟩]:=by kernel_rfl
theorem IE (b:Bool) (vn vd:Value) (n d:Nat) (w:World) (hvn:Sl (uk .u32) 1 w vn (kL n)) (hvd:Sl (uk .u32) 1 w vd (kL d)) (hn:(kL n).length<=4398046511104) (hd:(kL d).length<=4398046511104) (h0:d≠0):
  lW Tryz.prog 78 #[.bool b,vn,vd] w λv w'=>v=lu (j9 (mkRat (sg b n) d))/\Below w.heap.size w w':=by
 have hS:=St.init w;refine enter Tryz.func78 rfl Tryz.ntmps78 rfl ?_;refine J1 ?_;intro b1 wz2 hS hBz2;refine J1 ?_;refine jp (kj rfl (hvn.j5 hS.j5) ⟨_,Tryz.underlying138⟩ ?_);refine V1 ?_;have hzn:(kL n).length=0↔n=0:=rF;by_cases hz:n=0
 ·refine Y1 ?_;refine jp (kQ rfl pI ?_);refine J1 ?_;intro wz3 hS;refine jt ?_;refine mq (k:=0) rfl rfl ki hS rfl rfl ?_;refine⟨?_,hS.j5⟩;have:mkRat (sg b 0) d=0:=by cases b<;>simp[sg]
  rw[hz,this,oC];rfl
 ·refine V1 ?_;obtain⟨g,hg⟩:=jz (Nat.gcd n d);have hgp:0<g:=by rw[hg];exact iA _ oO
  have hgn:g<=n:=by rw[hg];exact Nat.gcd_le_left _ oO
  have hgd:g<=d:=by rw[hg];exact Nat.gcd_le_right _ oO
  have hgl:=o4 hgn;refine J2 ?_;refine jh (j7 Tryz.call121 rfl (I0 _ _ n d _ (hvn.j5 hS.j5) (hvd.j5 hS.j5) oO oO) ?_);rintro vg w2 ⟨hvg,hB2⟩;replace hS:=hS.ko hB2;rw[<-hg]at hvg;refine V1 ?_;refine kz (λρ w'=>ρ 0= .bool b/\ρ 1=vn/\ρ 2=vd/\ρ 6=pB b1/\ρ 7=vg/\ρ 24= .bool (decide (g≠1))/\w2=w') ?_ ?_
  ·by_cases hl1:1<(kL g).length
   ·refine J1 ?_;refine jp (kj rfl hvg ⟨_,Tryz.underlying138⟩ ?_);refine J2 ?_;refine kN (kb 19 kR rfl dT) (kN (kb 19 kR rfl dT) (kN (kb 19 kR rfl dT) (kN (kb 19 kR rfl dT) (jp (kC (vb rfl dT) rfl ?_)))));refine ja ?_;exact⟨_,rfl,rfl,rfl,rfl,rfl,rfl,vb rfl (ak (A4 hl1)).symm,rfl⟩
   ·have hl2:=E1 hl1 hgp;refine J1 ?_;refine jp (kj rfl hvg ⟨_,Tryz.underlying138⟩ ?_);refine J2 ?_;refine kf (j8 19 kR rfl dF) (ks rfl (kf (j8 19 kR rfl dF) (kp (i:=0) rfl rfl hvg oO dO lP (lD (j8 19 kR rfl dF) (ky (i:=0) 0 rfl kK hvg dO rfl rfl (.inr rfl) (kf (j8 19 kR rfl dF) (uc rfl rfl (jp (kC (vb rfl dF) rfl ?_)))))))));refine ja ?_;exact⟨_,rfl,rfl,rfl,rfl,rfl,rfl,vb rfl (by rw[hl2.2,dP];omega),rfl⟩
  rintro ρ w' ⟨k0,k1,k2,k6,k7,k24,rfl⟩;refine ja ?_;refine kz (λρ w'=>∃(n' d':Nat) (v1 v2:Value),0<n'/\d'≠0/\Nat.gcd n' d'=1/\mkRat (sg b n) d=mkRat (sg b n') d'/\(kL n').length<=4398046511104/\(kL d').length<=4398046511104/\ρ 0= .bool b/\ρ 1=v1/\ρ 2=v2/\ρ 6=pB b1/\
   Sl (uk .u32) 1 w' v1 (kL n')/\Sl (uk .u32) 1 w' v2 (kL d')/\St w w' [(b1,32,j6 ⟨false,⟨#[]⟩,⟨#[]⟩⟩)]) ?_ ?_
  ·refine ja ?_;by_cases hg1:g=1
   ·refine lx k24 (ae (ca hg1)) ?_;refine ja ?_;exact⟨_,rfl,n,d,_,_,oO,h0,by rw[<-hg,hg1],rfl,oO,oO,k0,k1,k2,k6,hvn.j5 hS.j5,hvd.j5 hS.j5,hS⟩
   ·refine k9 k24 (ak hg1) ?_;refine ja ?_;have hnp:0<n/g:=iq hgn hgp;have hdp:0<d/g:=iq hgd hgp;have hln:=o4 (dz n g);have hld:=o4 (dz d g);refine jr ?_;refine jp (ks k1 (jp (ks k7 (jh (j7 Tryz.call122 rfl (yq _ _ n g _ (hvn.j5 hS.j5) hvg hgp oO) ?_)))));rintro r w3 ⟨⟨q1,s1,rfl,hq1,_⟩,hB3⟩;replace hS:=hS.ko hB3;refine Y4 ?_;refine jp (ks k2 (jp (ks k7 (jh (j7 Tryz.call122 rfl (yq _ _ d g _ (hvd.j5 hS.j5) (hvg.j5 hB3) hgp oO) ?_)))));rintro r w4 ⟨⟨q2,s2,rfl,hq2,_⟩,hB4⟩;replace hS:=hS.ko hB4;refine V4 ?_;exact⟨_,rfl,n/g,d/g,q1,q2,hnp,oO,by rw[hg,Nat.gcd_div (iI _ _) (ft _ _),<-hg,Nat.div_self hgp],EQ h0 hg,oO,oO,k0,rfl,rfl,k6,hq1.j5 hB4,hq2,hS⟩
  clear k0 k1 k2 k6 k7 k24;clear hS hvn hvd;rintro ρ w' ⟨n',d',v1,v2,hn',hd',hc,he,hln',hld',k0,k1,k2,k6,hvn,hvd,hS⟩;rw[he,De hn' hd' hc];refine jr ?_;refine jp (ks k0 (jp (ks k1 (jh (j7 Tryz.call79 rfl (Cd _ _ _ hvn (xR _) oO) ?_)))));rintro r w5 ⟨rfl,hB5⟩;replace hS:=hS.ko hB5;rw[qS];have hvd5:=hvd.j5 hB5;have hS0:=hS;replace hS:=St.init w5;refine jp (kQ rfl (Dh _ _) ?_);refine J1 ?_;intro b4 wz5 hS hBz5;refine J1 ?_;intro wz6 hS;refine ja ?_;replace hS:St w5 _ [(_,32,j6 ⟨b,kG n',⟨#[]⟩⟩)]:=hS;refine ja ?_;refine kz (λρ w'=>ρ 2=v2/\ρ 6=pB b1/\ρ 8=pB b4/\ρ 49= .bool (decide (d'≠1))/\wz6=w') ?_ ?_
  ·by_cases hl1:1<(kL d').length
   ·refine jr ?_;refine jp (ks k2 (jp (kj rfl (hvd5.j5 hS.j5) ⟨_,Tryz.underlying138⟩ ?_)));refine J2 ?_;refine kN (kb 44 kR rfl dT) (kN (kb 44 kR rfl dT) (kN (kb 44 kR rfl dT) (kN (kb 44 kR rfl dT) (jp (kC (vb rfl dT) rfl ?_)))));refine ja ?_;exact⟨_,rfl,k2,k6,rfl,vb rfl (ak (A4 hl1)).symm,rfl⟩
   ·have hl2:=E1 hl1 oO;refine jr ?_;refine jp (ks k2 (jp (kj rfl (hvd5.j5 hS.j5) ⟨_,Tryz.underlying138⟩ ?_)));refine J2 ?_;refine kf (j8 44 kR rfl dF) (ks k2 (kf (j8 44 kR rfl dF) (kp (i:=0) rfl rfl (hvd5.j5 hS.j5) oO dO lP (lD (j8 44 kR rfl dF) (ky (i:=0) 0 rfl kK (hvd5.j5 hS.j5) dO rfl rfl (.inr rfl) (kf (j8 44 kR rfl dF) (uc rfl rfl (jp (kC (vb rfl dF) rfl ?_)))))))));refine ja ?_;exact⟨_,rfl,k2,k6,rfl,vb rfl (by rw[hl2.2,dP];omega),rfl⟩
  clear k0 k1 k2 k6;rintro ρ w' ⟨k2,k6,k8,k49,rfl⟩;refine ja ?_;refine kz (λρ w'=>∃b8,ρ 6=pB b1/\ρ 8=pB b8/\St w w' [(b8,32,j6 ⟨b,kG n',if d'=1 then⟨#[]⟩else kG d'⟩),(b1,32,j6 ⟨false,⟨#[]⟩,⟨#[]⟩⟩)]) ?_ ?_
  ·refine ja ?_;by_cases hd1:d'=1
   ·refine lx k49 (ae (ca hd1)) ?_;refine ja ?_;exact⟨_,rfl,_,k6,k8,by rw[aj hd1];exact hS0.join hS⟩
   ·refine k9 k49 (ak hd1) ?_;refine jr ?_;refine jp (ks k2 (jh (j7 Tryz.call79 rfl (Cd _ _ _ (hvd5.j5 hS.j5) (xR _) oO) ?_)));rintro r w6 ⟨rfl,hB6⟩;replace hS:=hS.ko hB6;rw[qS];refine jp (lI k8 ry (jh (nW (k:=0) rfl rfl t9 hS rfl dM rfl ?_)));intro wz7 hS;refine ja ?_;exact⟨_,rfl,_,k6,k8,by rw[ah hd1];exact hS0.join hS⟩
  clear hS hS0 hvd5 hvn hvd;rintro ρ w' ⟨b8,k6,k8,hS⟩;refine jr ?_;refine jq (kX (k:=0) k8 ki hS rfl rfl rfl (.inl rfl) (jh (lG (k:=1) k6 rfl ki hS rfl rfl rfl dM rfl ?_)));intro wz8 hS;refine jt ?_;refine mq (k:=1) rfl k6 ki hS rfl rfl ?_;exact⟨rfl,hS.j5⟩
theorem Ca (n:Int) (w:World) (h1: -9223372036854775808<=n) (h2:n<=9223372036854775807):
  lW Tryz.prog 43 #[.int .i64 n] w λv w'=>v= .int .u64 (n.natAbs:Nat)/\w'=w:=by
 refine enter Tryz.func43 rfl Tryz.ntmps43 rfl ?_;refine V3 ?_;by_cases h:n<0
 ·refine k9 rfl (ak h) ?_;refine J2 ?_;refine jp (OI rfl (r:=(-(n+1))) (by exact pP _ ⟨oO,oO,oO⟩) (jp (kJ rfl Tryz.underlying99 ⟨_,Tryz.underlying2⟩ (r:=(-(n+1))) (by exact fh _ oO) (jp (pe rfl rfl (r:=((n.natAbs:Nat):Int)) (by exact kZ _ ⟨oO,oO,oO⟩) ?_)))));refine J1 ?_;refine jt ?_;refine kD rfl rfl ?_;exact⟨rfl,rfl⟩
 ·refine lx rfl (ae h) ?_;refine J1 ?_;refine jp (kJ rfl Tryz.underlying99 ⟨_,Tryz.underlying2⟩ (r:=((n.natAbs:Nat):Int)) (by exact kZ _ ⟨oO,oO,oO⟩) ?_);refine J1 ?_;refine jt ?_;refine kD rfl rfl ?_;exact⟨rfl,rfl⟩
theorem Q0 (n:Int) (w:World) (h1: -9223372036854775808<=n) (h2:n<=9223372036854775807):
  lW Tryz.prog 76 #[.int .i64 n] w λv w'=>v=lu (j9 (n:Rat))/\Below w.heap.size w w':=by
 have hS:=St.init w;refine enter Tryz.func76 rfl Tryz.ntmps76 rfl ?_;refine J1 ?_;intro b1 wz2 hS hBz2;refine J3 ?_;refine jh (j7 Tryz.call43 rfl (Ca n _ h1 h2) ?_);rintro _ wq3 ⟨rfl,hq3⟩;replace hq3:=hq3.symm;subst hq3;refine jh (j7 Tryz.call42 rfl (ve n.natAbs _ oO) ?_);rintro _ wc4 ⟨rfl,hBc4⟩;replace hS:=hS.ko hBc4;refine jp (kQ rfl (Dh _ _) ?_);refine J1 ?_;intro wz5 hS;refine jt ?_;refine mq (k:=0) rfl rfl ki hS rfl rfl ?_;exact⟨rfl,hS.j5⟩
theorem O3 (b:Bool) (num den:ByteArray) (w:World) (hn:num.size<=4398046511104) (hd:den.size<=4398046511104) (h0:val den≠0):
  lW Tryz.prog 41 #[.bool b,.string num,.string den] w λv w'=>v= .tuple #[lu (j9 (mkRat (sg b (val num)) (val den))),.bool true]/\Below w.heap.size w w':=by
 have hla:=mU num;have hlb:=mU den;have hne:(kL (val den)).length≠0:=λh=>h0 (rF.1 h);have hS:=St.init w;refine enter Tryz.func41 rfl Tryz.ntmps41 rfl ?_;refine J1 ?_;intro b1 wz2 hS hBz2;refine J2 ?_;refine jh (j7 Tryz.call77 rfl (EZ _ _ oO) ?_);rintro vd w2 ⟨hvd,hB2⟩;replace hS:=hS.ko hB2;refine J2 ?_;refine jp (kj rfl hvd ⟨_,Tryz.underlying138⟩ ?_);refine J4 ?_;refine jh (j7 Tryz.call77 rfl (EZ _ _ oO) ?_);rintro vn w3 ⟨hvn,hB3⟩;replace hS:=hS.ko hB3;refine J1 ?_;refine jh (j7 Tryz.call78 rfl (IE b vn vd _ _ _ hvn (hvd.j5 hB3) oO oO h0) ?_);rintro r w4 ⟨rfl,hB4⟩;replace hS:=hS.ko hB4;refine J1 ?_;intro wz3 hS;refine J1 ?_;refine jt ?_;refine nj (k:=0) rfl rfl rfl ki hS rfl rfl ?_;exact⟨rfl,hS.j5⟩
theorem Sg (a:Int) (n:Nat):sg (decide (a<0)!=decide (((n:Nat):Int)<0)) a.natAbs=a:=by
 have h:decide (((n:Nat):Int)<0)=false:=by simp
 rw[h];unfold sg;by_cases ha:a<0<;>simp[ha]<;>omega
theorem GH (a:Int) (n:Nat) (w:World) (h1: -9223372036854775808<=a) (h2:a<=9223372036854775807) (hn0:0<n) (hn:n<=9223372036854775807):
  lW Tryz.prog 23 #[.int .i64 a,.int .i64 n] w λv w'=>v= .tuple #[lu (j9 (mkRat a n)),.bool true]/\Below w.heap.size w w':=by
 have hS:=St.init w;have hs1:=C2 (n:=a.natAbs) oO;have hs2:=C2 (n:=n) oO;have hmk:=λw=>O3 (decide (a<0)!=decide (((n:Nat):Int)<0)) (kG a.natAbs) (kG n) w oO oO (by rw[li];omega);rw[li,li,Sg]at hmk;refine enter Tryz.func23 rfl Tryz.ntmps23 rfl ?_;refine J1 ?_;intro b1 wz2 hS hBz2;refine J5 ?_;refine jp (Co rfl rfl Tryz.underlying4 ?_);refine J1 ?_;refine jh (j7 Tryz.call43 rfl (Ca a _ h1 h2) ?_);rintro _ wq3 ⟨rfl,hq3⟩;replace hq3:=hq3.symm;subst hq3;refine jh (j7 Tryz.call42 rfl (ve a.natAbs _ oO) ?_);rintro _ wc4 ⟨rfl,hBc4⟩;replace hS:=hS.ko hBc4;refine J1 ?_;refine jh (j7 Tryz.call43 rfl (Ca n _ oO oO) ?_);rintro _ wq5 ⟨rfl,hq5⟩;replace hq5:=hq5.symm;subst hq5;rw[ga];refine jh (j7 Tryz.call42 rfl (ve n _ oO) ?_);rintro _ wc6 ⟨rfl,hBc6⟩;replace hS:=hS.ko hBc6;refine jh (j7 Tryz.call41 rfl (hmk _) ?_);rintro _ wc7 ⟨rfl,hBc7⟩;replace hS:=hS.ko hBc7;refine J3 ?_;intro wz8 hS;refine J1 ?_;refine jt ?_;refine nj (k:=0) rfl rfl rfl ki hS rfl rfl ?_;exact⟨rfl,hS.j5⟩
theorem UY (a b:ByteArray):a.toList=b.toList↔a=b:=by
 have:=NP a b;rw[fZ]at this;simpa using this
theorem AV (d:Nat) (r s:RR) (w:World):(Op.equalIn (d+2) 32 (lu r) (lu s)).run Tryz.prog w= .ok (decide (r=s)) w:=by
 unfold lu;rw[run_equalIn_agg (P:=Tryz.prog) w (d+1) 32 _ _ kR kR];have hb:Tryz.prog.underlying 4=some .bool:=by kernel_rfl
 have hs:Tryz.prog.underlying 9=some .string:=by kernel_rfl
 simp only[Program.fieldsOf,Tryz.underlying32];simp[Op.eqFields,part,run_equalIn_bool' (P:=Tryz.prog) w _ _ _ _ hb,run_equalIn_string (P:=Tryz.prog) w _ _ _ _ hs,UY];cases r;cases s
 rename_i a b c a' b' c';simp only[RR.mk.injEq];by_cases h1:a=a'<;>by_cases h2:b=b'<;>by_cases h3:c=c'<;>simp[h1,h2,h3]
section
variable {N : Nat} {ρ : Nat → Value} {d : Option Tmp} {ty : TypeId} {pos : String} {aft : Array Edge} {g : Option (Nat × Bool)} {x y : Operand} {t' : TypeId} {K : Value → Prop}
theorem NU {r s:RR} (hx:ev N ρ x=lu r) (hy:ev N ρ y=lu s) (h:K (.bool (decide (r=s)))):mb Tryz.prog N ρ ⟨d,.binOp .eql 32 x y t',ty,pos,aft,g⟩ K:=by
 refine⟨_,λw=> ?_,h⟩;have h1:(eqGuard .eql 32 x y (lu r) (lu s)).run Tryz.prog w= .ok () w:=run_eqGuard_agg (P:=Tryz.prog) w .eql 32 x y _ _ kR;have h2:(binOp .eql 32 (lu r) (lu s)).run Tryz.prog w= .ok (.bool (decide (r=s))) w:=by
  have:=run_eql_struct (P:=Tryz.prog) w 32 #[.bool r.neg,.string r.num,.string r.den] #[.bool s.neg,.string s.num,.string s.den];have h3:=AV 9998 r s w;unfold lu at*;rw[this,h3];rfl
 simp only[execOp,hx,hy,dN,h1,h2,di];rfl
theorem KH {r s:RR} (hx:ev N ρ x=lu r) (hy:ev N ρ y=lu s) (h:K (.bool (decide (r≠s)))):mb Tryz.prog N ρ ⟨d,.binOp .neq 32 x y t',ty,pos,aft,g⟩ K:=by
 refine⟨_,λw=> ?_,h⟩;have h1:(eqGuard .neq 32 x y (lu r) (lu s)).run Tryz.prog w= .ok () w:=run_eqGuard_agg (P:=Tryz.prog) w .neq 32 x y _ _ kR;have h2:(binOp .neq 32 (lu r) (lu s)).run Tryz.prog w= .ok (.bool (decide (r≠s))) w:=by
  have:=run_neq_struct (P:=Tryz.prog) w 32 #[.bool r.neg,.string r.num,.string r.den] #[.bool s.neg,.string s.num,.string s.den];have h3:=AV 9998 r s w;unfold lu at*;rw[this,h3];simp[Result.andThen]
 simp only[execOp,hx,hy,dN,h1,h2,di];rfl
end
theorem Ba (va vb:Value) (A B:List RR) (w:World) (ha:Sl j6 3 w va A) (hb:Sl j6 3 w vb B):
  lW Tryz.prog 17 #[va,vb] w λv w'=>v= .bool (decide (A=B))/\Below w.heap.size w w':=by
 have hS:=St.init w;have hla:=ha.maxLen;have hlb:=hb.maxLen;refine enter Tryz.func17 rfl Tryz.ntmps17 rfl ?_;refine J2 ?_;refine jp (kj rfl (ha.j5 hS.j5) ⟨_,Tryz.underlying34⟩ ?_);refine J1 ?_;refine jp (kj rfl (hb.j5 hS.j5) ⟨_,Tryz.underlying34⟩ ?_);refine V1 ?_;by_cases hl:A.length=B.length
 ·refine V2 ?_;refine kx (σ:=Nat) (λi ρ w'=>i<=A.length/\A.take i=B.take i/\ρ 0=va/\ρ 1=vb/\ρ 5=iB i/\St w w' []) (λi=>A.length-i) 0
   ⟨ax _,rfl,rfl,rfl,rfl,hS⟩ ?_
  clear hS;rintro i ρ w2 ⟨hi,hq,h0,h1,h5,hS⟩;refine J2 ?_;refine jp (kj rfl (ha.j5 hS.j5) ⟨_,Tryz.underlying34⟩ ?_);refine V1 ?_;by_cases hlt:i<A.length
  ·refine V1 ?_;have hltb:i<B.length:=oO;refine ja ?_;refine kE [jo 0,jo 1,jo 2,ju 3,jo 4,jo 5,jo 6,ju 7,jo 8] kR kR hS ?_;intro wz1 hS hBz1;refine J2 ?_;refine jl rfl (kp (i:=i) rfl rfl (ha.j5 hS.j5) oO dO kM (jm rfl (ky (i:=i) kP rfl ki (ha.j5 hS.j5) dO rfl rfl (.inl rfl) ?_)));refine J2 ?_;refine jl rfl (kp (i:=i) rfl rfl (hb.j5 hS.j5) oO dO kM (jm rfl (ky (i:=i) kP rfl ki (hb.j5 hS.j5) dO rfl rfl (.inl rfl) (jl rfl (KH rfl rfl ?_)))));refine ja ?_;have ta:=lC A i kP hlt;have tb:=lC B i kP hltb;by_cases he:A.getD i kP=B.getD i kP
   ·refine lx rfl (ae (ca he)) ?_;refine V3 ?_;exact⟨i+1,_,rfl,⟨hlt,by rw[ta,tb,hq,he],h0,h1,vi rfl oO,hS⟩,oO⟩
   ·refine k9 rfl (ak he) ?_;refine J1 ?_;refine jt ?_;refine kD rfl rfl ?_;refine⟨bI Value.bool ?_,hS.j5⟩;symm;rw[ef]
    intro h;rw[h]at he;exact he rfl
  ·refine J1 ?_;refine jt ?_;obtain rfl:i=A.length:=oO;rw[bK,hl,bK]at hq;refine J1 ?_;refine jt ?_;refine kD rfl rfl ?_;exact⟨bI Value.bool (ak hq).symm,hS.j5⟩
 ·refine J2 ?_;refine jt ?_;refine kD rfl rfl ?_;refine⟨bI Value.bool ?_,hS.j5⟩;symm;rw[ef]
  intro h;rw[h]at hl;exact hl rfl
end Go.Proofs.YtoeiejliehgopaaGreatDoor
namespace Go.Sx
open Go Go.RowKit
def RB (k:Nat) (l:List RR):Prop:=∀r∈l,Lr r<=k
end Go.Sx
namespace Go.Proofs.YtoeiejliehgopaaGreatDoor
open Go Go.RowKit Go.Sx
theorem Xt (p q:Rat):L (DX p q)<=max (L p) (L q):=by unfold DX;split<;>omega
theorem VZ (p q:Rat):L (zw p q)<=max (L p) (L q):=by unfold zw;split<;>omega
section
variable {P : Program} {N : Nat} {ρ : Nat → Value} {w : World}
  {d : Option Tmp} {ty : TypeId} {pos : String} {aft : Array Edge} {g : Option (Nat × Bool)} {x y : Operand} {t e : TypeId} {K : Value → Prop}
theorem uq {b n i sz:Nat} {zz:List Value} {kk:IntKind} {m:Int} (hx:ev N ρ x= .pointer (some ⟨b,0,none⟩)) (hy:ev N ρ y= .int kk m) (hm:m=(i:Int)) (hi:i<n)
  (ht:P.underlying t=some (.array n e)) (he:lS P e=some (sz,false,zz)) (h:K (.pointer (some ⟨b,i*sz,none⟩))):
  mb P N ρ ⟨d,.indexAddr t x y,ty,pos,aft,g⟩ K:=by
 obtain⟨ii,dd,zv,hi1,hu,_,hsz,_⟩:=qX he;subst hm hsz;refine⟨_,λw=> ?_,h⟩;simp[execOp,hx,hy,Instr.indexAt,asIntOf,cK ht,hi,sizeOf,typeInfo,hi1,add_lit,Instr.sureAddr]
end
theorem tZ (xs:List RR):∀u∈xs.flatMap j6,u.oneCell'=true:=by
 intro u hu;obtain⟨x,_,hx⟩:=du.1 hu;simp only[j6,bC,ct,fo]at hx;rcases hx with rfl|rfl|rfl<;>rfl
theorem Rp:toQ kP=0:=by rw[<-toQ_ofQ 0,oC];rfl
end Go.Proofs.YtoeiejliehgopaaGreatDoor
namespace Go.Sx
open Go Go.RowKit Go.Proofs.YtoeiejliehgopaaGreatDoor
def ku {α:Type} (n:Nat) (f:Nat->α):List α:=(List.range n).map f
theorem ka {α:Type} (n:Nat) (f:Nat->α):(ku n f).length=n:=by simp[ku]
theorem kw {α:Type} {n:Nat} (f:Nat->α) (d:α) {i:Nat} (h:i<n):(ku n f).getD i d=f i:=by
 simp[ku,ai,h]
theorem kB {α:Type} {n:Nat} {f g:Nat->α} (h:∀i,i<n->f i=g i):ku n f=ku n g:=by
 unfold ku;exact fS λi hi=>h i (cS.1 hi)
theorem ur {α:Type} (n:Nat) (d:α):List.replicate n d=ku n λ_=>d:=by
 refine fa (by simp[ku]) λi h1 h2=> ?_;simp[ku]
theorem nx {α:Type} {n:Nat} (f:Nat->α) (i:Nat) (v:α):(ku n f).set i v=ku n λj=>if j=i then v else f j:=by
 refine fa (by simp[ku]) λj h1 h2=> ?_;rw[List.getElem_set];simp only[ku,en,jA];by_cases h:i=j
 ·subst h;simp
 ·rw[ah h,ah (λe=>h e.symm)]
theorem Ki {α:Type} (l:List α) (d:α):l=ku l.length λi=>l.getD i d:=by
 refine fa (by simp[ku]) λi h1 h2=> ?_;simp[ku,ai,h1]
theorem rD {α:Type} {n:Nat} {f:Nat->α} {x:α} (h:x∈ku n f):∃i,i<n/\f i=x:=by
 obtain⟨i,hi,e⟩:=bT.1 h;exact⟨i,cS.1 hi,e⟩
theorem nZ {α:Type} (n:Nat) (f:Nat->α):ku (n+1) f=ku n f++[f n]:=by
 simp[ku,iT]
theorem KS (m n:Nat) (hm:m<2^63) (hn:n<2^63):pO .and .i64 m n=((m&&&n:Nat):Int):=by
 have hlt:m&&&n<2^63:=bY Nat.and_le_left hm;show IntKind.wrap .i64 (((BitVec.ofInt 64 (m:Int)&&&BitVec.ofInt 64 (n:Int)).toNat:Nat):Int)=_;rw[fN,fN,BitVec.toNat_and,gf,gf,aZ oO,aZ oO];exact pP _ ⟨rfl,oO,oO⟩
open Go Go.RowKit
section
variable {P : Program} {N : Nat} {ρ : Nat → Value} {w w0 : World} {H : List kV}
  {d : Option Tmp} {ty : TypeId} {pos : String} {aft : Array Edge} {g : Option (Nat × Bool)} {x y : Operand} {t e : TypeId} {v vs : Value} {K2 : Value → World → Prop}
theorem tX {α:Type} {enc:α->List Value} {size:Nat} {X:List α} {L:List kV} {i:Nat} {zz:List Value} {agg:Bool} (u:α) (hu:∀x,(enc x).length=size) (hx:ev N ρ x= .pointer (some ((tW vs).add (i*size)))) (hy:ev N ρ y=v) (ht:lS P t=some (size,agg,zz)) (hG:Gl enc e size vs X L) (hS:St w0 w (H++L))
  (hi:i<X.length) (hv:v.cells.toList=enc u) (h1:(enc u).all (·.oneCell')=true)
  (h:∀w',(∃L',Gl enc e size vs (X.set i u) L'/\St w0 w' (H++L'))->K2 undef w'):pi P N ρ w ⟨d,.store t x y,ty,pos,aft,g⟩ K2:=by
 obtain⟨hX,⟨rfl,h0,_⟩|⟨b,cap,spare,rfl,rfl,h2,h3,h4⟩⟩:=hG
 ·omega
 have hx':ev N ρ x= .pointer (some ⟨b,i*size,none⟩):=by
  rw[hx];show Value.pointer (some ((⟨b,0,none⟩:Addr).add (i*size)))=_;rw[add_lit,bZ]
 have hk:(H++[(b,e,X.flatMap enc++spare)])[H.length]?=some (b,e,X.flatMap enc++spare):=by simp
 have hfit:i*size+size<=(X.flatMap enc).length:=by
  rw[hX];have:(i+1)*size<=X.length*size:=aH _ hi;rw[bl]at this;omega
 refine lG hx' hy ht hS hk hv (hu u) (by rw[aw];omega) h1 (λw' hS'=> ?_);have hsp:splice (X.flatMap enc++spare) (i*size) (enc u)=(X.set i u).flatMap enc++spare:=by
  rw[<-xd hu X u hi];unfold splice;rw[fD oO,fE (by rw[hu];exact hfit)];simp only[aF]
 rw[hsp]at hS';refine h w' ⟨[(b,e,(X.set i u).flatMap enc++spare)],⟨?_,.inr ⟨b,cap,spare,by rw[cj],rfl,by rw[cj];exact h2,h3,?_⟩⟩,hS'.cast (by simp)⟩
 ·rw[cj,<-hX,<-xd hu X u hi];unfold splice;simp only[aw,cG,eN,hu];omega
 ·rw[<-h4,aw,aw,<-xd hu X u hi];unfold splice;simp only[aw,cG,eN,hu];omega
end
end Go.Sx
namespace Go.Proofs.YtoeiejliehgopaaGreatDoor
open Go Go.RowKit Go.Sx
def tg (c:Int):List Value:=[.int .i64 c]
end Go.Proofs.YtoeiejliehgopaaGreatDoor
