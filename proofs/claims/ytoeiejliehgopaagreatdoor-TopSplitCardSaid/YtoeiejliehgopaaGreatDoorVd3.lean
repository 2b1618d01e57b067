/-
  Part 3 of the proof of TopSplit: framework, walks, plain laws.
-/
import Derived.Test.YtoeiejliehgopaaGreatDoorVd2
set_option maxRecDepth 20000
set_option maxHeartbeats 8000000
namespace Go.Proofs.YtoeiejliehgopaaGreatDoor
open Go Go.RowKit Go.Sx
theorem pR (r s:RR) (w:World) (hr:Lr r+Lr s<=MX):
  mb Tryz.prog 50 #[lC r,lC s] w λv w'=>v= .int .i64 (tk (toQ r) (toQ s))/\Below w.heap.size w w':=by
 have hM:MX=1099511627776:=rfl;have hL1:=uM r;have hL2:=uM s;have hS:=St.init w;refine enter Tryz.func50 rfl Tryz.ntmps50 rfl ?_;refine jr ?_;refine jh (lx (new:=ke r) rfl rfl hS ?_);intro b1 wz2 hS hBz2;refine jh (lx (new:=ke s) rfl rfl hS ?_);intro b3 wz4 hS hBz4;refine V1 ?_;refine kK [ju 0,ju 2,jv 1,jv 3,jw 4,jw 5] kR kR hS ?_;intro wz5 hS hBz5;refine J2 ?_;refine jn rfl (kf Tryz.call28 rfl (om r _ oO) ?_);rintro _ wc6 ⟨rfl,hBc6⟩;replace hS:=hS.kx hBc6;refine⟨hBc6,?_⟩;refine jn rfl (kf Tryz.call28 rfl (om s _ oO) ?_);rintro _ wc7 ⟨rfl,hBc7⟩;replace hS:=hS.kx hBc7;refine⟨hBc7,?_⟩;refine J1 ?_;intro wz8 hS;refine J1 ?_;intro wz9 hS;refine ja ?_;replace hS:St w _ [(b3,32,ke (ki (toQ s))),(b1,32,ke (ki (toQ r)))]:=hS;obtain⟨p,hp⟩:=jz (toQ r);obtain⟨q,hq⟩:=jz (toQ s);rw[<-hp]at hS hL1⊢;rw[<-hq]at hS hL2⊢;have hn1:=uf p;have hn2:=uf q;have hd1:=tB p;have hd2:=tB q;have hm1:=lY p.num.natAbs q.den;have hm2:=lY q.num.natAbs p.den;refine ja ?_;refine kK [ju 0,ju 2,jv 1,jv 3,jo 4,jo 5] kR kR hS ?_;intro wz10 hS hBz10;refine J2 ?_;refine jn rfl (kf Tryz.call89 rfl (AQ p _) ?_);rintro _ wc11 ⟨rfl,hBc11⟩;replace hS:=hS.kx hBc11;refine⟨hBc11,?_⟩;refine jn rfl (kf Tryz.call89 rfl (AQ q _) ?_);rintro _ wc12 ⟨rfl,hBc12⟩;replace hS:=hS.kx hBc12;refine⟨hBc12,?_⟩;refine V5 ?_;by_cases h:qW p=qW q
 ·refine lH rfl (ae (aQ h)) ?_;refine ja ?_;refine kK [jo 0,ju 1,ju 2,jo 5,ju 6,ju 7,jv 3,jv 4,jv 8,jv 9,jv 10,jo 11] kR kR hS ?_;intro wz13 hS hBz13;refine J6 ?_;refine jn rfl (kf Tryz.call31 rfl (t7 q _) ?_);rintro _ wc14 ⟨rfl,hBc14⟩;replace hS:=hS.kx hBc14;refine⟨hBc14,?_⟩;refine jn rfl (kf Tryz.call30 rfl (wK p.num.natAbs q.den _ oO oO) ?_);rintro _ wc15 ⟨rfl,hBc15⟩;replace hS:=hS.kx hBc15;refine⟨hBc15,?_⟩;refine jn rfl (kf Tryz.call31 rfl (t7 p _) ?_);rintro _ wc16 ⟨rfl,hBc16⟩;replace hS:=hS.kx hBc16;refine⟨hBc16,?_⟩;refine jn rfl (kf Tryz.call30 rfl (wK q.num.natAbs p.den _ oO oO) ?_);rintro _ wc17 ⟨rfl,hBc17⟩;replace hS:=hS.kx hBc17;refine⟨hBc17,?_⟩;refine jn rfl (kf Tryz.call90 rfl (VC _ _ _ oO oO) ?_);rintro _ wq18 ⟨rfl,hq18⟩;replace hq18:=hq18.symm;subst hq18;refine⟨Below.refl _ _,?_⟩;refine V3 ?_;have hcl:=R7 h;by_cases hneg:p.num<0
  ·refine lu rfl (ai hneg) ?_;refine J1 ?_;refine jp (Ot rfl (r:=(-sV (p.num.natAbs*q.den) (q.num.natAbs*p.den))) (by unfold sV;split<;>(try split)<;>rfl) ?_);refine J1 ?_;refine jt ?_;refine kJ rfl rfl ?_;rw[aj (by simpa using hneg)]at hcl;exact⟨vi rfl hcl,hS.kb⟩
  ·refine lH rfl (ae hneg) ?_;refine J2 ?_;refine jt ?_;refine kJ rfl rfl ?_;rw[ah (by simpa using hneg)]at hcl;exact⟨vi rfl hcl,hS.kb⟩
 ·refine lu rfl (ai h) ?_;refine V3 ?_;have hcs:=QZ h;by_cases hlt:qW p<qW q
  ·refine lu rfl (ai hlt) ?_;refine J1 ?_;refine jt ?_;refine kJ rfl rfl ?_;rw[aj hlt]at hcs;exact⟨vi rfl hcs.symm,hS.kb⟩
  ·refine lH rfl (ae hlt) ?_;refine J1 ?_;refine jt ?_;refine kJ rfl rfl ?_;rw[ah hlt]at hcs;exact⟨vi rfl hcs.symm,hS.kb⟩
theorem Je (p q:Rat) (w:World) (hL:L p+L q<=MX):
  mb Tryz.prog 36 #[lC (ki p),lC (ki q)] w λv w'=>v=lC (ki (p+q))/\Below w.heap.size w w':=by
 have hM:MX=1099511627776:=rfl;have hn1:=uf p;have hn2:=uf q;have hd1:=tB p;have hd2:=tB q;have hm1:=lY p.num.natAbs q.den;have hm2:=lY q.num.natAbs p.den;have hm3:=lY p.den q.den;have hS:=St.init w;refine enter Tryz.func36 rfl Tryz.ntmps36 rfl ?_;refine jr ?_;refine jh (lx (new:=ke (ki p)) rfl rfl hS ?_);intro b1 wz2 hS hBz2;refine jh (lx (new:=ke (ki q)) rfl rfl hS ?_);intro b3 wz4 hS hBz4;refine J1 ?_;intro b5 wz6 hS hBz6;refine ja ?_;refine kK [jo 0,ju 1,jo 2,ju 3,jo 4,jo 5,jo 6] kR kR hS ?_;intro wz7 hS hBz7;refine Xp ?_;refine jp (rR rfl rfl ?_);refine ja ?_;refine kG (λρ w'=>∃X Y D:Nat,D≠0/\p=mkRat (sg (decide (p.num<0)) X) D/\q=mkRat (sg (decide (q.num<0)) Y) D/\(kQ X).size<=MX/\(kQ Y).size<=MX/\(kQ D).size<=MX/\
  ρ 2=pB b1/\ρ 3=pB b3/\ρ 4=pB b5/\ρ 5= .string (kQ X)/\ρ 6= .string (kQ Y)/\ρ 7= .string (kQ D)/\
  St w w' [(b5,32,ke ⟨false,⟨#[]⟩,⟨#[]⟩⟩),(b3,32,ke (ki q)),(b1,32,ke (ki p))]) ?_ ?_
 ·refine ja ?_;by_cases hden:p.den=q.den
  ·refine lH rfl (ae (aQ (A6.2 hden))) ?_;refine J1 ?_;refine jh (kf Tryz.call31 rfl (t7 p _) ?_);rintro _ wc8 ⟨rfl,hBc8⟩;replace hS:=hS.kx hBc8;refine V1 ?_;exact⟨_,rfl,p.num.natAbs,q.num.natAbs,p.den,p.den_nz,(Hk p).symm,by rw[hden];exact(Hk q).symm,oO,oO,oO,rfl,rfl,rfl,rfl,rfl,rfl,hS⟩
  ·refine lu rfl (ai (λg=>hden (A6.1 g))) ?_;refine ja ?_;refine kK [jo 0,ju 1,jo 4,ju 5,jv 2,jv 3,jv 6,jv 7,jo 8,jo 9] kR kR hS ?_;intro wz9 hS hBz9;refine J4 ?_;refine jn rfl (kf Tryz.call31 rfl (t7 q _) ?_);rintro _ wc10 ⟨rfl,hBc10⟩;replace hS:=hS.kx hBc10;refine⟨hBc10,?_⟩;refine jn rfl (kf Tryz.call30 rfl (wK p.num.natAbs q.den _ oO oO) ?_);rintro _ wc11 ⟨rfl,hBc11⟩;replace hS:=hS.kx hBc11;refine⟨hBc11,?_⟩;refine jn rfl (kf Tryz.call31 rfl (t7 p _) ?_);rintro _ wc12 ⟨rfl,hBc12⟩;replace hS:=hS.kx hBc12;refine⟨hBc12,?_⟩;refine jn rfl (kf Tryz.call30 rfl (wK q.num.natAbs p.den _ oO oO) ?_);rintro _ wc13 ⟨rfl,hBc13⟩;replace hS:=hS.kx hBc13;refine⟨hBc13,?_⟩;refine V2 ?_;refine kK [ju 0,ju 2,jv 1,jv 3,jv 4,jo 5] kR kR hS ?_;intro wz14 hS hBz14;refine J2 ?_;refine jn rfl (kf Tryz.call31 rfl (t7 p _) ?_);rintro _ wc15 ⟨rfl,hBc15⟩;replace hS:=hS.kx hBc15;refine⟨hBc15,?_⟩;refine jn rfl (kf Tryz.call31 rfl (t7 q _) ?_);rintro _ wc16 ⟨rfl,hBc16⟩;replace hS:=hS.kx hBc16;refine⟨hBc16,?_⟩;refine jn rfl (kf Tryz.call30 rfl (wK p.den q.den _ oO oO) ?_);rintro _ wc17 ⟨rfl,hBc17⟩;replace hS:=hS.kx hBc17;refine⟨hBc17,?_⟩;refine V1 ?_;exact⟨_,rfl,p.num.natAbs*q.den,q.num.natAbs*p.den,p.den*q.den,gf p.den_nz q.den_nz,(yV p q.den_nz).symm,by rw[bF p.den];exact(yV q p.den_nz).symm,oO,oO,oO,rfl,rfl,rfl,rfl,rfl,rfl,hS⟩
 clear hS hm1 hm2 hm3;rintro ρ w' ⟨X,Y,D,hD,hp,hq,sX,sY,sD,g2,g3,g4,g5,g6,g7,hS⟩;have hsum:=uz X Y;have hXY:=Ds (sg (decide (p.num<0)) X) (sg (decide (q.num<0)) Y) hD;rw[<-hp,<-hq]at hXY;clear hp hq;rw[hXY];have hD2:val (kQ D)≠0:=by rw[lF];exact hD
 refine jr ?_;refine jp (lD g2 wm ?_);refine J1 ?_;refine jp (lD g3 wm ?_);refine J1 ?_;refine jp (V8 rfl rfl Tryz.underlying4 ?_);refine ja ?_;by_cases hneg:decide (p.num<0)=decide (q.num<0)
 ·have hb:(decide (p.num<0)==decide (q.num<0))=true:=by rw[hneg];exact beq_self_eq_true _
  refine lu rfl (hb) ?_;refine ja ?_;have hred:=λw=>sF (decide (p.num<0)) (kQ (X+Y)) (kQ D) w oO oO hD2;rw[lF,lF]at hred;refine ja ?_;refine kK [jo 0,ju 1,jo 2,jo 3,jo 5,jv 4,jv 6,jw 7] kR kR hS ?_;intro wz18 hS hBz18;refine jl rfl (lD g2 wm ?_);refine J1 ?_;refine jl rfl (kw g5 (jl rfl (kw g6 (jl rfl (kw g7 (jn rfl (kf Tryz.call74 rfl (Te X Y _ oO oO) ?_)))))));rintro _ wc19 ⟨rfl,hBc19⟩;replace hS:=hS.kx hBc19;refine⟨hBc19,?_⟩;refine jn rfl (kf Tryz.call29 rfl (hred _) ?_);rintro _ wc20 ⟨rfl,hBc20⟩;replace hS:=hS.kx hBc20;refine⟨hBc20,?_⟩;refine jx rfl (lX (k:=0) g4 rfl kt hS rfl rfl rfl dM rfl ?_);intro wz21 hS;refine jt ?_;refine mA (k:=0) rfl g4 kt hS rfl rfl ?_;rw[<-hneg,TS];exact⟨rfl,hS.kb⟩
 ·have hb:(decide (p.num<0)==decide (q.num<0))=false:=by rw[beq_eq_false_iff_ne];exact hneg
  refine lH rfl (hb) ?_;refine ja ?_;by_cases hle:Y<=X
  ·have hs1:=me (Nat.sub_le X Y);have hred:=λw=>sF (decide (p.num<0)) (kQ (X-Y)) (kQ D) w oO oO hD2;rw[lF,lF]at hred;refine jr ?_;refine jp (kw g5 (jp (kw g6 (jh (kf Tryz.call75 rfl (KK X Y _ oO oO hle) ?_)))));rintro _ wc22 ⟨rfl,hBc22⟩;replace hS:=hS.kx hBc22;refine V6 ?_;refine lu rfl (rfl) ?_;refine jr ?_;refine jp (lD g2 wm ?_);refine J2 ?_;refine jp (kw g7 (jh (kf Tryz.call29 rfl (hred _) ?_)));rintro _ wc23 ⟨rfl,hBc23⟩;replace hS:=hS.kx hBc23;refine jh (lX (k:=0) g4 rfl kt hS rfl rfl rfl dM rfl ?_);intro wz24 hS;refine jt ?_;refine mA (k:=0) rfl g4 kt hS rfl rfl ?_;rw[UQ hneg hle];exact⟨rfl,hS.kb⟩
  ·have hs1:=me (Nat.sub_le Y X);have hred:=λw=>sF (decide (q.num<0)) (kQ (Y-X)) (kQ D) w oO oO hD2;rw[lF,lF]at hred;refine jr ?_;refine jp (kw g5 (jp (kw g6 (jh (kf Tryz.call75 rfl (Ib X Y _ oO oO oO) ?_)))));rintro _ wc25 ⟨rfl,hBc25⟩;replace hS:=hS.kx hBc25;refine V6 ?_;refine lH rfl (rfl) ?_;refine jr ?_;refine jp (kw g6 (jp (kw g5 (jh (kf Tryz.call75 rfl (KK Y X _ oO oO oO) ?_)))));rintro _ wc26 ⟨rfl,hBc26⟩;replace hS:=hS.kx hBc26;refine Y5 ?_;refine jp (lD g3 wm ?_);refine J2 ?_;refine jp (kw g7 (jh (kf Tryz.call29 rfl (hred _) ?_)));rintro _ wc27 ⟨rfl,hBc27⟩;replace hS:=hS.kx hBc27;refine jh (lX (k:=0) g4 rfl kt hS rfl rfl rfl dM rfl ?_);intro wz28 hS;refine jt ?_;refine mA (k:=0) rfl g4 kt hS rfl rfl ?_;rw[SB hneg oO];exact⟨rfl,hS.kb⟩
theorem ou (r s:RR) (w:World) (hr:Lr r+Lr s<=MX):
  mb Tryz.prog 18 #[lC r,lC s] w λv w'=>v=lC (ki (toQ r+toQ s))/\Below w.heap.size w w':=by
 have hL1:=uM r;have hL2:=uM s;have hS:=St.init w;refine enter Tryz.func18 rfl Tryz.ntmps18 rfl ?_;refine jr ?_;refine jh (lx (new:=ke r) rfl rfl hS ?_);intro b1 wz2 hS hBz2;refine jh (lx (new:=ke s) rfl rfl hS ?_);intro b3 wz4 hS hBz4;refine J1 ?_;intro b5 wz6 hS hBz6;refine ja ?_;refine kK [ju 0,ju 2,jv 1,jv 3,jv 4,jw 5] kR kR hS ?_;intro wz7 hS hBz7;refine J2 ?_;refine jn rfl (kf Tryz.call28 rfl (om r _ oO) ?_);rintro _ wc8 ⟨rfl,hBc8⟩;replace hS:=hS.kx hBc8;refine⟨hBc8,?_⟩;refine jn rfl (kf Tryz.call28 rfl (om s _ oO) ?_);rintro _ wc9 ⟨rfl,hBc9⟩;replace hS:=hS.kx hBc9;refine⟨hBc9,?_⟩;refine jn rfl (kf Tryz.call36 rfl (Je (toQ r) (toQ s) _ oO) ?_);rintro _ wc10 ⟨rfl,hBc10⟩;replace hS:=hS.kx hBc10;refine⟨hBc10,?_⟩;refine J1 ?_;intro wz11 hS;refine jt ?_;refine mA (k:=0) rfl rfl kt hS rfl rfl ?_;exact⟨rfl,hS.kb⟩
theorem mI (r s:RR) (w:World) (hr:Lr r+Lr s<=MX):
  mb Tryz.prog 16 #[lC r,lC s] w λv w'=>v=lC (ki (toQ r-toQ s))/\Below w.heap.size w w':=by
 have hL1:=uM r;have hL2:=uM s;have hL3:=Cs (toQ s);have hS:=St.init w;refine enter Tryz.func16 rfl Tryz.ntmps16 rfl ?_;refine jr ?_;refine jh (lx (new:=ke r) rfl rfl hS ?_);intro b1 wz2 hS hBz2;refine jh (lx (new:=ke s) rfl rfl hS ?_);intro b3 wz4 hS hBz4;refine J1 ?_;intro b5 wz6 hS hBz6;refine ja ?_;refine kK [ju 0,ju 2,jv 1,jv 3,jv 4,jv 5,jw 6] kR kR hS ?_;intro wz7 hS hBz7;refine J2 ?_;refine jn rfl (kf Tryz.call28 rfl (om r _ oO) ?_);rintro _ wc8 ⟨rfl,hBc8⟩;replace hS:=hS.kx hBc8;refine⟨hBc8,?_⟩;refine jn rfl (kf Tryz.call28 rfl (om s _ oO) ?_);rintro _ wc9 ⟨rfl,hBc9⟩;replace hS:=hS.kx hBc9;refine⟨hBc9,?_⟩;refine jn rfl (kf Tryz.call37 rfl (ES (toQ s) _) ?_);rintro _ wc10 ⟨rfl,hBc10⟩;replace hS:=hS.kx hBc10;refine⟨hBc10,?_⟩;refine jn rfl (kf Tryz.call36 rfl (Je (toQ r) (-toQ s) _ oO) ?_);rintro _ wc11 ⟨rfl,hBc11⟩;replace hS:=hS.kx hBc11;refine⟨hBc11,?_⟩;refine J1 ?_;intro wz12 hS;refine jt ?_;refine mA (k:=0) rfl rfl kt hS rfl rfl ?_;rw[ib];exact⟨rfl,hS.kb⟩
def z6 (p q:Rat):Rat:=if p<=q then p else q
def DO (p q:Rat):Rat:=if q<=p then p else q
theorem L7 (r s:RR) (w:World) (hr:Lr r+Lr s<=MX):
  mb Tryz.prog 129 #[lC r,lC s] w λv w'=>v=lC (ki (z6 (toQ r) (toQ s)))/\Below w.heap.size w w':=by
 have hS:=St.init w;refine enter Tryz.func129 rfl Tryz.ntmps129 rfl ?_;refine jr ?_;refine jh (lx (new:=ke r) rfl rfl hS ?_);intro b1 wz2 hS hBz2;refine jh (lx (new:=ke s) rfl rfl hS ?_);intro b3 wz4 hS hBz4;refine J1 ?_;intro b5 wz6 hS hBz6;refine J2 ?_;refine jh (kf Tryz.call50 rfl (pR r s _ hr) ?_);rintro _ wc7 ⟨rfl,hBc7⟩;replace hS:=hS.kx hBc7;refine V1 ?_;by_cases h:toQ r<=toQ s
 ·refine lu rfl (ai (Ku.2 h)) ?_;refine J1 ?_;refine jh (kf Tryz.call28 rfl (om r _ oO) ?_);rintro _ wc8 ⟨rfl,hBc8⟩;replace hS:=hS.kx hBc8;refine J1 ?_;intro wz9 hS;refine jt ?_;refine mA (k:=0) rfl rfl kt hS rfl rfl ?_;exact⟨by unfold z6;rw[aj h];rfl,hS.kb⟩
 ·refine lH rfl (ae (λg=>h (Ku.1 g))) ?_;refine J1 ?_;refine jh (kf Tryz.call28 rfl (om s _ oO) ?_);rintro _ wc10 ⟨rfl,hBc10⟩;replace hS:=hS.kx hBc10;refine J1 ?_;intro wz11 hS;refine jt ?_;refine mA (k:=0) rfl rfl kt hS rfl rfl ?_;exact⟨by unfold z6;rw[ah h];rfl,hS.kb⟩
theorem Fv (r s:RR) (w:World) (hr:Lr r+Lr s<=MX):
  mb Tryz.prog 52 #[lC r,lC s] w λv w'=>v=lC (ki (DO (toQ r) (toQ s)))/\Below w.heap.size w w':=by
 have hS:=St.init w;refine enter Tryz.func52 rfl Tryz.ntmps52 rfl ?_;refine jr ?_;refine jh (lx (new:=ke r) rfl rfl hS ?_);intro b1 wz2 hS hBz2;refine jh (lx (new:=ke s) rfl rfl hS ?_);intro b3 wz4 hS hBz4;refine J1 ?_;intro b5 wz6 hS hBz6;refine J2 ?_;refine jh (kf Tryz.call50 rfl (pR r s _ hr) ?_);rintro _ wc7 ⟨rfl,hBc7⟩;replace hS:=hS.kx hBc7;refine V1 ?_;by_cases h:toQ s<=toQ r
 ·refine lu rfl (ai (KF.2 h)) ?_;refine J1 ?_;refine jh (kf Tryz.call28 rfl (om r _ oO) ?_);rintro _ wc8 ⟨rfl,hBc8⟩;replace hS:=hS.kx hBc8;refine J1 ?_;intro wz9 hS;refine jt ?_;refine mA (k:=0) rfl rfl kt hS rfl rfl ?_;exact⟨by unfold DO;rw[aj h];rfl,hS.kb⟩
 ·refine lH rfl (ae (λg=>h (KF.1 g))) ?_;refine J1 ?_;refine jh (kf Tryz.call28 rfl (om s _ oO) ?_);rintro _ wc10 ⟨rfl,hBc10⟩;replace hS:=hS.kx hBc10;refine J1 ?_;intro wz11 hS;refine jt ?_;refine mA (k:=0) rfl rfl kt hS rfl rfl ?_;exact⟨by unfold DO;rw[ah h];rfl,hS.kb⟩
theorem Mp (n:Int):mkRat (sg (decide (n<0)) n.natAbs) 1=(n:Rat):=by
 have h:sg (decide (n<0)) n.natAbs=n:=by
  unfold sg;by_cases h:n<0<;>simp[h]<;>omega
 rw[h];have:=eE (n:Rat);rwa[Rat.num_intCast,Rat.den_intCast]at this
theorem C8 {n:Nat} (h:n<18446744073709551616):(kQ n).size<=8:=lK h
theorem Fw (n:Int) (w:World) (h1: -9223372036854775808<=n) (h2:n<=9223372036854775807):
  mb Tryz.prog 71 #[.int .i64 n] w λv w'=>v= .string (kQ n.natAbs)/\Below w.heap.size w w':=by
 have hS:=St.init w;refine enter Tryz.func71 rfl Tryz.ntmps71 rfl ?_;refine V3 ?_;by_cases h:n<0
 ·refine lu rfl (ai h) ?_;refine J1 ?_;refine jp (kT rfl Tryz.underlying99 ⟨_,Tryz.underlying2⟩ (r:=((n+18446744073709551616:Int))) (by rw[xG];omega) (jp (Ot rfl (r:=((n.natAbs:Nat):Int)) (by rw[xG];omega) (jh (kf Tryz.call113 rfl (sW n.natAbs _ oO) ?_)))));rintro _ wc1 ⟨rfl,hBc1⟩;replace hS:=hS.kx hBc1;refine J1 ?_;refine jt ?_;refine kJ rfl rfl ?_;exact⟨rfl,hS.kb⟩
 ·refine lH rfl (ae h) ?_;refine J1 ?_;refine jp (kT rfl Tryz.underlying99 ⟨_,Tryz.underlying2⟩ (r:=((n.natAbs:Nat):Int)) (by rw[xG];omega) (jh (kf Tryz.call113 rfl (sW n.natAbs _ oO) ?_)));rintro _ wc2 ⟨rfl,hBc2⟩;replace hS:=hS.kx hBc2;refine J1 ?_;refine jt ?_;refine kJ rfl rfl ?_;exact⟨rfl,hS.kb⟩
theorem mY (n:Int) (w:World) (h1: -9223372036854775808<=n) (h2:n<=9223372036854775807):
  mb Tryz.prog 33 #[.int .i64 n] w λv w'=>v=lC (ki (n:Rat))/\Below w.heap.size w w':=by
 have hM:MX=1099511627776:=rfl;have hs:=C8 (n:=n.natAbs) oO;have hred:=λw=>sF (decide (n<0)) (kQ n.natAbs) ⟨#[1]⟩ w oO (by show 1<=_;omega) (by rw[yB];decide);rw[lF,yB,Mp]at hred;have hS:=St.init w;refine enter Tryz.func33 rfl Tryz.ntmps33 rfl ?_;refine J1 ?_;intro b1 wz2 hS hBz2;refine J3 ?_;refine jh (kf Tryz.call71 rfl (Fw n _ h1 h2) ?_);rintro _ wc3 ⟨rfl,hBc3⟩;replace hS:=hS.kx hBc3;refine jh (kf Tryz.call29 rfl (hred _) ?_);rintro _ wc4 ⟨rfl,hBc4⟩;replace hS:=hS.kx hBc4;refine J1 ?_;intro wz5 hS;refine jt ?_;refine mA (k:=0) rfl rfl kt hS rfl rfl ?_;exact⟨rfl,hS.kb⟩
def yd (l:List Rat):Rat:=l.foldl (· + ·) 0
theorem Ez (l:List Rat) (q:Rat):yd (l++[q])=yd l+q:=by unfold yd;rw[eI];rfl
def ya:List RR->Nat
 | []=>0
 |r::l=>Lr r+1+ya l
theorem uo (l m:List RR):ya (l++m)=ya l+ya m:=by
 induction l with
 |nil=>simp[ya]
 |cons r l ih=>simp only[bY,ya,ih];omega
theorem lT {α:Type} (l:List α) (i:Nat) (d:α) (h:i<l.length):l.take (i+1)=l.take i++[l.getD i d]:=by
 rw[jT h,ak,aF h];rfl
theorem No (l:List RR) (i:Nat):ya (l.take i)<=ya l:=by
 conv=>rhs;rw[<-dc i l,uo]
 omega
def kZ:RR:=⟨false,⟨#[]⟩,⟨#[]⟩⟩
theorem kO {α:Type} (l:List α) (i:Nat) (d:α) (h:i<l.length):l.getD i d∈l:=by
 rw[ak,aF h];exact fJ h
theorem lL:ke kZ=ke (ki 0):=by rw[oD];rfl
theorem Kf (v:Value) (l:List RR) (w:World) (hv:Sl ke 3 w v l) (hl:ya l+1<=MX):
  mb Tryz.prog 97 #[v] w λr w'=>r=lC (ki (yd (l.map toQ)))/\Below w.heap.size w w':=by
 have hM:MX=1099511627776:=rfl;have hmax:=hv.maxLen;have hS:=St.init w;refine enter Tryz.func97 rfl Tryz.ntmps97 rfl ?_;refine J1 ?_;intro b1 wz2 hS hBz2;refine jr ?_;refine jp (lr rfl pM ?_);refine J1 ?_;intro b3 wz4 hS hBz4;refine J1 ?_;intro wz5 hS;refine J1 ?_;refine jp (ky rfl (hv.kb hS.kb) ⟨_,Tryz.underlying34⟩ ?_);refine V1 ?_;replace hS:=hS.cast (H':=[(b3,32,ke (ki (yd ((l.take 0).map toQ)))),(b1,32,ke kZ)]) (by rw[show yd ((l.take 0).map toQ)=0 from rfl,<-lL];rfl);refine kF (σ:=Nat) (λi ρ w'=>i<=l.length/\L (yd ((l.take i).map toQ))<=ya (l.take i)+1/\ρ 2=pB b1/\ρ 3=pB b3/\ρ 7=v/\ρ 8=iB l.length/\ρ 9=iB i/\
   St w w' [(b3,32,ke (ki (yd ((l.take i).map toQ)))),(b1,32,ke kZ)]) (λi=>l.length-i) 0
  ⟨aw _,by rw[show yd ((l.take 0).map toQ)=0 from rfl,oz];omega,rfl,rfl,rfl,rfl,rfl,hS⟩ ?_
 clear hS;rintro i ρ w2 ⟨hi,hLi,h2,h3,h7,h8,h9,hS⟩;refine V1 ?_;by_cases hlt:i<l.length
 ·refine V1 ?_;have ht:=lT l i kZ hlt;have hs1:=No l (i+1);rw[ht,uo]at hs1;simp only[ya]at hs1;have hLr:=uM (l.getD i kZ);have hadd:=Bi (yd ((l.take i).map toQ)) (toQ (l.getD i kZ));refine jr ?_;refine jp (ks (i:=i) h7 h9 (hv.kb hS.kb) oO dO kW (jq (kC (i:=i) kZ rfl kt (hv.kb hS.kb) dO rfl rfl (.inl rfl) ?_)));refine J1 ?_;intro b6 wz7 hS hBz7;refine J1 ?_;intro wz8 hS;refine ja ?_;replace hS:St w _ [(_,32,ke (l.getD i kZ)),(b3,32,ke (ki (yd ((l.take i).map toQ)))),(b1,32,ke kZ)]:=hS;refine ja ?_;refine kK [ju 0,ju 1,jv 2,jv 3,jw 4] kR kR hS ?_;intro wz9 hS hBz9;refine J2 ?_;refine jn rfl (kf Tryz.call28 rfl (om (l.getD i kZ) _ oO) ?_);rintro _ wc10 ⟨rfl,hBc10⟩;replace hS:=hS.kx hBc10;refine⟨hBc10,?_⟩;refine jn rfl (kf Tryz.call36 rfl (Je (yd ((l.take i).map toQ)) (toQ (l.getD i kZ)) _ oO) ?_);rintro _ wc11 ⟨rfl,hBc11⟩;replace hS:=hS.kx hBc11;refine⟨hBc11,?_⟩;refine J1 ?_;intro wz12 hS;refine ja ?_;have he:yd ((l.take (i+1)).map toQ)=yd ((l.take i).map toQ)+toQ (l.getD i kZ):=by rw[ht,bS,jG,Ez]
  rw[<-he]at hadd;replace hS:St w _ [(_,32,ke (l.getD i kZ)),(b3,32,ke (ki (yd ((l.take i).map toQ)+toQ (l.getD i kZ)))),(b1,32,ke kZ)]:=hS;rw[<-he]at hS;refine V2 ?_;exact⟨i+1,_,rfl,⟨hlt,by rw[ht,uo]at*;simp only[ya];omega,h2,h3,h7,h8,vi rfl oO,hS.drop (ab _ _)⟩,oO⟩
 ·refine J1 ?_;refine jt ?_;obtain rfl:i=l.length:=oO;rw[bO]at hS;refine J2 ?_;intro wz13 hS;refine jt ?_;refine mA (k:=1) rfl h2 kt hS rfl rfl ?_;exact⟨rfl,hS.kb⟩
theorem og (s:ByteArray) (w:World) (hs:s.size<=9223372036854775807):
  mb Tryz.prog 120 #[.string s] w λv w'=>v= .string (kQ (val s))/\w'=w:=by
 refine enter Tryz.func120 rfl Tryz.ntmps120 rfl ?_;refine V2 ?_;refine kF (σ:=Nat) (λk ρ w'=>k<=s.size/\(∀i (_:i<k) (h:i<s.size),s[i]=0)/\ρ 0= .string s/\ρ 3=iB k/\w'=w) (λk=>s.size-k) 0
  ⟨oO,λi h=>oO,rfl,rfl,rfl⟩ ?_
 rintro k ρ w' ⟨hk,hz,h0,h3,rfl⟩;by_cases hlt:k<s.size
 ·refine J5 ?_;refine ko (kd 8 kR rfl dT) (kw h0 (ko (kd 8 kR rfl dT) (kw h3 (ko (kd 8 kR rfl dT) (xh (i:=k) rfl rfl oO oO Tryz.underlying9 (ko (kd 8 kR rfl dT) (qO rfl rfl (jp (kH (vb rfl dT) rfl ?_)))))))));refine ja ?_;by_cases h:s[k]=0
  ·refine lu rfl (ai (by rw[h];rfl)) ?_;refine V3 ?_;refine⟨k+1,_,rfl,⟨oO,λi hi hi'=> ?_,h0,vi rfl oO,rfl⟩,oO⟩;rcases bH i k with h2|h2
   ·exact hz i h2 hi'
   ·obtain rfl:i=k:=oO;exact h
  ·refine lH rfl (ae (λg=>h (j3.1 (by simp at g;exact g)))) ?_;refine J2 ?_;refine jp (Fp (lo:=k) rfl rfl rfl oO Tryz.underlying9 ?_);refine J1 ?_;refine jt ?_;refine kJ rfl rfl ?_;exact⟨bB Value.string (xF s k hk hz (.inr ⟨hlt,h⟩)),rfl⟩
 ·refine J5 ?_;refine kS (kg 8 kR rfl dF) (kS (kg 8 kR rfl dF) (kS (kg 8 kR rfl dF) (kS (kg 8 kR rfl dF) (jp (kH (vb rfl dF) rfl ?_)))));refine ja ?_;refine lH rfl (rfl) ?_;refine J2 ?_;refine jp (Fp (lo:=k) rfl rfl rfl oO Tryz.underlying9 ?_);refine J1 ?_;refine jt ?_;refine kJ rfl rfl ?_;exact⟨bB Value.string (xF s k hk hz (.inl oO)),rfl⟩
theorem DW (V:Nat):(kY V).length=((kQ V).size+3)/4:=by
 obtain⟨k,hk⟩:=jz ((kQ V).size);rw[<-hk];rcases df V with h0|h0
 ·subst h0;rw[sI,n6]at hk;unfold kY;rw[n6,hk];rfl
 ·have h1:V<256^k:=by rw[hk];exact qG V
  have h2:256^(k-1)<=V:=by
   refine sj dD ?_;rw[<-sI,<-hk];have:1<=k:=by rw[hk];exact uB h0
   omega
  have h3:(kY V).length<=(k+3)/4:=by
   refine xp (dq h1 ?_);rw[show km=256^4 from rfl,<-fL];exact bJ dD oO
  have h4:(k+3)/4<=(kY V).length:=by
   rcases bH (kY V).length ((k+3)/4)with h|h
   ·exfalso;have h5:=l9 V;have h6:km^(kY V).length<=256^(k-1):=by
     rw[show km=256^4 from rfl,<-fL];exact bJ dD oO
    omega
   ·exact h
  omega
theorem Pv (V:Nat):pad km V (kY V).length=kY V:=by
 have h:=wk (b:=km) dD (pad km V (kY V).length) (kY V).length (to dD _ _) (by simp) (λi h1 h2=>by simp at h2;omega) ?_
 ·rw[nm (l9 V),aU (by simp)]at h;exact h
 ·rcases df (kY V).length with h0|h0
  ·exact .inl h0
  ·right;rw[oq _ _ oO];have hV:0<V:=by
    rcases df V with g|g
    ·rw[g]at h0;unfold kY at h0;rw[n6]at h0;exact absurd h0 (by simp)
    ·exact g
   have:=(zE hV).2;omega
theorem xT (s:ByteArray) (w:World) (hs:s.size<=70368744177664):
  mb Tryz.prog 77 #[.string s] w λr w'=>Sl (uk .u32) 1 w' r (kY (val s))/\Below w.heap.size w w':=by
 have hS:=St.init w;have hsz:=qz s;refine enter Tryz.func77 rfl Tryz.ntmps77 rfl ?_;refine J2 ?_;refine jh (kf Tryz.call120 rfl (og _ _ oO) ?_);rintro _ wq1 ⟨rfl,hq1⟩;replace hq1:=hq1.symm;subst hq1;refine V1 ?_;obtain⟨V,hV⟩:=jz (val s);rw[<-hV];rw[<-hV]at hsz;obtain⟨S,hSe⟩:=jz (kQ V);have hvS:val S=V:=by rw[hSe,lF]
 have hlen:=DW V;rw[<-hSe]at hlen hsz;rw[<-hSe];refine J3 ?_;refine jp (sf rfl rfl oO (r:=(((S.size+3)/4:Nat):Int)) (by exact gA _ _ oO) (jh (qj (n:=(S.size+3)/4) rfl rfl lZ oO oO oO oO hS ?_)));intro b2 wz3 hS hBz3;refine V2 ?_;obtain⟨n,hn⟩:=jz ((S.size+3)/4);rw[<-hn,<-pi km n,show 0=V%256^0 by rw[cU,ec]]at hS;refine kF (σ:=Nat) (λi ρ w'=>i<=S.size/\ρ 0= .string S/\ρ 3= .slice (some ⟨b2,0,none⟩) n n/\ρ 4=iB i/\St w w' [(b2,141,Kr .u32 (pad km (V%256^i) n))]) (λi=>S.size-i) 0
  ⟨aw _,rfl,by rw[hn];rfl,rfl,hS⟩ ?_
 clear hS;rintro i ρ w2 ⟨hi,h0,h3,h4,hS⟩;refine V4 ?_;by_cases hlt:i<S.size
 ·refine V1 ?_;have hb:=Bo S i hlt;rw[hvS]at hb;have hl:=qZ (b:=km) dD (V%256^i) (i/4);have hd:=qZ (b:=256) dD V i;have hg:(pad km (V%256^i) n).getD (i/4) 0=lh km (V%256^i) (i/4):=oq _ _ oO;have hp:2^(8*(i%4))<=2^24:=bJ dD oO;have hq:lh 256 V i*2^(8*(i%4))<4294967296:=bZ (fp (Nat.le_of_lt_succ hd) hp) dD;refine ja ?_;refine kK [jo 0,jo 1,jo 2,jo 3,jo 4,jo 5,jo 6,ju 7,jo 8,jo 9,jo 10,jo 11,jo 12,jo 13,jo 14,jo 15,jo 16,jo 17,jo 18,jo 19,jo 20,jo 21,jo 22,jw 23] kR kR hS ?_;intro wz4 hS hBz4;refine J2 ?_;refine jl rfl (sf rfl rfl oO (r:=((i/4:Nat):Int)) (by exact gA _ _ oO) ?_);refine J2 ?_;refine jl rfl (sf rfl rfl oO (r:=((i/4:Nat):Int)) (by exact gA _ _ oO) (jl rfl (kM (i:=i/4) rfl rfl oO dO lZ (jm rfl (oe (k:=0) (i:=i/4) rfl kV hS rfl oO dO ?_)))));refine J6 ?_;refine jl rfl (xh (i:=S.size-1-i) rfl rfl oO oO Tryz.underlying9 (jl rfl (kT rfl Tryz.underlying141 ⟨_,Tryz.underlying5⟩ (r:=((lh 256 V i:Nat):Int)) (by rw[hb];exact fw _ oO) ?_)));refine J1 ?_;refine jl rfl (pF rfl rfl oO (r:=((i%4:Nat):Int)) (by rfl) (jl rfl (wF rfl rfl (r:=((8*(i%4):Nat):Int)) (by exact o8 _ oO) (jl rfl (kT rfl Tryz.underlying94 ⟨_,Tryz.underlying3⟩ (r:=((8*(i%4):Nat):Int)) (by exact fv _ oO) (jl rfl (u6 rfl rfl oO (u5 _ _ _ (show _<=32 by omega) (pX _ ⟨rfl,oO,oO⟩)) (jl rfl (y7 rfl rfl (rS rfl _ _ (by rw[hg];exact hl) hq) (jl rfl (kM (i:=i/4) rfl rfl oO dO lZ (jx rfl (pO (k:=0) (i:=i/4) (a:=_) rfl rfl rfl kV hS rfl oO dO ?_)))))))))))));intro wz5 hS;refine ja ?_;rw[hg,ID]at hS;refine V3 ?_;exact⟨i+1,_,rfl,⟨hlt,h0,h3,vi rfl oO,hS⟩,oO⟩
 ·refine J1 ?_;refine jt ?_;obtain rfl:i=S.size:=oO;have hval:V<256^S.size:=by rw[<-hvS];exact Fb S
  rw[aW hval,show n=(kY V).length by omega,Pv]at hS;have hsl:=hS.IH (k:=0) rfl (n:=n) (cap:=n) oO (aB _) oO;rw[aU oO]at hsl;refine J2 ?_;refine jt ?_;refine kJ rfl rfl ?_;exact⟨hsl,hS.kb⟩
theorem u0 (v:Value) (L:List Nat) (w:World) (hv:Sl (uk .u32) 1 w v L) (hL:∀d∈L,d<km):
  mb Tryz.prog 123 #[v] w λr w'=>Sl (uk .u32) 1 w' r (kY (lN km L))/\w'=w:=by
 have hmax:=hv.maxLen;refine enter Tryz.func123 rfl Tryz.ntmps123 rfl ?_;refine J2 ?_;refine jp (ky rfl hv ⟨_,Tryz.underlying138⟩ ?_);refine V1 ?_;refine kF (σ:=Nat) (λn ρ w'=>n<=L.length/\(∀i,n<=i->i<L.length->L.getD i 0=0)/\ρ 0=v/\ρ 3=iB n/\w'=w) (λn=>n) L.length
  ⟨aB _,λi h1 h2=>oO,rfl,rfl,rfl⟩ ?_
 rintro n ρ w' ⟨hn,hz,h0,h3,rfl⟩;have hdone:(n=0\/L.getD (n-1) 0≠0)->L.take n=kY (lN km L):=λh=>wk (b:=km) dD L n hL hn hz h;by_cases hpos:0<n
 ·by_cases hl:L.getD (n-1) 0=0
  ·refine J3 ?_;refine ko (kd 8 kR rfl dT) (kw h0 (ko (kd 8 kR rfl dT) (kw h3 (ko (kd 8 kR rfl dT) (sh rfl rfl (ct _ oO) (ko (kd 8 kR rfl dT) (ks (i:=n-1) rfl rfl hv oO dO lZ (lA (kd 8 kR rfl dT) (kC (i:=n-1) 0 rfl kV hv dO rfl rfl (.inr rfl) (ko (kd 8 kR rfl dT) (qO rfl rfl (jp (kH (vb rfl dT) rfl ?_)))))))))))));refine V4 ?_;refine⟨n-1,_,rfl,⟨oO,λi h1 h2=> ?_,h0,vi rfl oO,rfl⟩,oO⟩;rcases bH i n with h4|h4
   ·rw[show i=n-1 by omega];exact hl
   ·exact hz i h4 h2
  ·refine J3 ?_;refine ko (kd 8 kR rfl dT) (kw h0 (ko (kd 8 kR rfl dT) (kw h3 (ko (kd 8 kR rfl dT) (sh rfl rfl (ct _ oO) (ko (kd 8 kR rfl dT) (ks (i:=n-1) rfl rfl hv oO dO lZ (lA (kd 8 kR rfl dT) (kC (i:=n-1) 0 rfl kV hv dO rfl rfl (.inr rfl) (ko (kd 8 kR rfl dT) (qO rfl rfl (jp (kH (vb rfl dT) rfl ?_)))))))))))));refine J3 ?_;refine jp (xY (hi:=n) rfl rfl hv rfl hn lZ ?_);refine J1 ?_;refine jt ?_;refine kJ rfl rfl ?_;refine⟨?_,rfl⟩;rw[<-hdone (.inr hl)];exact hv.sub (Au _) dD (aw n) hn
 ·refine J3 ?_;refine kS (kg 8 kR rfl dF) (kS (kg 8 kR rfl dF) (kS (kg 8 kR rfl dF) (kS (kg 8 kR rfl dF) (kS (kg 8 kR rfl dF) (kS (kg 8 kR rfl dF) (jp (kH (vb rfl dF) rfl ?_)))))));refine ja ?_;refine lH rfl (rfl) ?_;refine J2 ?_;refine jp (xY (hi:=n) rfl rfl hv rfl hn lZ ?_);refine J1 ?_;refine jt ?_;refine kJ rfl rfl ?_;refine⟨?_,rfl⟩;rw[<-hdone (.inl oO)];exact hv.sub (Au _) dD (aw n) hn
theorem Kb (V k q x:Nat) (hk:0<k) (hx:x=lh km V (k-1)):
  (pad 256 (V/km^(k-1)) (q+4)).reverse=(pad 256 (V/km^k) q).reverse++[x/16777216%256,x/65536%256,x/256%256,x%256]:=by
 have h:=pJ km V (k-1);rw[show k-1+1=k by omega,<-hx]at h;have hlt:x<km:=by rw[hx];exact qZ dD _ _
 rw[h];generalize V/km^k=U;have hB:km=4294967296:=rfl;rw[show q+4=q+1+1+1+1 from rfl,xC,xC,xC,xC];simp only[jU,aG,bY,ce];rw[hB]at hlt⊢;have e1:(4294967296*U+x)/256/256/256/256=U:=oO;have e2:(4294967296*U+x)/256/256/256%256=x/16777216%256:=oO;have e3:(4294967296*U+x)/256/256%256=x/65536%256:=oO;have e4:(4294967296*U+x)/256%256=x/256%256:=oO;have e5:(4294967296*U+x)%256=x%256:=oO;rw[e1,e2,e3,e4,e5]
theorem zt (v:Value) (L:List Nat) (w:World) (hv:Sl (uk .u32) 1 w v L) (hL:∀d∈L,d<km) (hs:L.length<=17592186044416):
  mb Tryz.prog 79 #[v] w λr w'=>r= .string (kQ (lN km L))/\Below w.heap.size w w':=by
 have hS:=St.init w;obtain⟨V,hV⟩:=jz (lN km L);refine enter Tryz.func79 rfl Tryz.ntmps79 rfl ?_;refine J2 ?_;refine jh (kf Tryz.call123 rfl (u0 v L _ hv hL) ?_);rintro _ wq1 ⟨hl,hq1⟩;replace hq1:=hq1.symm;subst hq1;refine V1 ?_;rename_i vl;rw[<-hV]at hl⊢;obtain⟨m,hm⟩:=jz ((kY V).length);have hVm:V<km^m:=by rw[hm];exact l9 V
 have hmL:m<=L.length:=by
  rw[hm];refine xp ?_;rw[hV];exact tT L hL
 refine J1 ?_;refine jp (ky rfl hl ⟨_,Tryz.underlying138⟩ (jp (wF rfl rfl (ct _ oO) (jh (Pp (enc:=uk .u8) (n:=4*m) rfl rfl Dl oO oO oO oO hS ?_)))));intro va2 La2 wa2 hG hS hBa2;refine J2 ?_;refine jp (ky rfl (hl.kb hS.kb) ⟨_,Tryz.underlying138⟩ ?_);refine V2 ?_;refine kF (σ:=Nat) (λk ρ w'=>k<=m/\ρ 0=vl/\ρ 4=iB ((k:Int)-1)/\∃vb Lb,ρ 3=vb/\Gl (uk .u8) 5 1 vb ((pad 256 (V/km^k) (4*(m-k))).reverse) Lb/\St w w' ([]++Lb)) (λk=>k) m
  ⟨aB _,rfl,vi rfl oO,⟨_,_,rfl,by rw[dU];exact hG,hS⟩⟩ ?_
 clear hS;rintro k ρ w3 ⟨hk,h0,h4,vb,Lb,h3,hG,hS⟩;refine V2 ?_;have hlenG:((pad 256 (V/km^k) (4*(m-k))).reverse).length=4*(m-k):=by simp
 by_cases hk0:0<k
 ·refine J3 ?_;refine jp (ks (i:=k-1) rfl rfl (hl.kb hS.kb) oO dO lZ (jq (kC (i:=k-1) 0 rfl kV (hl.kb hS.kb) dO rfl rfl (.inr rfl) ?_)));refine V1 ?_;have hx:=mE V (k-1);have hxl:=mw V (k-1);rw[hx];obtain⟨x,hxe⟩:=jz (lh km V (k-1));rw[<-hxe]at hxl⊢;have h4b:=Kb V k (4*(m-k)) x hk0 hxe;refine J2 ?_;refine jp (qu rfl rfl oO (r:=((x/16777216:Nat):Int)) (by exact qN (k:= .u32) x 24 dD) (jp (kT rfl Tryz.underlying5 ⟨_,Tryz.underlying141⟩ (uA _) ?_)));refine J1 ?_;refine jp (qu rfl rfl oO (r:=((x/65536:Nat):Int)) (by exact qN (k:= .u32) x 16 dD) (jp (kT rfl Tryz.underlying5 ⟨_,Tryz.underlying141⟩ (uA _) ?_)));refine J1 ?_;refine jp (qu rfl rfl oO (r:=((x/256:Nat):Int)) (by exact qN (k:= .u32) x 8 dD) (jp (kT rfl Tryz.underlying5 ⟨_,Tryz.underlying141⟩ (uA _) ?_)));refine J1 ?_;refine jp (kT rfl Tryz.underlying5 ⟨_,Tryz.underlying141⟩ (uA _) (jh (np (vs:=[_,_,_,_]) rfl Dl rfl dD dD dD (by simp[Value.cells]) rfl hS ?_)));intro b3 wz4 hS hBz4;refine jh (mO [x/16777216%256,x/65536%256,x/256%256,x%256] rfl rfl Dl dD hG hS rfl rfl (Au _) (Tu _ [x/16777216%256,x/65536%256,x/256%256,x%256]) dL dL ?_);intro va5 La5 wa5 hG hS hga5;refine V1 ?_;rw[<-h4b,show 4*(m-k)+4=4*(m-(k-1)) by omega]at hG;refine V3 ?_;exact⟨k-1,_,rfl,⟨oO,h0,vi rfl oO,⟨_,_,rfl,hG,hS⟩⟩,oO⟩
 ·refine J1 ?_;refine jt ?_;obtain rfl:k=0:=oO;rw[cU,fC,Nat.sub_zero]at hG;have hVlt:V<256^(4*m):=by rw[fL];exact hVm
  have hsz:(zC (pad 256 V (4*m)).reverse).size<=9223372036854775807:=by rw[Er];simp;omega
  refine J1 ?_;refine jq (TO rfl ⟨Tryz.underlying189,Tryz.underlying5,Tryz.underlying9⟩ hG hS (jh (kf Tryz.call120 rfl (og _ _ hsz) ?_)));rintro _ wq6 ⟨rfl,hq6⟩;replace hq6:=hq6.symm;subst hq6;refine J1 ?_;refine jt ?_;refine kJ rfl rfl ?_;rw[HG,aW hVlt];exact⟨rfl,hS.kb⟩
theorem wq (u:Nat) (w:World) (hu:u<18446744073709551616):
  mb Tryz.prog 42 #[.int .u64 u] w λr w'=>r= .string (kQ u)/\Below w.heap.size w w':=by
 have hS:=St.init w;refine enter Tryz.func42 rfl Tryz.ntmps42 rfl ?_;refine J2 ?_;refine jp (kT rfl Tryz.underlying141 ⟨_,Tryz.underlying99⟩ (sR _) ?_);refine J1 ?_;refine jp (qu rfl rfl oO (r:=((u/4294967296:Nat):Int)) (by exact qN _ 32 dD) (jp (kT rfl Tryz.underlying141 ⟨_,Tryz.underlying99⟩ (r:=((u/4294967296:Nat):Int)) (by exact pX _ oO) (jh (np (vs:=[_,_]) rfl lZ rfl dD dD dD (by simp[Value.cells]) rfl hS ?_)))));intro b1 wz2 hS hBz2;have hsl:=St.IH (L:=[u%4294967296,u/4294967296]) hS (k:=0) rfl (n:=2) (cap:=2) (by simp) oO oO;have hd:∀d∈[u%4294967296,u/4294967296],d<km:=by
  intro d hd;simp only[bM,cG,fS]at hd;unfold km;omega
 refine jh (kf Tryz.call79 rfl (zt _ _ _ hsl hd (by simp)) ?_);rintro _ wc3 ⟨rfl,hBc3⟩;replace hS:=hS.kx hBc3;refine J1 ?_;refine jt ?_;refine kJ rfl rfl ?_;exact⟨vs rfl (bB kQ (Dk u)),hS.kb⟩
theorem MI (u v:Value) (m n:Nat) (w:World) (hu:Sl (uk .u32) 1 w u (kY m)) (hv:Sl (uk .u32) 1 w v (kY n)):
  mb Tryz.prog 162 #[u,v] w λr w'=>r= .int .i64 (sV m n)/\Below w.heap.size w w':=by
 have hlu:=hu.maxLen;have hlv:=hv.maxLen;have hS:=St.init w;refine enter Tryz.func162 rfl Tryz.ntmps162 rfl ?_;refine J2 ?_;refine jp (ky rfl (hu.kb hS.kb) ⟨_,Tryz.underlying138⟩ ?_);refine J1 ?_;refine jp (ky rfl (hv.kb hS.kb) ⟨_,Tryz.underlying138⟩ ?_);refine V1 ?_;by_cases hl:(kY m).length=(kY n).length
 ·refine lH rfl (ae (by simp[hl])) ?_;refine J1 ?_;refine jp (ky rfl (hu.kb hS.kb) ⟨_,Tryz.underlying138⟩ ?_);refine V2 ?_;refine kF (σ:=Nat) (λi ρ w'=>i<=(kY m).length/\m/km^i=n/km^i/\ρ 0=u/\ρ 1=v/\ρ 5=iB ((i:Int)-1)/\St w w' []) (λi=>i) (kY m).length
   ⟨aB _,?_,rfl,rfl,rfl,hS⟩ ?_
  ·have h1:m<km^(kY m).length:=nt dD m;have h2:n<km^(kY n).length:=nt dD n;rw[bU h1,hl,bU h2]
  clear hS;rintro i ρ w' ⟨hi,hq,h0,h1,h5,hS⟩;refine V2 ?_;by_cases hpos:0<i
  ·refine V1 ?_;have hlen:i-1<(kY m).length:=oO;refine ja ?_;refine kK [jo 0,jo 1,jo 2,ju 3,jo 4,jo 5,jo 6,ju 7,jo 8] kR kR hS ?_;intro wz1 hS hBz1;refine J2 ?_;refine jl rfl (ks (i:=i-1) rfl rfl (hu.kb hS.kb) oO dO lZ (jm rfl (kC (i:=i-1) 0 rfl kV (hu.kb hS.kb) dO rfl rfl (.inr rfl) ?_)));refine J2 ?_;refine jl rfl (ks (i:=i-1) rfl rfl (hv.kb hS.kb) oO dO lZ (jm rfl (kC (i:=i-1) 0 rfl kV (hv.kb hS.kb) dO rfl rfl (.inr rfl) ?_)));refine V1 ?_;rw[mE,mE];have hs1:=pJ km m (i-1);have hs2:=pJ km n (i-1);rw[show i-1+1=i by omega]at hs1 hs2;by_cases hne:lh km m (i-1)=lh km n (i-1)
   ·refine V4 ?_;exact⟨i-1,_,rfl,⟨oO,by rw[hs1,hs2,hq,hne],h0,h1,vi rfl oO,hS⟩,oO⟩
   ·refine V1 ?_;refine kK [jo 0,jo 1,jo 2,ju 3,jo 4,jo 5,jo 6,ju 7,jo 8] kR kR hS ?_;intro wz2 hS hBz2;refine J2 ?_;refine jl rfl (ks (i:=i-1) rfl rfl (hu.kb hS.kb) oO dO lZ (jm rfl (kC (i:=i-1) 0 rfl kV (hu.kb hS.kb) dO rfl rfl (.inr rfl) ?_)));refine J2 ?_;refine jl rfl (ks (i:=i-1) rfl rfl (hv.kb hS.kb) oO dO lZ (jm rfl (kC (i:=i-1) 0 rfl kV (hv.kb hS.kb) dO rfl rfl (.inr rfl) ?_)));refine V1 ?_;rw[mE,mE];by_cases hlt:lh km m (i-1)<lh km n (i-1)
    ·refine J2 ?_;refine jt ?_;refine kJ rfl rfl ?_;refine⟨vi rfl (uq (sO (b:=km) (i:=i-1) ?_)).symm,hS.kb⟩;rw[hs1,hs2,hq];omega
    ·refine J2 ?_;refine jt ?_;refine kJ rfl rfl ?_;refine⟨vi rfl (ut (sO (b:=km) (i:=i-1) ?_)).symm,hS.kb⟩;rw[hs1,hs2,hq];omega
  ·refine J2 ?_;refine jt ?_;refine kJ rfl rfl ?_;obtain rfl:i=0:=oO;rw[cU,fC,fC]at hq;rw[hq];exact⟨vi rfl (by rw[xH]),hS.kb⟩
 ·refine J2 ?_;refine jp (ky rfl (hu.kb hS.kb) ⟨_,Tryz.underlying138⟩ ?_);refine J1 ?_;refine jp (ky rfl (hv.kb hS.kb) ⟨_,Tryz.underlying138⟩ ?_);refine V1 ?_;by_cases hlt:(kY m).length<(kY n).length
  ·refine J2 ?_;refine jt ?_;refine kJ rfl rfl ?_;exact⟨vi rfl (uq (uv hlt)).symm,hS.kb⟩
  ·refine J2 ?_;refine jt ?_;refine kJ rfl rfl ?_;exact⟨vi rfl (ut (uv oO)).symm,hS.kb⟩
theorem NA (vx:Value) (X d:Nat) (w:World) (hx:Sl (uk .u32) 1 w vx (kY X)) (hd:0<d) (hd2:d<=4294967295) (hmx:(kY X).length<=17592186044416):
  mb Tryz.prog 163 #[vx,.int .u32 d] w λr w'=>(∃v,r= .tuple #[v,.int .u32 (X%d:Nat)]/\Sl (uk .u32) 1 w' v (kY (X/d)))/\Below w.heap.size w w':=by
 have hS:=St.init w;obtain⟨n,hn⟩:=jz ((kY X).length);have hXn:X<km^n:=hn▸l9 X;refine enter Tryz.func163 rfl Tryz.ntmps163 rfl ?_;refine J3 ?_;refine jp (ky rfl (hx.kb hS.kb) ⟨_,Tryz.underlying138⟩ (jh (qj (n:=(kY X).length) rfl rfl lZ oO oO oO oO hS ?_)));intro b1 wz2 hS hBz2;refine J3 ?_;refine jp (ky rfl (hx.kb hS.kb) ⟨_,Tryz.underlying138⟩ ?_);refine V2 ?_;rw[<-hn,<-pi km n]at hS;refine kF (σ:=Nat×Nat×Nat) (λs ρ w'=>s.1<=n/\s.2.2<d/\X/km^s.1=s.2.1*d+s.2.2/\km^s.1*s.2.1<km^n/\ρ 0=vx/\ρ 1= .int .u32 d/\ρ 6= .slice (some ⟨b1,0,none⟩) n n/\ρ 7= .int .u64 s.2.2/\ρ 8=iB ((s.1:Int)-1)/\St w w' [(b1,141,Kr .u32 (pad km (km^s.1*s.2.1) n))]) (λs=>s.1) (n,0,0)
  ⟨aB _,hd,by simp only[fA];exact bU hXn,by simp only[eY];omega,rfl,rfl,by rw[hn];rfl,rfl,vi rfl (by rw[hn]),hS⟩ ?_
 clear hS;rintro⟨i,q,r⟩ ρ w3 ⟨hi,hr,hinv,hq,h0,h1,h6,h7,h8,hS⟩;simp only at hi hr hinv hq h0 h1 h6 h7 h8 hS;refine V2 ?_;by_cases hlt:0<i
 ·refine V1 ?_;have hil:i-1<(kY X).length:=oO;have x1:=mw X (i-1);have hg:(kY X).getD (i-1) 0=lh km X (i-1):=mE X (i-1);have hor:r*2^32|||lh km X (i-1)=lh km X (i-1)+r*2^32:=by rw[gu];exact uK _ _ _ oO
  refine J1 ?_;refine jp (u6 rfl rfl oO (r:=((r*2^32:Nat):Int)) (by exact u5 r 32 _ dD (lE _ ⟨rfl,oO,oO⟩)) ?_);refine J2 ?_;refine jp (ks (i:=i-1) rfl rfl (hx.kb hS.kb) oO dO lZ (jq (kC (i:=i-1) 0 rfl kV (hx.kb hS.kb) dO rfl rfl (.inr rfl) (jp (kT rfl Tryz.underlying99 ⟨_,Tryz.underlying141⟩ (r:=((lh km X (i-1):Nat):Int)) (by rw[hg];exact lE _ ⟨rfl,oO,oO⟩) (jp (y7 rfl rfl (r:=((lh km X (i-1)+r*2^32:Nat):Int)) (by rw[<-hor];exact rS rfl _ _ (by show _<18446744073709551616;omega) (by show _<18446744073709551616;omega)) ?_)))))));refine V1 ?_;obtain⟨t,ht⟩:=jz (lh km X (i-1)+r*2^32);rw[<-ht];have ht1:t/d<=4294967295:=by
   have:t<d*4294967296:=by
    have:(r+1)*4294967296<=d*4294967296:=aI _ hr;omega
   have:=dg this;omega
  refine J4 ?_;refine jp (kT rfl Tryz.underlying99 ⟨_,Tryz.underlying141⟩ (r:=((d:Nat):Int)) (by exact lE _ ⟨rfl,oO,oO⟩) (jp (sf rfl rfl oO (jj _ _ oO) (jp (kT rfl Tryz.underlying141 ⟨_,Tryz.underlying99⟩ (r:=((t/d:Nat):Int)) (by exact pX _ ⟨by push_cast;rfl,eo _,by generalize t/d=z at ht1⊢;omega⟩) (jp (kM (i:=i-1) rfl rfl oO dO lZ (jh (pO (k:=0) (i:=i-1) (a:=_) rfl rfl rfl kV hS rfl oO dO ?_)))))))));intro wz3 hS;refine J2 ?_;refine jp (kT rfl Tryz.underlying99 ⟨_,Tryz.underlying141⟩ (r:=((d:Nat):Int)) (by exact lE _ ⟨rfl,oO,oO⟩) (jp (pF rfl rfl oO (r:=((t%d:Nat):Int)) (by rw[dQ oO];push_cast;rfl) ?_)));refine V1 ?_;obtain⟨e1,e2⟩:=uw (b:=km) (q:=q) (i:=i) (e:=t/d) (n:=n) dD (by unfold km;omega) hlt hi hq;rw[en,e1]at hS;refine V3 ?_;have hs:=pJ km X (i-1);rw[show i-1+1=i by omega,hinv]at hs;refine⟨(i-1,km*q+t/d,t%d),_,rfl,⟨by simp only;omega,bl _ hd,?_,e2,h0,h1,h6,rfl,vi rfl (by simp only;omega),hS⟩,by simp only;omega⟩;simp only;have h9:=cI t d;have h10:km=2^32:=rfl;rw[hs,bn,aV,ba,dR,dR,bF (t/d) d,h9,ht,h10];omega
 ·refine J1 ?_;refine jt ?_;obtain rfl:i=0:=oO;rw[cU,fC]at hinv;rw[cU,dG]at hS hq;have hqd:X/d=q:=by rw[hinv,fc,iZ _ _ hd,bU hr,bX]
  have hrd:X%d=r:=by rw[hinv,ig,aW hr]
  have hsl:=hS.IH (k:=0) rfl (n:=n) (cap:=n) (by simp) (aB _) oO;rw[aU (by simp)]at hsl;refine J1 ?_;refine jh (kf Tryz.call123 rfl (u0 _ _ _ hsl (to dD _ _)) ?_);rintro _ wq4 ⟨hv,hq4⟩;replace hq4:=hq4.symm;subst hq4;refine J1 ?_;refine jp (kT rfl Tryz.underlying141 ⟨_,Tryz.underlying99⟩ (r:=((r:Nat):Int)) (by exact pX _ ⟨rfl,oO,oO⟩) ?_);refine J2 ?_;refine jt ?_;refine rP rfl rfl rfl ?_;rw[nm hq]at hv;rw[hqd,hrd];exact⟨⟨_,rfl,hv⟩,hS.kb⟩
theorem Bd (vx:Value) (X c n:Nat) (w:World) (hx:Sl (uk .u32) 1 w vx (kY X)) (hc:c<32) (hn:(kY X).length+1=n) (hmx:n<=17592186044416):
  mb Tryz.prog 184 #[vx,.int .u64 c] w λr w'=>
   (∃b,r= .slice (some ⟨b,0,none⟩) n n/\w.heap.size<=b/\w'.heap[b]?=some (.cells (Kr .u32 (pad km (X*2^c) n)).toArray 141 (0,0)))/\Below w.heap.size w w':=by
 have hS:=St.init w;obtain⟨m,hm⟩:=jz ((kY X).length);have hXm:X<km^m:=hm▸l9 X;have hp2:2^c<=2^31:=bJ dD oO;have hpos:0<2^c:=cy dD;refine enter Tryz.func184 rfl Tryz.ntmps184 rfl ?_;refine J2 ?_;refine jp (ky rfl (hx.kb hS.kb) ⟨_,Tryz.underlying138⟩ ?_);refine J1 ?_;refine jh (qj (n:=n) rfl rfl lZ oO oO oO oO hS ?_);intro b1 wz2 hS hBz2;refine V2 ?_;rw[<-pi km n]at hS;refine kF (σ:=Nat) (λi ρ w'=>i<=m/\ρ 0=vx/\ρ 1= .int .u64 c/\ρ 5= .slice (some ⟨b1,0,none⟩) n n/\ρ 6=iB i/\St w w' [(b1,141,Kr .u32 (pad km (X%km^i*2^c) n))]) (λi=>m-i) 0
  ⟨aw _,rfl,rfl,rfl,rfl,by rw[cU,ec,fA];exact hS⟩ ?_
 clear hS;rintro i ρ w3 ⟨hi,h0,h1,h5,h6,hS⟩;refine J2 ?_;refine jp (ky rfl (hx.kb hS.kb) ⟨_,Tryz.underlying138⟩ ?_);refine V1 ?_;by_cases hlt:i<m
 ·refine V1 ?_;have hil:i<(kY X).length:=oO;have x1:=mw X i;obtain⟨x,hxd⟩:=jz (lh km X i);rw[<-hxd]at x1;have hx2:x*2^c<=4294967295*2^31:=fp x1 hp2;obtain⟨V,hV⟩:=jz (X%km^i*2^c);have hVs:X%km^(i+1)*2^c=V+km^i*(x*2^c):=by rw[mod_pow_succ,bn,<-hV,ba,hxd]
  have hVlt:V<km^i*2^c:=by rw[hV];exact de (sE dD X i) hpos
  have hBi:0<km^i:=cy dD;have hVd:V/km^i<2^c:=dg hVlt;have hVb:V<km^(i+1):=by
   have:km^i*2^c<=km^i*km:=bA _ (by unfold km;omega);rw[bC];omega
  have hdg:lh km V i=V/km^i:=rU dD hVb;have hfit:=Ep (V/km^i) x c oO hVd;have hget:(pad km V n).getD i 0=V/km^i:=by rw[oq _ _ oO,hdg]
  rw[<-hV]at hS;have hsplit:=cI (x*2^c) 4294967296;have hlow:V+km^i*((x*2^c)%4294967296)<km^(i+1):=by
   have h8:=cI V (km^i);have h9:=bl V hBi;have h10:km^i*(V/km^i+(x*2^c)%4294967296+1)<=km^i*km:=bA _ hfit;rw[aV,aV]at h10;rw[bC];omega
  refine J2 ?_;refine jp (ks (i:=i) rfl rfl (hx.kb hS.kb) oO dO lZ (jq (kC (i:=i) 0 rfl kV (hx.kb hS.kb) dO rfl rfl (.inr rfl) (jp (kT rfl Tryz.underlying99 ⟨_,Tryz.underlying141⟩ (r:=((x:Nat):Int)) (by rw[mE,hxd];exact lE _ ⟨rfl,oO,oO⟩) ?_)))));refine J1 ?_;refine jp (u6 rfl rfl oO (u5 x c ((x*2^c:Nat):Int) (by show c<=64;omega) (lE _ ⟨rfl,oO,oO⟩)) ?_);refine J5 ?_;refine jp (kM (i:=i) rfl rfl oO dO lZ (jq (oe (k:=0) (i:=i) rfl kV hS rfl oO dO ?_)));refine J1 ?_;refine jp (kT rfl Tryz.underlying141 ⟨_,Tryz.underlying99⟩ (sR _) (jp (y7 rfl rfl (r:=((V/km^i+(x*2^c)%4294967296:Nat):Int)) (by rw[hget,<-He _ _ _ oO hVd];exact rS rfl _ _ (by show _<4294967296;omega) (by show _<4294967296;omega)) (jp (kM (i:=i) rfl rfl oO dO lZ (jh (pO (k:=0) (i:=i) (a:=_) rfl rfl rfl kV hS rfl oO dO ?_)))))));intro wz3 hS;refine ja ?_;have hset:=zI (b:=km) (v:=V) (n:=n) (k:=i) (x:=(x*2^c)%4294967296) dD hVb hlow;rw[hdg]at hset;rw[en,hset]at hS;have hnext:V+km^i*((x*2^c)%4294967296)+km^(i+1)*(x*2^c/4294967296)=X%km^(i+1)*2^c:=by
   have:km^(i+1)*(x*2^c/4294967296)=km^i*(4294967296*(x*2^c/4294967296)):=by rw[bC,ba]
   rw[hVs,this,dR,<-aV];congr 2;omega
  have hhi:x*2^c/4294967296<2147483648:=oO;refine J4 ?_;refine jp (qu rfl rfl oO (r:=((x*2^c/4294967296:Nat):Int)) (by exact qN _ 32 dD) (jp (kT rfl Tryz.underlying141 ⟨_,Tryz.underlying99⟩ (r:=((x*2^c/4294967296:Nat):Int)) (by exact pX _ ⟨rfl,oO,oO⟩) (jp (kM (i:=i+1) rfl rfl oO dO lZ (jh (pO (k:=0) (i:=i+1) (a:=_) rfl rfl rfl kV hS rfl oO dO ?_)))))));intro wz4 hS;refine ja ?_;obtain⟨e1,e2⟩:=xD (b:=km) (r:=V+km^i*((x*2^c)%4294967296)) (i:=i+1) (d:=x*2^c/4294967296) (n:=n) dD hlow (show _<4294967296 by omega);rw[en,e1,hnext]at hS;refine V3 ?_;exact⟨i+1,_,rfl,⟨hlt,h0,h1,h5,vi rfl oO,hS⟩,oO⟩
 ·refine J1 ?_;refine jt ?_;obtain rfl:i=m:=oO;rw[aW hXm]at hS;refine J2 ?_;refine jt ?_;refine kJ rfl rfl ?_;exact⟨⟨b1,rfl,hS.ge (k:=0) rfl,hS.get (k:=0) rfl⟩,hS.kb⟩
structure LF (ρ:Nat->Value) (n s m M bu bv bq:Nat):Prop where
 h6:ρ 6=iB n
 h7:ρ 7= .int .u64 s
 h8:ρ 8= .slice (some ⟨bu,0,none⟩) (m+1) (m+1)
 h9:ρ 9= .slice (some ⟨bv,0,none⟩) n (n+1)
 h10:ρ 10= .slice (some ⟨bq,0,none⟩) M M
theorem DV (a b c d:lj): [a,b,c].set 2 d=[a,b,d]:=rfl
theorem Rr (t:Nat) (h:t<=18446744073709551615):qg .and .u64 (t:Int) 4294967295=((t%4294967296:Nat):Int):=by
 rw[show t%4294967296=t&&&4294967295 from(gN t 32).symm];exact Gn rfl t 4294967295 (by show t<18446744073709551616;omega) dD
theorem RA (x y:Nat) (hx:x<=4294967295) (hy:y<=4294967296):IntKind.u32.wrap (IntKind.u64.wrap ((x:Int)-(y:Int)))=(((x+4294967296-y)%4294967296:Nat):Int):=by
 rw[xG,tV];omega
theorem IV (x y:Nat) (hx:x<=4294967295) (hy:y<=4294967296):(x+4294967296-y)%4294967296+y=x+4294967296*(if x<y then 1 else 0):=by
 rcases bH x y with h|h
 ·rw[aj h];omega
 ·rw[ah oO];omega
theorem OM (vx vy:Value) (X Y:Nat) (w:World) (hx:Sl (uk .u32) 1 w vx (kY X)) (hy:Sl (uk .u32) 1 w vy (kY Y)) (hYX:Y<=X) (hn2:2<=(kY Y).length) (hmx:(kY X).length<=4398046511104):
  mb Tryz.prog 164 #[vx,vy] w λr w'=>(∃q s,r= .tuple #[q,s]/\Sl (uk .u32) 1 w' q (kY (X/Y))/\Sl (uk .u32) 1 w' s (kY (X%Y)))/\Below w.heap.size w w':=by
 have hB:km=4294967296:=rfl;have hS:=St.init w;obtain⟨m,hm⟩:=jz ((kY X).length);obtain⟨n,hn⟩:=jz ((kY Y).length);obtain⟨M,hM⟩:=jz (m-n+1);have hXm:X<km^m:=hm▸l9 X;have hYn:Y<km^n:=hn▸l9 Y;have hnm:n<=m:=by rw[hn,hm];exact oa dD hYX
 have hY0:0<Y:=by
  rcases df Y with h|h
  ·rw[h]at hn2;unfold kY at hn2;rw[n6]at hn2;exact absurd hn2 dD
  ·exact h
 obtain⟨hn0,htp⟩:=zE hY0;rw[<-hn]at hn0 htp hn2;have htl:=mw Y (n-1);obtain⟨x,hxe⟩:=jz (lh km Y (n-1));rw[<-hxe]at htp htl;refine enter Tryz.func164 rfl Tryz.ntmps164 rfl ?_;refine J3 ?_;refine jp (ky rfl (hy.kb hS.kb) ⟨_,Tryz.underlying138⟩ ?_);refine J2 ?_;refine jb ?_;refine kG (λρ w'=>∃s:Nat,s<32/\x*2^s<km/\km<=2*(x*2^s)/\ρ 0=vx/\ρ 1=vy/\ρ 6=iB n/\ρ 7= .int .u64 s/\St w w' []) ?_ ?_
 ·refine ja ?_;refine kF (σ:=Nat) (λs ρ w'=>s<32/\x*2^s<km/\ρ 0=vx/\ρ 1=vy/\ρ 6=iB n/\ρ 7= .int .u64 s/\St w w' []) (λs=>32-s) 0
   ⟨dD,by simp only[cU,eN];omega,rfl,rfl,vi rfl (by rw[hn]),rfl,hS⟩ ?_
  clear hS;rintro s ρ w2 ⟨hs,hxs,h0,h1,h6,h7,hS⟩;refine J3 ?_;refine jp (ks (i:=n-1) rfl rfl (hy.kb hS.kb) oO dO lZ (jq (kC (i:=n-1) 0 rfl kV (hy.kb hS.kb) dO rfl rfl (.inr rfl) ?_)));refine J1 ?_;refine jp (u6 rfl rfl oO (r:=((x*2^s:Nat):Int)) (by rw[mE,<-hxe];exact u5 x s _ (by show s<=32;omega) (pX _ ⟨rfl,oO,oO⟩)) ?_);refine V1 ?_;by_cases hlt:x*2^s<2147483648
  ·refine V1 ?_;have hs2:s+1<32:=by
    rcases bH (s+1) 32 with g|g
    ·exact g
    ·exfalso;obtain rfl:s=31:=oO;have:1*2^31<=x*2^31:=aI _ htp;omega
   refine V3 ?_;refine⟨s+1,_,rfl,⟨hs2,?_,h0,h1,h6,vi rfl oO,hS⟩,oO⟩;rw[bC,<-ba];omega
  ·refine J1 ?_;refine jt ?_;exact⟨_,rfl,s,hs,hxs,oO,h0,h1,h6,h7,hS⟩
 clear hS;rintro ρ w2 ⟨s,hs,hxs,hxs2,h0,h1,h6,h7,hS⟩;refine ja ?_;rw[hxe]at hxs hxs2;obtain⟨hD,hD2⟩:=Iu hn0 hYn hs hxs hxs2;have hpc:0<2^s:=cy dD;have hpc2:2^s<=2^31:=bJ dD oO;obtain⟨D,hDe⟩:=jz (Y*2^s);rw[<-hDe]at hD hD2;have hD0:0<D:=by rw[hDe];exact dH hY0 hpc
 have hUD:X*2^s<D*km^(m-n+1):=by
  have h3:X*2^s<km^m*2^s:=de hXm hpc;have h4:km^m*2^s<=km^m*2^31:=bA _ hpc2;have h5:km^n*km^(m-n+1)=km^m*km:=by rw[<-dA,<-bC];congr 1;omega
  have h6:km^n*km^(m-n+1)<=2*D*km^(m-n+1):=aI _ hD2;rw[ba]at h6;have h7:km^m*km=km^m*4294967296:=rfl;omega
 rw[<-hM]at hUD;clear hxs hxs2 hXm;refine J2 ?_;refine jh (kf Tryz.call184 rfl (Bd _ X s (m+1) _ (hx.kb hS.kb) hs oO oO) ?_);rintro r w3 ⟨⟨bu,rfl,hbu1,hbu2⟩,hB3⟩;replace hS:=hS.push hB3 hbu1 hbu2;refine J3 ?_;refine jh (kf Tryz.call184 rfl (Bd _ Y s (n+1) _ (hy.kb hS.kb) hs oO oO) ?_);rintro r w4 ⟨⟨bv,rfl,hbv1,hbv2⟩,hB4⟩;replace hS:=hS.push hB4 hbv1 hbv2;rw[<-hDe]at hS;refine J1 ?_;refine jp (FX (hi:=n) rfl rfl rfl oO lZ ?_);refine J2 ?_;refine jp (ky rfl (hx.kb hS.kb) ⟨_,Tryz.underlying138⟩ ?_);refine J3 ?_;refine jh (qj (n:=M) rfl rfl lZ oO oO oO oO hS ?_);intro b1 wz2 hS hBz2;refine J2 ?_;refine jp (ky rfl (hx.kb hS.kb) ⟨_,Tryz.underlying138⟩ ?_);refine V3 ?_;rw[<-pi,show 0=km^M*0 by rw[eY]]at hS;refine kF (σ:=Nat×Nat×Nat) (λt ρ w'=>t.1<=M/\X*2^s=t.2.1*D*km^t.1+t.2.2/\t.2.2<D*km^t.1/\LF ρ n s m M bu bv b1/\ρ 11=iB ((t.1:Int)-1)/\
   St w w' [(b1,141,Kr .u32 (pad km (km^t.1*t.2.1) M)),(bv,141,Kr .u32 (pad km D (n+1))),(bu,141,Kr .u32 (pad km t.2.2 (m+1)))]) (λt=>t.1) (M,0,X*2^s)
  ⟨aB _,by simp,hUD,⟨h6,h7,rfl,rfl,rfl⟩,vi rfl oO,hS⟩ ?_
 clear hS h0 h1 h6 h7;rintro⟨k,Q,V⟩ ρ w6 ⟨hk,hinv,hV,hF,h11,hS⟩;simp only at hk hinv hV h11 hS;refine V2 ?_;by_cases hk0:0<k
 ·refine V1 ?_;have hpk:0<km^(k-1):=cy dD;have hkk:km^k=km^(k-1)*km:=by rw[<-bC];congr 1;omega
  have hVs:V%km^(k-1)+km^(k-1)*(V/km^(k-1))=V:=fz _ _;have hU:V/km^(k-1)<D*km:=by
   refine dg ?_;rw[hkk]at hV;rw[ix];exact hV
  have hlo:V%km^(k-1)<km^(k-1):=bl _ hpk;obtain⟨lo,hloe⟩:=jz (V%km^(k-1));obtain⟨U,hUe⟩:=jz (V/km^(k-1));rw[<-hloe,<-hUe]at hVs;rw[<-hUe]at hU;rw[<-hloe]at hlo;clear hloe hUe;obtain⟨j,hj⟩:=jz (k-1);rw[<-hj]at hpk hkk hVs hlo;have hq0:U/D<km:=dg hU;have hQ:km^k*Q<km^M:=by
   rcases bH (km^k*Q) (km^M)with h|h
   ·exact h
   ·exfalso;have h3:D*km^M<=D*(km^k*Q):=bA _ h;have h4:D*(km^k*Q)=Q*D*km^k:=by ac_rfl
    omega
  obtain⟨eq1,eq2⟩:=uw (b:=km) (q:=Q) (i:=k) (e:=U/D) (n:=M) dD hq0 hk0 hk hQ;have hinv2:X*2^s=(km*Q+U/D)*D*km^j+(lo+km^j*(U%D)):=by
   have g1:=cI U D;have g2:km^j*U=km^j*(D*(U/D))+km^j*(U%D):=by rw[<-aV,g1]
   have g3:(km*Q+U/D)*D*km^j=Q*D*km^k+km^j*(D*(U/D)):=by
    rw[hkk,bn,bn];congr 1<;>ac_rfl
   rw[g3,hinv,<-hVs,g2];omega
  have hV2:lo+km^j*(U%D)<D*km^j:=by
   have g1:U%D+1<=D:=bl _ hD0;have g2:km^j*(U%D+1)<=km^j*D:=bA _ g1;rw[bF D,aV]at*;omega
  rw[<-hVs]at hS;clear hinv hV hVs hQ hUD;have hjm:j+n+1<=m+1:=oO;have h11':ρ 11=iB (j:Int):=h11.trans (bB (Value.int IntKind.i64) oO);clear h11;have hkn:=Kn.of n U D hn2 hD hD2 hU;have hU1:U<km^(n+1):=by
   rw[bC];exact iR hU (de hD dD)
  have hgU:∀Z i,i<=n->(pad km (lo+km^j*Z) (m+1)).getD (j+i) 0=lh km Z i:=λZ i hi=>by rw[oq _ _ oO,Fx dD hlo]
  have hgD:∀i,i<n+1->(pad km D (n+1)).getD i 0=lh km D i:=λi hi=>oq _ _ hi;have hgd1:=hgD (n-1) oO;have hgd2:=hgD (n-2) oO;have a0:=mw U n;have a1:=mw U (n-1);have a2:=mw U (n-2);have c1:=mw D (n-1);have c2:=mw D (n-2);have hd1:=hkn.h1;obtain⟨top,htop⟩:=jz (lh km U n*km+lh km U (n-1));have htop2:top=lh km U (n-1)+lh km U n*2^32:=by rw[htop,fc]
  have hor:lh km U n*2^32|||lh km U (n-1)=top:=by rw[gu,uK _ _ _ oO,htop2]
  have htl2:top<=18446744073709551615:=by rw[htop];omega
  have hgn1:(pad km (lo+km^j*U) (m+1)).getD (j+n-1) 0=lh km U (n-1):=by rw[show j+n-1=j+(n-1) by omega];exact hgU U _ oO
  have hgn2:(pad km (lo+km^j*U) (m+1)).getD (j+n-2) 0=lh km U (n-2):=by rw[show j+n-2=j+(n-2) by omega];exact hgU U _ oO
  refine ja ?_;refine kK [jo 0,jo 1,jo 2,jo 3,jo 4,ju 5,jo 6,jo 7,jo 8,jo 9,jo 10,jo 11,jo 12,jo 13,ju 14,jo 15,jo 16,jo 17] kR kR hS ?_;intro wz3 hS hBz3;refine jl rfl (kw hF.h8 ?_);refine J1 ?_;refine jl rfl (kw hF.h6 ?_);refine J1 ?_;refine jl rfl (kM (i:=j+n) rfl rfl oO dO lZ (jm rfl (oe (k:=2) (i:=j+n) rfl kV hS rfl oO dO (jl rfl (kT rfl Tryz.underlying99 ⟨_,Tryz.underlying141⟩ (r:=((lh km U n:Nat):Int)) (by rw[hgU U n oO];exact lE _ ⟨rfl,oO,oO⟩) (jl rfl (u6 rfl rfl oO (r:=((lh km U n*2^32:Nat):Int)) (by exact u5 _ 32 _ dD (lE _ ⟨rfl,oO,oO⟩)) (jl rfl (kw hF.h8 ?_)))))))));refine J1 ?_;refine jl rfl (kw hF.h6 ?_);refine J2 ?_;refine jl rfl (kM (i:=j+n-1) rfl rfl oO dO lZ (jm rfl (oe (k:=2) (i:=j+n-1) rfl kV hS rfl oO dO (jl rfl (kT rfl Tryz.underlying99 ⟨_,Tryz.underlying141⟩ (r:=((lh km U (n-1):Nat):Int)) (by rw[hgn1];exact lE _ ⟨rfl,oO,oO⟩) (jl rfl (y7 rfl rfl (r:=((top:Nat):Int)) (by rw[<-hor];exact rS rfl _ _ (by show _<18446744073709551616;omega) (by show _<18446744073709551616;omega)) ?_)))))));refine J2 ?_;refine jp (kw hF.h9 (jp (kw hF.h6 ?_)));refine J1 ?_;refine jp (kM (i:=n-1) rfl rfl oO dO lZ (jq (oe (k:=1) (i:=n-1) rfl kV hS rfl oO dO (jp (kT rfl Tryz.underlying99 ⟨_,Tryz.underlying141⟩ (r:=((lh km D (n-1):Nat):Int)) (by rw[hgd1];exact lE _ ⟨rfl,oO,oO⟩) (jp (sf rfl rfl oO (r:=((top/lh km D (n-1):Nat):Int)) (by rw[jj _ _ oO];push_cast;rfl) ?_)))))));refine J2 ?_;refine jp (kw hF.h9 (jp (kw hF.h6 ?_)));refine J1 ?_;refine jp (kM (i:=n-1) rfl rfl oO dO lZ (jq (oe (k:=1) (i:=n-1) rfl kV hS rfl oO dO (jp (kT rfl Tryz.underlying99 ⟨_,Tryz.underlying141⟩ (r:=((lh km D (n-1):Nat):Int)) (by rw[hgd1];exact lE _ ⟨rfl,oO,oO⟩) (jp (pF rfl rfl oO (r:=((top%lh km D (n-1):Nat):Int)) (by rw[dQ oO];push_cast;rfl) ?_)))))));refine J1 ?_;refine jb ?_;refine kG (λρ w'=>∃g,g<km/\U/D<=g/\g<=U/D+1/\LF ρ n s m M bu bv b1/\ρ 11=iB j/\ρ 13= .int .u64 g/\
    St w w' [(b1,141,Kr .u32 (pad km (km^k*Q) M)),(bv,141,Kr .u32 (pad km D (n+1))),(bu,141,Kr .u32 (pad km (lo+km^j*U) (m+1)))]) ?_ ?_
  ·refine ja ?_;refine kF (σ:=Nat×Nat) (λt ρ w'=>t.1*lh km D (n-1)+t.2=top/\U/D<=t.1/\t.2<km/\LF ρ n s m M bu bv b1/\ρ 11=iB j/\ρ 13= .int .u64 t.1/\ρ 14= .int .u64 t.2/\
     St w w' [(b1,141,Kr .u32 (pad km (km^k*Q) M)),(bv,141,Kr .u32 (pad km D (n+1))),(bu,141,Kr .u32 (pad km (lo+km^j*U) (m+1)))]) (λt=>t.1) (top/lh km D (n-1),top%lh km D (n-1))
    ⟨by simp only;rw[bF];exact cI _ _,by simp only;rw[htop];exact hkn.q_le_top,by simp only;have:=bl top hd1;omega,⟨hF.h6,hF.h7,hF.h8,hF.h9,hF.h10⟩,h11',rfl,rfl,hS⟩ ?_
   clear hS hF h11';rintro⟨g,r⟩ ρ w3 ⟨hinv,hgq,hr,hF,h11,h13,h14,hS⟩;simp only at hinv hgq hr h13 h14 hS;have hgt:g<=top:=by
    have:g*1<=g*lh km D (n-1):=bA _ hd1;omega
   refine ja ?_;by_cases hgB:km<=g
   ·refine ja ?_;refine kK [jo 0,jo 1,jo 2,jo 3,jo 4,jo 5,jo 6,jo 7,ju 8,jo 9,jo 10,jo 11,jo 12,jo 13,jo 14,jo 15,jo 16,jo 17,jo 18,ju 19,jo 20,jo 21,jo 22,jo 23] kR kR hS ?_;intro wz4 hS hBz4;refine J3 ?_;refine nh rfl (kg 95 kR rfl dT) (nh rfl (kg 95 kR rfl dT) (nh rfl (kg 95 kR rfl dT) (nh rfl (kg 95 kR rfl dT) (nh rfl (kg 95 kR rfl dT) (nh rfl (kg 95 kR rfl dT) (nh rfl (kg 95 kR rfl dT) (nh rfl (kg 95 kR rfl dT) (nh rfl (kg 95 kR rfl dT) (nh rfl (kg 95 kR rfl dT) (nh rfl (kg 95 kR rfl dT) (nh rfl (kg 95 kR rfl dT) (nh rfl (kg 95 kR rfl dT) (nh rfl (kg 95 kR rfl dT) ?_)))))))))))));refine nh rfl (kg 95 kR rfl dT) (nh rfl (kg 95 kR rfl dT) (nh rfl (kg 95 kR rfl dT) (nh rfl (kg 95 kR rfl dT) (nh rfl (kg 95 kR rfl dT) (nh rfl (kg 95 kR rfl dT) (jl rfl (kH (vb rfl dT) rfl ?_)))))));refine ja ?_;refine lu rfl (rfl) ?_;refine ja ?_;have hgq2:U/D<g:=oO;have hg0:0<g:=bZ (aw _) hgq2;have hg1:U/D<=g-1:=gR hgq2;refine V3 ?_;have hgd:(g-1)*lh km D (n-1)+(r+lh km D (n-1))=top:=by
     obtain⟨g',rfl⟩:∃g',g=g'+1:=⟨g-1,oO⟩;rw[bn,dG]at hinv;rw[ik];omega
    refine J1 ?_;refine jp (kw hF.h9 (jp (kw hF.h6 ?_)));refine J1 ?_;refine jp (kM (i:=n-1) rfl rfl oO dO lZ (jq (oe (k:=1) (i:=n-1) rfl kV hS rfl oO dO (jp (kT rfl Tryz.underlying99 ⟨_,Tryz.underlying141⟩ (r:=((lh km D (n-1):Nat):Int)) (by rw[hgd1];exact lE _ ⟨rfl,oO,oO⟩) (jp (py rfl rfl (r:=((r+lh km D (n-1):Nat):Int)) (by exact lE _ ⟨by push_cast;rfl,oO,oO⟩) ?_)))))));refine V3 ?_;by_cases hbrk:km<=r+lh km D (n-1)
    ·refine J1 ?_;refine jt ?_;have hgB:g-1<km:=by
      rcases bH (g-1) km with h|h
      ·exact h
      ·exfalso;have h1:km*lh km D (n-1)<=(g-1)*lh km D (n-1):=aI _ h;have h2:=hkn.top_le;rw[<-htop,bF]at h2;omega
     have hgq:=hkn.rest (by rw[<-htop];exact hgd) oO hbrk;exact⟨_,rfl,g-1,hgB,hg1,oO,⟨hF.h6,hF.h7,hF.h8,hF.h9,hF.h10⟩,h11,vi rfl oO,hS⟩
    ·refine V1 ?_;refine⟨(g-1,r+lh km D (n-1)),_,rfl,⟨hgd,hg1,by simp only;omega,⟨hF.h6,hF.h7,hF.h8,hF.h9,hF.h10⟩,h11,vi rfl (by simp only;omega),rfl,hS⟩,by simp only;omega⟩
   ·have hgd2':g*lh km D (n-2)<=4294967295*4294967295:=fp oO c2;have hor2:r*2^32|||lh km U (n-2)=r*4294967296+lh km U (n-2):=by rw[gu,uK _ _ _ oO,fc]
    refine ja ?_;refine kK [jo 0,jo 1,jo 2,jo 3,jo 4,jo 5,jo 6,jo 7,ju 8,jo 9,jo 10,jo 11,jo 12,jo 13,jo 14,jo 15,jo 16,jo 17,jo 18,ju 19,jo 20,jo 21,jo 22,jo 23] kR kR hS ?_;intro wz5 hS hBz5;refine J3 ?_;refine kL rfl (kd 95 kR rfl dF) (kw h13 (kL rfl (kd 95 kR rfl dF) (kw hF.h9 (kL rfl (kd 95 kR rfl dF) (kw hF.h6 (kL rfl (kd 95 kR rfl dF) (sh rfl rfl (ct _ oO) (kL rfl (kd 95 kR rfl dF) (kM (i:=n-2) rfl rfl oO dO lZ (mC rfl (kd 95 kR rfl dF) (oe (k:=1) (i:=n-2) rfl kV hS rfl oO dO (kL rfl (kd 95 kR rfl dF) (kT rfl Tryz.underlying99 ⟨_,Tryz.underlying141⟩ (r:=((lh km D (n-2):Nat):Int)) (by rw[hgd2];exact lE _ ⟨rfl,oO,oO⟩) (kL rfl (kd 95 kR rfl dF) (wF rfl rfl (r:=((g*lh km D (n-2):Nat):Int)) (by exact lE _ ⟨by push_cast;rfl,oO,oO⟩) (kL rfl (kd 95 kR rfl dF) (kw h14 (kL rfl (kd 95 kR rfl dF) (u6 rfl rfl oO (r:=((r*2^32:Nat):Int)) (by exact u5 _ 32 _ dD (lE _ ⟨rfl,oO,oO⟩)) (kL rfl (kd 95 kR rfl dF) (kw hF.h8 (kL rfl (kd 95 kR rfl dF) (kw h11 (kL rfl (kd 95 kR rfl dF) (kw hF.h6 (kL rfl (kd 95 kR rfl dF) (py rfl rfl (ct _ oO) ?_)))))))))))))))))))))))))));refine kL rfl (kd 95 kR rfl dF) (sh rfl rfl (ct _ oO) (kL rfl (kd 95 kR rfl dF) (kM (i:=j+n-2) rfl rfl oO dO lZ (mC rfl (kd 95 kR rfl dF) (oe (k:=2) (i:=j+n-2) rfl kV hS rfl oO dO (kL rfl (kd 95 kR rfl dF) (kT rfl Tryz.underlying99 ⟨_,Tryz.underlying141⟩ (r:=((lh km U (n-2):Nat):Int)) (by rw[hgn2];exact lE _ ⟨rfl,oO,oO⟩) (kL rfl (kd 95 kR rfl dF) (y7 rfl rfl (r:=((r*4294967296+lh km U (n-2):Nat):Int)) (by rw[<-hor2];exact rS rfl _ _ (by show _<18446744073709551616;omega) (by show _<18446744073709551616;omega)) (kL rfl (kd 95 kR rfl dF) (sT rfl rfl (jl rfl (kH (vb rfl dF) rfl ?_)))))))))))));refine ja ?_;by_cases href:r*4294967296+lh km U (n-2)<g*lh km D (n-2)
    ·refine lu rfl (ai (by exact_mod_cast href)) ?_;refine ja ?_;have hgq2:U/D<g:=hkn.refuted (by rw[<-htop];exact hinv) hgq href;have hg0:0<g:=bZ (aw _) hgq2;have hg1:U/D<=g-1:=gR hgq2;refine V3 ?_;have hgd:(g-1)*lh km D (n-1)+(r+lh km D (n-1))=top:=by
      obtain⟨g',rfl⟩:∃g',g=g'+1:=⟨g-1,oO⟩;rw[bn,dG]at hinv;rw[ik];omega
     refine J1 ?_;refine jp (kw hF.h9 (jp (kw hF.h6 ?_)));refine J1 ?_;refine jp (kM (i:=n-1) rfl rfl oO dO lZ (jq (oe (k:=1) (i:=n-1) rfl kV hS rfl oO dO (jp (kT rfl Tryz.underlying99 ⟨_,Tryz.underlying141⟩ (r:=((lh km D (n-1):Nat):Int)) (by rw[hgd1];exact lE _ ⟨rfl,oO,oO⟩) (jp (py rfl rfl (r:=((r+lh km D (n-1):Nat):Int)) (by exact lE _ ⟨by push_cast;rfl,oO,oO⟩) ?_)))))));refine V3 ?_;by_cases hbrk:km<=r+lh km D (n-1)
     ·refine J1 ?_;refine jt ?_;have hgB:g-1<km:=by
       rcases bH (g-1) km with h|h
       ·exact h
       ·exfalso;have h1:km*lh km D (n-1)<=(g-1)*lh km D (n-1):=aI _ h;have h2:=hkn.top_le;rw[<-htop,bF]at h2;omega
      have hgq:=hkn.rest (by rw[<-htop];exact hgd) oO hbrk;exact⟨_,rfl,g-1,hgB,hg1,oO,⟨hF.h6,hF.h7,hF.h8,hF.h9,hF.h10⟩,h11,vi rfl oO,hS⟩
     ·refine V1 ?_;refine⟨(g-1,r+lh km D (n-1)),_,rfl,⟨hgd,hg1,by simp only;omega,⟨hF.h6,hF.h7,hF.h8,hF.h9,hF.h10⟩,h11,vi rfl (by simp only;omega),rfl,hS⟩,by simp only;omega⟩
    ·refine lH rfl (ae (by exact_mod_cast href)) ?_;refine jt ?_;have hnear:=hkn.near (by rw[<-htop];exact hinv) oO (iJ href);exact⟨_,rfl,g,oO,hgq,hnear,⟨hF.h6,hF.h7,hF.h8,hF.h9,hF.h10⟩,h11,h13,hS⟩
  clear hS a0 a1 a2 c1 c2 hor htl2 htop2 hF h11';rintro ρ w2 ⟨g,hgB,hq1,hq2,hF,h11,h13,hS⟩;clear htop hgn1 hgn2;refine J3 ?_;refine jb ?_;refine kG (λρ w'=>∃c bb Z,c<=4294967295/\bb<=1/\Z<km^(n+1)/\Z+g*D=U+km^n*(c+bb)/\LF ρ n s m M bu bv b1/\ρ 11=iB j/\ρ 13= .int .u64 g/\ρ 15= .int .u64 (c:Nat)/\ρ 16= .int .u64 (bb:Nat)/\
    St w w' [(b1,141,Kr .u32 (pad km (km^k*Q) M)),(bv,141,Kr .u32 (pad km D (n+1))),(bu,141,Kr .u32 (pad km (lo+km^j*Z) (m+1)))]) ?_ ?_
  ·refine ja ?_;refine kF (σ:=Nat×Nat×Nat×Nat) (λt ρ w'=>t.1<=n/\t.2.1<=4294967295/\t.2.2.1<=1/\t.2.2.2<km^(n+1)/\t.2.2.2+g*(D%km^t.1)=U+km^t.1*(t.2.1+t.2.2.1)/\LF ρ n s m M bu bv b1/\ρ 11=iB j/\ρ 13= .int .u64 g/\ρ 15= .int .u64 t.2.1/\ρ 16= .int .u64 t.2.2.1/\ρ 17=iB t.1/\
     St w w' [(b1,141,Kr .u32 (pad km (km^k*Q) M)),(bv,141,Kr .u32 (pad km D (n+1))),(bu,141,Kr .u32 (pad km (lo+km^j*t.2.2.2) (m+1)))]) (λt=>n-t.1) (0,0,0,U)
    ⟨aw _,aw _,aw _,hU1,by simp[ec],⟨hF.h6,hF.h7,hF.h8,hF.h9,hF.h10⟩,h11,h13,rfl,rfl,rfl,hS⟩ ?_
   clear hS hF h11 h13;rintro⟨i,c,bb,Z⟩ ρ w3 ⟨hi,hc,hbb,hZ,hinv,hF,h11,h13,h15,h16,h17,hS⟩;simp only at hi hc hbb hZ hinv h15 h16 h17 hS;refine J1 ?_;refine jp (kw hF.h6 ?_);refine V1 ?_;by_cases hlt:i<n
   ·refine V1 ?_;have x1:=mw Z i;have d1:=mw D i;have hgX:=hgU Z i hi;obtain⟨u1,u2⟩:=yM g (lh km D i) 0 c oO d1 oO hc;obtain⟨t,ht⟩:=jz (g*lh km D i+c);have htl:t<=18446744073709551615:=oO;refine J2 ?_;refine jp (kw hF.h9 ?_);refine J1 ?_;refine jp (kM (i:=i) rfl rfl oO dO lZ (jq (oe (k:=1) (i:=i) rfl kV hS rfl oO dO (jp (kT rfl Tryz.underlying99 ⟨_,Tryz.underlying141⟩ (r:=((lh km D i:Nat):Int)) (by rw[hgD i oO];exact lE _ ⟨rfl,oO,oO⟩) (jp (wF rfl rfl (r:=((g*lh km D i:Nat):Int)) (by exact lE _ ⟨by push_cast;rfl,oO,oO⟩) (jp (py rfl rfl (r:=((t:Nat):Int)) (by rw[ht];exact lE _ ⟨oO,oO,oO⟩) ?_)))))))));refine J2 ?_;refine jp (EZ rfl rfl (Rr t htl) ?_);refine J1 ?_;refine jp (py rfl rfl (r:=((t%4294967296+bb:Nat):Int)) (by exact lE _ ⟨oO,oO,oO⟩) ?_);refine J2 ?_;refine jp (qu rfl rfl oO (r:=((t/4294967296:Nat):Int)) (by exact qN _ 32 dD) ?_);refine Y1 ?_;refine jp (kw hF.h8 ?_);refine J3 ?_;refine jp (kM (i:=j+i) rfl rfl oO dO lZ (jq (oe (k:=2) (i:=j+i) rfl kV hS rfl oO dO (jp (kT rfl Tryz.underlying99 ⟨_,Tryz.underlying141⟩ (r:=((lh km Z i:Nat):Int)) (by rw[hgX];exact lE _ ⟨rfl,oO,oO⟩) ?_)))));refine V5 ?_;obtain⟨y,hy9⟩:=jz (t%4294967296+bb);have hyl:y<=4294967296:=oO;rw[<-hy9];obtain⟨xx,hxx⟩:=jz ((if lh km Z i<y then lh km Z i+4294967296 else lh km Z i));obtain⟨b',hb'⟩:∃c',c'=(if lh km Z i<y then 1 else 0):=⟨_,rfl⟩;have hub:xx=lh km Z i+4294967296*b':=by rw[hxx,hb'];split<;>omega
    have hul:y<=xx/\xx-y<=4294967295:=by rw[hxx];split<;>omega
    have hb1:b'<=1:=by rw[hb'];split<;>omega
    refine kG (λρ w'=>LF ρ n s m M bu bv b1/\ρ 11=iB j/\ρ 13= .int .u64 g/\ρ 15= .int .u64 (t/4294967296:Nat)/\ρ 16= .int .u64 (b':Nat)/\ρ 17=iB i/\ρ 18= .int .u64 (y:Nat)/\ρ 19= .int .u64 (xx:Nat)/\w3=w') ?_ ?_
    ·refine ja ?_;by_cases hlt2:lh km Z i<y
     ·rw[aj hlt2]at hxx hb';refine J2 ?_;refine jp (py rfl rfl (r:=((xx:Nat):Int)) (by rw[hxx];exact lE _ ⟨oO,oO,oO⟩) ?_);refine V2 ?_;exact⟨_,rfl,⟨hF.h6,hF.h7,hF.h8,hF.h9,hF.h10⟩,h11,h13,rfl,vi rfl (by rw[hb'];rfl),h17,vi rfl (by rw[hy9]),rfl,rfl⟩
     ·rw[ah hlt2]at hxx hb';refine V1 ?_;exact⟨_,rfl,⟨hF.h6,hF.h7,hF.h8,hF.h9,hF.h10⟩,h11,h13,rfl,vi rfl (by rw[hb'];rfl),h17,vi rfl (by rw[hy9]),vi rfl (by rw[hxx]),rfl⟩
    clear hxx hb' hF h11 h13 h15 h16 h17;rintro ρ w' ⟨hF,h11,h13,h15,h16,h17,h18,h19,rfl⟩;refine jr ?_;refine jp (kw hF.h8 ?_);refine J5 ?_;refine jp (sh rfl rfl (r:=((xx-y:Nat):Int)) (by exact lE _ ⟨oO,oO,oO⟩) (jp (kT rfl Tryz.underlying141 ⟨_,Tryz.underlying99⟩ (r:=((xx-y:Nat):Int)) (by exact pX _ ⟨rfl,oO,oO⟩) (jp (kM (i:=j+i) rfl rfl oO dO lZ (jh (pO (k:=2) (i:=j+i) (a:=_) rfl rfl rfl kV hS rfl oO dO ?_)))))));intro wz6 hS;refine ja ?_;obtain⟨Z',e1,e2,e3⟩:=pN (b:=km) (lo:=lo) (X:=Z) (o:=j) (k:=i) (d:=xx-y) (n:=m+1) dD hlo (show _<4294967296 by omega) oO;rw[DV,e1]at hS;refine V3 ?_;refine⟨(i+1,t/4294967296,b',Z'),_,rfl,⟨hlt,by simp only;omega,hb1,e3 _ oO hZ,?_,⟨hF.h6,hF.h7,hF.h8,hF.h9,hF.h10⟩,h11,h13,h15,h16,vi rfl (by simp),hS⟩,by simp only;omega⟩;simp only;have f1:g*(D%km^(i+1))=g*(D%km^i)+km^i*(g*lh km D i):=by rw[mod_pow_succ,aV];congr 1;ac_rfl
    have f2:km^(i+1)*(t/4294967296+b')=km^i*(4294967296*(t/4294967296)+4294967296*b'):=by rw[bC,ba,<-aV]
    have f3:lh km Z i+(4294967296*(t/4294967296)+4294967296*b')=(xx-y)+(g*lh km D i+c)+bb:=oO;have f4:km^i*lh km Z i+km^i*(4294967296*(t/4294967296)+4294967296*b')=km^i*(xx-y)+km^i*(g*lh km D i)+km^i*(c+bb):=by
     rw[<-aV,f3,<-aV,<-aV];congr 1;omega
    rw[f1,f2];omega
   ·refine J1 ?_;refine jt ?_;obtain rfl:i=n:=oO;rw[aW hD]at hinv;exact⟨_,rfl,c,bb,Z,hc,hbb,hZ,hinv,⟨hF.h6,hF.h7,hF.h8,hF.h9,hF.h10⟩,h11,h13,h15,h16,hS⟩
  clear hS hF h11 h13;rintro ρ w3 ⟨c,bb,Z,hc,hbb,hZ,hinv,hF,h11,h13,h15,h16,hS⟩;refine ja ?_;have x1:=mw Z n;have hgX:=hgU Z n (aB _);refine J2 ?_;refine jp (py rfl rfl (r:=((c+bb:Nat):Int)) (by exact lE _ ⟨by push_cast;rfl,oO,oO⟩) ?_);refine Y1 ?_;refine jp (kw hF.h8 ?_);refine J1 ?_;refine jp (kw hF.h6 ?_);refine J1 ?_;refine jp (kM (i:=j+n) rfl rfl oO dO lZ (jq (oe (k:=2) (i:=j+n) rfl kV hS rfl oO dO (jp (kT rfl Tryz.underlying99 ⟨_,Tryz.underlying141⟩ (r:=((lh km Z n:Nat):Int)) (by rw[hgX];exact lE _ ⟨rfl,oO,oO⟩) ?_)))));refine V5 ?_;obtain⟨u',hu'⟩:∃u',u'=(lh km Z n+4294967296-(c+bb))%4294967296:=⟨_,rfl⟩;obtain⟨b',hb'⟩:∃b',b'=if lh km Z n<c+bb then 1 else 0:=⟨_,rfl⟩
  have hub:u'+(c+bb)=lh km Z n+4294967296*b':=by rw[hu',hb'];exact IV _ _ x1 oO
  have hb1:b'<=1:=by rw[hb'];split<;>omega
  have hbc:(b'=0↔¬lh km Z n<c+bb):=by rw[hb'];split<;>omega
  have hul:u'<km:=by rw[hu'];exact bl _ dD
  refine jr ?_;refine jp (kw hF.h8 ?_);refine J1 ?_;refine jp (kw hF.h6 ?_);refine J3 ?_;refine jp (sh rfl rfl rfl (jp (kT rfl Tryz.underlying141 ⟨_,Tryz.underlying99⟩ (r:=((u':Nat):Int)) (by rw[hu'];exact RA _ _ x1 oO) (jp (kM (i:=j+n) rfl rfl oO dO lZ (jh (pO (k:=2) (i:=j+n) (a:=_) rfl rfl rfl kV hS rfl oO dO ?_)))))));intro wz7 hS;refine ja ?_;obtain⟨Y',e1,e2,e3⟩:=pN (b:=km) (lo:=lo) (X:=Z) (o:=j) (k:=n) (d:=u') (n:=m+1) dD hlo hul oO;have hY':=e3 _ oO hZ;rw[DV,e1]at hS;have hYU:Y'+g*D=U+km^(n+1)*b':=by
   have f2:km^(n+1)*b'=km^n*(4294967296*b'):=by rw[bC,ba]
   have f4:km^n*lh km Z n+km^n*(4294967296*b')=km^n*u'+km^n*(c+bb):=by
    rw[<-aV,<-aV];congr 1;omega
   omega
  clear e1 e2 e3 hub hu' hb' hgX x1 hinv;refine V1 ?_;have hdm:=cI U D;have hDpos:0<D:=hkn.dpos;refine kG (λρ w'=>LF ρ n s m M bu bv b1/\ρ 11=iB j/\ρ 13= .int .u64 (U/D:Nat)/\
    St w w' [(b1,141,Kr .u32 (pad km (km^k*Q) M)),(bv,141,Kr .u32 (pad km D (n+1))),(bu,141,Kr .u32 (pad km (lo+km^j*(U%D)) (m+1)))]) ?_ ?_
  ·refine ja ?_;by_cases hb0:b'=0
   ·refine lH rfl (ae (by have:=hbc.1 hb0;omega)) ?_;refine ja ?_;rw[hb0,eY,eh]at hYU;have hg1:g<=U/D:=(ef hDpos).2 oO;have hgq:g=U/D:=oO;have hYm:Y'=U%D:=by rw[hgq,bF]at hYU;omega
    rw[hYm]at hS;exact⟨_,rfl,⟨hF.h6,hF.h7,hF.h8,hF.h9,hF.h10⟩,h11,h13.trans (by rw[hgq]),hS⟩
   ·refine lu rfl (ai (by have:=λh=>hb0 (hbc.2 h);omega)) ?_;refine ja ?_;obtain rfl:b'=1:=oO;have hgq:g=U/D+1:=by
     rcases bH (U/D) g with h|h
     ·omega
     ·exfalso;have:g*D<=U:=(ef hDpos).1 h;omega
    have hYR:Y'+D=U%D+km^(n+1):=by
     rw[hgq,bn,dG,bF]at hYU;omega
    refine J1 ?_;refine jp (sh rfl rfl (r:=((U/D:Nat):Int)) (by rw[hgq];exact lE _ ⟨by push_cast;omega,eo _,by generalize U/D=z at hq0⊢;omega⟩) ?_);refine J3 ?_;refine jb ?_;refine kG (λρ w'=>∃c Z,c<=1/\Z<km^(n+1)/\Z+km^n*c=Y'+D/\LF ρ n s m M bu bv b1/\ρ 11=iB j/\ρ 13= .int .u64 (U/D:Nat)/\ρ 15= .int .u64 (c:Nat)/\
      St w w' [(b1,141,Kr .u32 (pad km (km^k*Q) M)),(bv,141,Kr .u32 (pad km D (n+1))),(bu,141,Kr .u32 (pad km (lo+km^j*Z) (m+1)))]) ?_ ?_
    ·refine ja ?_;refine kF (σ:=Nat×Nat×Nat) (λt ρ w'=>t.1<=n/\t.2.1<=1/\t.2.2<km^(n+1)/\t.2.2+km^t.1*t.2.1=Y'+D%km^t.1/\LF ρ n s m M bu bv b1/\ρ 11=iB j/\ρ 13= .int .u64 (U/D:Nat)/\ρ 15= .int .u64 t.2.1/\ρ 23=iB t.1/\
       St w w' [(b1,141,Kr .u32 (pad km (km^k*Q) M)),(bv,141,Kr .u32 (pad km D (n+1))),(bu,141,Kr .u32 (pad km (lo+km^j*t.2.2) (m+1)))]) (λt=>n-t.1) (0,0,Y')
      ⟨aw _,aw _,hY',by simp[ec],⟨hF.h6,hF.h7,hF.h8,hF.h9,hF.h10⟩,h11,rfl,rfl,rfl,hS⟩ ?_
     clear hS hF h11 h13 h15 h16;rintro⟨i,c,Z⟩ ρ w3 ⟨hi,hc,hZ,hinv,hF,h11,h13,h15,h23,hS⟩;simp only at hi hc hZ hinv h15 h23 hS;refine J1 ?_;refine jp (kw hF.h6 ?_);refine V1 ?_;by_cases hlt:i<n
     ·refine V1 ?_;have x1:=mw Z i;have d1:=mw D i;have hgX:=hgU Z i hi;obtain⟨t,ht⟩:=jz (lh km Z i+lh km D i+c);refine ja ?_;refine kK [jo 0,jo 1,jo 2,jo 3,jo 4,jo 5,ju 6,jo 7,jo 8,jo 9,jo 10,jo 11,ju 12,jo 13,jo 14,jo 15] kR kR hS ?_;intro wz8 hS hBz8;refine J1 ?_;refine jl rfl (kw hF.h8 ?_);refine J3 ?_;refine jl rfl (kM (i:=j+i) rfl rfl oO dO lZ (jm rfl (oe (k:=2) (i:=j+i) rfl kV hS rfl oO dO (jl rfl (kT rfl Tryz.underlying99 ⟨_,Tryz.underlying141⟩ (r:=((lh km Z i:Nat):Int)) (by rw[hgX];exact lE _ ⟨rfl,oO,oO⟩) (jl rfl (py rfl rfl (r:=((c+lh km Z i:Nat):Int)) (by exact lE _ ⟨by push_cast;rfl,oO,oO⟩) (jl rfl (kw hF.h9 ?_)))))))));refine J1 ?_;refine jl rfl (kM (i:=i) rfl rfl oO dO lZ (jm rfl (oe (k:=1) (i:=i) rfl kV hS rfl oO dO (jl rfl (kT rfl Tryz.underlying99 ⟨_,Tryz.underlying141⟩ (r:=((lh km D i:Nat):Int)) (by rw[hgD i oO];exact lE _ ⟨rfl,oO,oO⟩) (jl rfl (py rfl rfl (r:=((t:Nat):Int)) (by rw[ht];exact lE _ ⟨oO,oO,oO⟩) ?_)))))));refine Y1 ?_;refine jp (kw hF.h8 ?_);refine J4 ?_;refine jp (kT rfl Tryz.underlying141 ⟨_,Tryz.underlying99⟩ (sR _) (jp (kM (i:=j+i) rfl rfl oO dO lZ (jh (pO (k:=2) (i:=j+i) (a:=_) rfl rfl rfl kV hS rfl oO dO ?_)))));intro wz9 hS;refine J1 ?_;refine jp (qu rfl rfl oO (r:=((t/4294967296:Nat):Int)) (by exact qN _ 32 dD) ?_);refine V1 ?_;obtain⟨Z',e1,e2,e3⟩:=pN (b:=km) (lo:=lo) (X:=Z) (o:=j) (k:=i) (d:=t%4294967296) (n:=m+1) dD hlo (bl _ dD) oO;rw[DV,e1]at hS;refine V3 ?_;refine⟨(i+1,t/4294967296,Z'),_,rfl,⟨hlt,by simp only;omega,e3 _ oO hZ,?_,⟨hF.h6,hF.h7,hF.h8,hF.h9,hF.h10⟩,h11,h13,rfl,vi rfl (by simp),hS⟩,by simp only;omega⟩;simp only;have f2:km^(i+1)*(t/4294967296)=km^i*(4294967296*(t/4294967296)):=by rw[bC,ba]
      have f4:km^i*(t%4294967296)+km^i*(4294967296*(t/4294967296))=km^i*lh km Z i+km^i*lh km D i+km^i*c:=by
       rw[<-aV,fz,ht,aV,aV]
      rw[mod_pow_succ,f2];omega
     ·refine J1 ?_;refine jt ?_;obtain rfl:i=n:=oO;rw[aW hD]at hinv;exact⟨_,rfl,c,Z,hc,hZ,hinv,⟨hF.h6,hF.h7,hF.h8,hF.h9,hF.h10⟩,h11,h13,h15,hS⟩
    clear hS hF h11 h13 h15 h16;rintro ρ w4 ⟨c,Z,hc,hZ,hinv,hF,h11,h13,h15,hS⟩;refine ja ?_;have x1:=mw Z n;have hgX:=hgU Z n (aB _);refine jr ?_;refine jp (kw hF.h8 ?_);refine J1 ?_;refine jp (kw hF.h6 ?_);refine J1 ?_;refine jp (kw hF.h8 ?_);refine J1 ?_;refine jp (kw hF.h6 ?_);refine J1 ?_;refine jp (kM (i:=j+n) rfl rfl oO dO lZ (jq (oe (k:=2) (i:=j+n) rfl kV hS rfl oO dO ?_)));refine J1 ?_;refine jp (kT rfl Tryz.underlying141 ⟨_,Tryz.underlying99⟩ (r:=((c:Nat):Int)) (by exact pX _ ⟨rfl,oO,oO⟩) (jp (py rfl rfl (r:=(((lh km Z n+c)%4294967296:Nat):Int)) (by rw[hgX,tV];omega) (jp (kM (i:=j+n) rfl rfl oO dO lZ (jh (pO (k:=2) (i:=j+n) (a:=_) rfl rfl rfl kV hS rfl oO dO ?_)))))));intro wz10 hS;refine ja ?_;obtain⟨W,e1,e2,e3⟩:=pN (b:=km) (lo:=lo) (X:=Z) (o:=j) (k:=n) (d:=(lh km Z n+c)%4294967296) (n:=m+1) dD hlo (bl _ dD) oO;rw[DV,e1]at hS;have hW:W=U%D:=by
     have hR:U%D<km^n:=iR (bl _ hDpos) hD;have hpos:0<km^n:=cy dD;have htop:lh km Z n=Z/km^n:=rU dD hZ;have hdz:=cI Z (km^n);have hmz:=bl Z hpos;have hsum:Z%km^n+km^n*(Z/km^n+c)=U%D+km^n*4294967296:=by
      have:km^(n+1)=km^n*4294967296:=bC ..;rw[aV];omega
     have hy:Z/km^n+c=4294967296:=by
      have h1:(Z%km^n+km^n*(Z/km^n+c))/km^n=(U%D+km^n*4294967296)/km^n:=by rw[hsum]
      rwa[db _ _ hpos,db _ _ hpos,bU hmz,bU hR,bX,bX]at h1
     rw[htop,hy]at e2;rw[hy]at hsum;simp only[Nat.mod_self,eY,eh]at e2;omega
    rw[hW]at hS;exact⟨_,rfl,⟨hF.h6,hF.h7,hF.h8,hF.h9,hF.h10⟩,h11,h13,hS⟩
  clear hS hF h11 h13 h15 h16 hYU;rintro ρ w4 ⟨hF,h11,h13,hS⟩;refine jr ?_;refine jp (kw hF.h10 ?_);refine J2 ?_;refine jp (kT rfl Tryz.underlying141 ⟨_,Tryz.underlying99⟩ (r:=((U/D:Nat):Int)) (by exact pX _ ⟨rfl,eo _,by generalize U/D=z at hq0⊢;omega⟩) (jp (kM (i:=j) rfl rfl oO dO lZ (jh (pO (k:=0) (i:=j) (a:=(U/D)) rfl rfl rfl kV hS rfl oO dO ?_)))));intro wz11 hS;refine ja ?_;rw[en,hj,eq1,<-hj]at hS;refine V3 ?_;exact⟨(j,km*Q+U/D,lo+km^j*(U%D)),_,rfl,⟨by simp only;omega,hinv2,hV2,⟨hF.h6,hF.h7,hF.h8,hF.h9,hF.h10⟩,rfl,hS⟩,by simp only;omega⟩
 ·refine J1 ?_;refine jt ?_;obtain rfl:k=0:=oO;rw[cU,eN]at hinv hV;rw[cU,dG]at hS;rw[hDe]at hinv hV;obtain⟨f1,f2,f3⟩:=yu hpc hinv hV;rw[<-hDe]at hinv hV;have hQM:Q<km^M:=by
   rcases bH Q (km^M)with h|h
   ·exact h
   ·exfalso;have h3:D*km^M<=D*Q:=bA _ h;rw[bF D Q]at h3;omega
  have hVn:V<km^n:=oO;refine jr ?_;refine jp (kw hF.h6 (jh (qj (n:=n) rfl rfl lZ oO oO oO oO hS ?_)));intro b12 wz13 hS hBz13;refine V2 ?_;rw[<-pi km n,show 0=V/2^s%km^0 by rw[cU,ec]]at hS;refine kF (σ:=Nat) (λi ρ w'=>i<=n/\ρ 6=iB n/\ρ 7= .int .u64 s/\ρ 8= .slice (some ⟨bu,0,none⟩) (m+1) (m+1)/\ρ 10= .slice (some ⟨b1,0,none⟩) M M/\ρ 24= .slice (some ⟨b12,0,none⟩) n n/\ρ 25=iB i/\
    St w w' [(b12,141,Kr .u32 (pad km (V/2^s%km^i) n)),(b1,141,Kr .u32 (pad km Q M)),(bv,141,Kr .u32 (pad km D (n+1))),(bu,141,Kr .u32 (pad km V (m+1)))]) (λi=>n-i) 0
   ⟨aw _,hF.h6,hF.h7,hF.h8,hF.h10,rfl,rfl,hS⟩ ?_
  clear hS hF h11;rintro i ρ w7 ⟨hi,h6,h7,h8,h10,h24,h25,hS⟩;refine V3 ?_;by_cases hlt:i<n
  ·refine V1 ?_;have x1:=mw V i;have x2:=mw V (i+1);have hg1:(pad km V (m+1)).getD i 0=lh km V i:=oq _ _ oO;have hg2:(pad km V (m+1)).getD (i+1) 0=lh km V (i+1):=oq _ _ oO;have hor:lh km V (i+1)*2^32|||lh km V i=lh km V i+lh km V (i+1)*4294967296:=by rw[gu,uK _ _ 32 oO]
   refine ja ?_;refine kK [jo 0,jo 1,jo 2,jo 3,jo 4,jo 5,ju 6,jo 7,jo 8,jo 9,jo 10,jo 11,ju 12,jo 13,jo 14,jo 15,jo 16,jo 17,jo 18,jw 19] kR kR hS ?_;intro wz14 hS hBz14;refine J5 ?_;refine jl rfl (kM (i:=i+1) rfl rfl oO dO lZ (jm rfl (oe (k:=3) (i:=i+1) rfl kV hS rfl oO dO (jl rfl (kT rfl Tryz.underlying99 ⟨_,Tryz.underlying141⟩ (r:=((lh km V (i+1):Nat):Int)) (by rw[hg2];exact lE _ ⟨rfl,oO,oO⟩) (jl rfl (u6 rfl rfl oO (r:=((lh km V (i+1)*2^32:Nat):Int)) (by exact u5 _ 32 _ dD (lE _ ⟨rfl,oO,oO⟩)) ?_)))))));refine J2 ?_;refine jl rfl (kM (i:=i) rfl rfl oO dO lZ (jm rfl (oe (k:=3) (i:=i) rfl kV hS rfl oO dO (jl rfl (kT rfl Tryz.underlying99 ⟨_,Tryz.underlying141⟩ (r:=((lh km V i:Nat):Int)) (by rw[hg1];exact lE _ ⟨rfl,oO,oO⟩) (jl rfl (y7 rfl rfl (r:=((lh km V i+lh km V (i+1)*4294967296:Nat):Int)) (by rw[<-hor];exact rS rfl _ _ (by show _<18446744073709551616;omega) (by show _<18446744073709551616;omega)) ?_)))))));refine J1 ?_;refine jl rfl (qu rfl rfl oO (qN _ s (show s<=64 by omega)) (jl rfl (kT rfl Tryz.underlying141 ⟨_,Tryz.underlying99⟩ (sR _) (jl rfl (kM (i:=i) rfl rfl oO dO lZ (jx rfl (pO (k:=0) (i:=i) (a:=_) rfl rfl rfl kV hS rfl oO dO ?_)))))));intro wz15 hS;refine ja ?_;rw[en,Bf V s i oO,Cm dD]at hS;refine V3 ?_;exact⟨i+1,_,rfl,⟨hlt,h6,h7,h8,h10,h24,vi rfl oO,hS⟩,oO⟩
  ·refine J1 ?_;refine jt ?_;obtain rfl:i=n:=oO;have hlt3:V/2^s<km^i:=bZ (dx _ _) hVn;rw[aW hlt3]at hS;have hslr:=hS.IH (k:=0) rfl (n:=i) (cap:=i) (by simp) (aB _) oO;rw[aU (by simp)]at hslr;have hslq:=hS.IH (k:=1) rfl (n:=M) (cap:=M) (by simp) (aB _) oO;rw[aU (by simp)]at hslq;refine J1 ?_;refine jh (kf Tryz.call123 rfl (u0 _ _ _ hslq (to dD _ _)) ?_);rintro _ wq16 ⟨hq,hq16⟩;replace hq16:=hq16.symm;subst hq16;refine J1 ?_;refine jh (kf Tryz.call123 rfl (u0 _ _ _ hslr (to dD _ _)) ?_);rintro _ wq17 ⟨hr,hq17⟩;replace hq17:=hq17.symm;subst hq17;refine J2 ?_;refine jt ?_;refine rP rfl rfl rfl ?_;rw[nm hQM,<-f1]at hq;rw[nm hlt3,f3]at hr;exact⟨⟨_,_,rfl,hq,hr⟩,hS.kb⟩
theorem yF (vx vy:Value) (X Y:Nat) (w:World) (hx:Sl (uk .u32) 1 w vx (kY X)) (hy:Sl (uk .u32) 1 w vy (kY Y)) (hY0:0<Y) (hmx:(kY X).length<=4398046511104):
  mb Tryz.prog 122 #[vx,vy] w λr w'=>(∃q s,r= .tuple #[q,s]/\Sl (uk .u32) 1 w' q (kY (X/Y))/\Sl (uk .u32) 1 w' s (kY (X%Y)))/\Below w.heap.size w w':=by
 have hB:km=4294967296:=rfl;have hS:=St.init w;obtain⟨n,hn⟩:=jz ((kY Y).length);have hYn:Y<km^n:=hn▸l9 Y;obtain⟨hn0,_⟩:=zE hY0;rw[<-hn]at hn0;refine enter Tryz.func122 rfl Tryz.ntmps122 rfl ?_;refine J4 ?_;refine jh (kf Tryz.call162 rfl (MI _ _ _ _ _ (hx.kb hS.kb) (hy.kb hS.kb)) ?_);rintro _ wc1 ⟨rfl,hBc1⟩;replace hS:=hS.kx hBc1;refine V1 ?_;by_cases hlt:X<Y
 ·refine lu rfl (ai (by rw[uq hlt];decide)) ?_;refine J3 ?_;refine jt ?_;refine rP rfl rfl rfl ?_;refine⟨⟨_,_,rfl,?_,?_⟩,hS.kb⟩
  ·rw[bU hlt,kY,n6];exact Sl.nil _ _ _
  ·rw[aW hlt];exact hx.kb hS.kb
 ·have hge:Y<=X:=iJ hlt;have hcmp:¬sV X Y<0:=by
   rcases bH Y X with h|h
   ·rw[ut h];decide
   ·rw[show X=Y by omega,xH];decide
  refine lH rfl (ae hcmp) ?_;refine J1 ?_;refine jp (ky rfl (hy.kb hS.kb) ⟨_,Tryz.underlying138⟩ ?_);refine V1 ?_;by_cases h1:n=1
  ·refine V1 ?_;have hg:(kY Y).getD 0 0=Y:=by
    rw[mE,lh,cU,fC];rw[h1,jf]at hYn;exact aW hYn
   have hYl:Y<=4294967295:=by rw[h1,jf]at hYn;omega
   refine J2 ?_;refine jp (ks (i:=0) rfl rfl (hy.kb hS.kb) oO dO lZ (jq (kC (i:=0) 0 rfl kV (hy.kb hS.kb) dO rfl rfl (.inr rfl) ?_)));rw[hg];refine jh (kf Tryz.call163 rfl (NA _ _ _ _ (hx.kb hS.kb) hY0 hYl oO) ?_);rintro r w2 ⟨⟨q,rfl,hq⟩,hB2⟩;replace hS:=hS.kx hB2;refine V5 ?_;have hml:X%Y<=4294967295:=by have:=bl X hY0;omega
   refine J2 ?_;refine jh (np (vs:=[_]) rfl lZ rfl dD dD dD (by simp[Value.cells]) rfl hS ?_);intro b2 wz3 hS hBz3;have hq1:=hq.kb hBz3;have hsl:=St.IH (L:=[X%Y]) hS (k:=0) rfl (n:=1) (cap:=1) (by simp) oO oO;refine jh (kf Tryz.call123 rfl (u0 _ _ _ hsl (by intro d hd;rw[aU (by simp)]at hd;rw[aO.1 hd];omega)) ?_);rintro _ wq4 ⟨hv,hq4⟩;replace hq4:=hq4.symm;subst hq4;refine J2 ?_;refine jt ?_;refine rP rfl rfl rfl ?_;refine⟨⟨_,_,rfl,hq1,?_⟩,hS.kb⟩;have e:lN km ([X%Y].take 1)=X%Y:=by simp[lN]
   rwa[e]at hv
  ·refine J3 ?_;refine jh (kf Tryz.call164 rfl (OM _ _ _ _ _ (hx.kb hS.kb) (hy.kb hS.kb) hge oO hmx) ?_);rintro r w2 ⟨⟨q,s,rfl,hq,hs⟩,hB2⟩;replace hS:=hS.kx hB2;refine J4 ?_;refine jt ?_;refine rP rfl rfl rfl ?_;exact⟨⟨_,_,rfl,hq,hs⟩,hS.kb⟩
theorem CH (vx vy:Value) (A B:Nat) (w:World) (hx:Sl (uk .u32) 1 w vx (kY A)) (hy:Sl (uk .u32) 1 w vy (kY B)) (hmx:(kY A).length<=4398046511104) (hmy:(kY B).length<=4398046511104):
  mb Tryz.prog 121 #[vx,vy] w λr w'=>Sl (uk .u32) 1 w' r (kY (Nat.gcd A B))/\Below w.heap.size w w':=by
 have hS:=St.init w;refine enter Tryz.func121 rfl Tryz.ntmps121 rfl ?_;refine V1 ?_;refine kF (σ:=Nat×Nat) (λs ρ w'=>Nat.gcd s.1 s.2=Nat.gcd A B/\(kY s.1).length<=4398046511104/\(kY s.2).length<=4398046511104/\(∃vx vy,ρ 0=vx/\ρ 1=vy/\Sl (uk .u32) 1 w' vx (kY s.1)/\Sl (uk .u32) 1 w' vy (kY s.2))/\St w w' []) (λs=>s.2) (A,B)
  ⟨rfl,hmx,hmy,⟨_,_,rfl,rfl,hx,hy⟩,hS⟩ ?_
 clear hS hx hy;rintro⟨X,Y⟩ ρ w3 ⟨hg,hX,hY,⟨vx,vy,h0,h1,hx,hy⟩,hS⟩;simp only at hg hX hY hx hy;refine J1 ?_;refine jp (ky rfl hy ⟨_,Tryz.underlying138⟩ ?_);refine V1 ?_;have hyn:(kY Y).length=0↔Y=0:=sa;by_cases hY0:Y=0
 ·refine J3 ?_;refine jt ?_;refine kJ rfl rfl ?_;rw[hY0,Nat.gcd_zero_right]at hg;rw[<-hg];exact⟨hx,hS.kb⟩
 ·refine V1 ?_;have hlt:X%Y<Y:=bl _ oO;have hls:=oM (fU hlt);refine J2 ?_;refine jh (kf Tryz.call122 rfl (yF _ _ _ _ _ hx hy oO oO) ?_);rintro r w4 ⟨⟨q,s,rfl,hq,hs⟩,hB4⟩;refine V9 ?_;refine⟨(Y,X%Y),_,rfl,⟨?_,hY,by simp only;omega,⟨vy,s,rfl,rfl,hy.kb hB4,hs⟩,hS.kx hB4⟩,hlt⟩;simp only;rw[<-hg,jS Y,<-Nat.gcd_rec,jS]
theorem Rf (a b:ByteArray) (w:World) (ha:a.size<=4398046511104) (hb:b.size<=4398046511104):
  mb Tryz.prog 201 #[.string a,.string b] w λr w'=>r= .string (kQ (Nat.gcd (val a) (val b)))/\Below w.heap.size w w':=by
 have hla:=mP a;have hlb:=mP b;have hS:=St.init w;refine enter Tryz.func201 rfl Tryz.ntmps201 rfl ?_;refine J2 ?_;refine jh (kf Tryz.call77 rfl (xT _ _ oO) ?_);rintro vx w1 ⟨hx,hB1⟩;replace hS:=hS.kx hB1;refine J1 ?_;refine jh (kf Tryz.call77 rfl (xT _ _ oO) ?_);rintro vy w2 ⟨hy,hB2⟩;replace hS:=hS.kx hB2;refine jh (kf Tryz.call121 rfl (CH _ _ _ _ _ (hx.kb hB2) hy oO oO) ?_);rintro vg w3 ⟨hg,hB3⟩;replace hS:=hS.kx hB3;have hgl:(kY (Nat.gcd (val a) (val b))).length<=8796093022208:=by
  rcases df (val a)with h|h
  ·rw[h,Nat.gcd_zero_left];omega
  ·have:=oM (j6 (val b) h);omega
 refine jh (kf Tryz.call79 rfl (zt _ _ _ hg (wg _) oO) ?_);rintro r w4 ⟨rfl,hB4⟩;replace hS:=hS.kx hB4;refine J1 ?_;refine jt ?_;refine kJ rfl rfl ?_;rw[qp];exact⟨rfl,hS.kb⟩
theorem MJ (r:RR) (w:World) (hr:Lr r<=MX):
  mb Tryz.prog 182 #[lC r] w λv w'=>v= .bool (decide (IN r))/\Below w.heap.size w w':=by
 have hM:MX=1099511627776:=rfl;have hn:=A4 r;have hd:=A9 r;have hV:=Mk r;have hS:=St.init w;refine enter Tryz.func182 rfl Tryz.ntmps182 rfl ?_;refine jr ?_;refine jh (lx (new:=ke r) rfl rfl hS ?_);intro b1 wz2 hS hBz2;refine V1 ?_;by_cases h1:kQ (val r.num)=r.num
 ·by_cases h2:kQ (val r.den)=r.den
  ·by_cases h5:r.den=⟨#[1]⟩
   ·refine ja ?_;refine kK [jo 0,ju 1,jo 3,ju 4,jv 2,jo 5,jo 6,jo 7,ju 8,jo 10,ju 11,jv 9,jo 12,jo 13,jo 14,jo 15,ju 16,jo 17,jo 18] kR kR hS ?_;intro wz3 hS hBz3;refine J4 ?_;refine jn rfl (kf Tryz.call120 rfl (og _ _ (show r.num.size<=_ by omega)) ?_);rintro _ wq4 ⟨rfl,hq4⟩;replace hq4:=hq4.symm;subst hq4;refine⟨Below.refl _ _,?_⟩;refine jl rfl (rR rfl rfl ?_);refine J1 ?_;refine kL rfl (kd 9 kR rfl (ae (by exact aQ h1))) (lD rfl ol (mC rfl (kd 9 kR rfl (ae (by exact aQ h1))) (kP (k:=0) rfl qQ hS rfl rfl rfl (.inr rfl) (kL rfl (kd 9 kR rfl (ae (by exact aQ h1))) (lD rfl ol (mC rfl (kd 9 kR rfl (ae (by exact aQ h1))) (kP (k:=0) rfl qQ hS rfl rfl rfl (.inr rfl) (vB rfl (kd 9 kR rfl (ae (aQ h1))) (kf Tryz.call120 rfl (og _ _ (show r.den.size<=_ by omega)) ?_)))))))));rintro _ wq5 ⟨rfl,hq5⟩;replace hq5:=hq5.symm;subst hq5;refine⟨Below.refl _ _,?_⟩;refine kL rfl (kd 9 kR rfl (ae (by exact aQ h1))) (rR rfl rfl (jl rfl (kH (vb rfl (ae (by exact aQ h1))) rfl ?_)));refine J1 ?_;refine kL rfl (kd 17 kR rfl (ae (by exact aQ h2))) (lD rfl ol (mC rfl (kd 17 kR rfl (ae (by exact aQ h2))) (kP (k:=0) rfl qQ hS rfl rfl rfl (.inr rfl) (kL rfl (kd 17 kR rfl (ae (by exact aQ h2))) (qk rfl rfl (jl rfl (kH (vb rfl (ae (by exact aQ h2))) rfl ?_)))))));refine ja ?_;refine lu rfl (ai h5) ?_;refine J1 ?_;refine jt ?_;refine kJ rfl rfl ?_;refine⟨bB Value.bool ?_,hS.kb⟩;symm;rw[dh,hV]
    intro h;by_cases h3:r.num=⟨#[]⟩
    ·have:=(h.2.2.1 h3).2;rw[h5]at this;cases this
    ·exact(h.2.2.2 h3).elim (λg=>by rw[h5]at g;cases g) (λg=>g.1 h5)
   ·refine ja ?_;refine kK [jo 0,ju 1,jo 3,ju 4,jv 2,jo 5,jo 6,jo 7,ju 8,jo 10,ju 11,jv 9,jo 12,jo 13,jo 14,jo 15,ju 16,jo 17,jo 18] kR kR hS ?_;intro wz6 hS hBz6;refine J4 ?_;refine jn rfl (kf Tryz.call120 rfl (og _ _ (show r.num.size<=_ by omega)) ?_);rintro _ wq7 ⟨rfl,hq7⟩;replace hq7:=hq7.symm;subst hq7;refine⟨Below.refl _ _,?_⟩;refine jl rfl (rR rfl rfl ?_);refine J1 ?_;refine kL rfl (kd 9 kR rfl (ae (by exact aQ h1))) (lD rfl ol (mC rfl (kd 9 kR rfl (ae (by exact aQ h1))) (kP (k:=0) rfl qQ hS rfl rfl rfl (.inr rfl) (kL rfl (kd 9 kR rfl (ae (by exact aQ h1))) (lD rfl ol (mC rfl (kd 9 kR rfl (ae (by exact aQ h1))) (kP (k:=0) rfl qQ hS rfl rfl rfl (.inr rfl) (vB rfl (kd 9 kR rfl (ae (aQ h1))) (kf Tryz.call120 rfl (og _ _ (show r.den.size<=_ by omega)) ?_)))))))));rintro _ wq8 ⟨rfl,hq8⟩;replace hq8:=hq8.symm;subst hq8;refine⟨Below.refl _ _,?_⟩;refine kL rfl (kd 9 kR rfl (ae (by exact aQ h1))) (rR rfl rfl (jl rfl (kH (vb rfl (ae (by exact aQ h1))) rfl ?_)));refine J1 ?_;refine kL rfl (kd 17 kR rfl (ae (by exact aQ h2))) (lD rfl ol (mC rfl (kd 17 kR rfl (ae (by exact aQ h2))) (kP (k:=0) rfl qQ hS rfl rfl rfl (.inr rfl) (kL rfl (kd 17 kR rfl (ae (by exact aQ h2))) (qk rfl rfl (jl rfl (kH (vb rfl (ae (by exact aQ h2))) rfl ?_)))))));refine ja ?_;refine lH rfl (ae h5) ?_;refine J2 ?_;refine jp (qk rfl rfl ?_);refine ja ?_;by_cases h3:r.num=⟨#[]⟩
    ·refine lu rfl (ai h3) ?_;refine ja ?_;by_cases h4:r.neg=false
     ·refine J4 ?_;refine ko (kd 28 kR rfl (by show(!r.neg)=true;rw[h4];rfl)) (lD rfl ol (lA (kd 28 kR rfl (by show(!r.neg)=true;rw[h4];rfl)) (kP (k:=0) rfl qQ hS rfl rfl rfl (.inr rfl) (ko (kd 28 kR rfl (by show(!r.neg)=true;rw[h4];rfl)) (qk rfl rfl (jp (kH (vb rfl (by show(!r.neg)=true;rw[h4];rfl)) rfl ?_)))))));refine J1 ?_;refine jt ?_;refine kJ rfl rfl ?_;refine⟨bB Value.bool ?_,hS.kb⟩;rw[dJ,hV];exact⟨λh=>⟨h1,h2,λ_=>⟨h4,h⟩,λh=>absurd h3 h⟩,λh=>(h.2.2.1 h3).2⟩
     ·refine J4 ?_;refine kS (kg 28 kR rfl (by show(!r.neg)=false;rw[fa]at h4;rw[h4];rfl)) (kS (kg 28 kR rfl (by show(!r.neg)=false;rw[fa]at h4;rw[h4];rfl)) (kS (kg 28 kR rfl (by show(!r.neg)=false;rw[fa]at h4;rw[h4];rfl)) (jp (kH (vb rfl (by show(!r.neg)=false;rw[fa]at h4;rw[h4];rfl)) rfl ?_))));refine J1 ?_;refine jt ?_;refine kJ rfl rfl ?_;refine⟨bB Value.bool ?_,hS.kb⟩;symm;rw[dh,hV]
      exact λh=>h4 (h.2.2.1 h3).1
    ·refine lH rfl (ae h3) ?_;refine ja ?_;by_cases h4:r.den=⟨#[]⟩
     ·refine J2 ?_;refine jp (qk rfl rfl ?_);refine J1 ?_;refine kS (kg 36 kR rfl (ai h4)) (kS (kg 36 kR rfl (ai h4)) (kS (kg 36 kR rfl (ai h4)) (kS (kg 36 kR rfl (ai h4)) (kS (kg 36 kR rfl (ai h4)) (kS (kg 36 kR rfl (ai h4)) (jp (kH (vb rfl (ai h4)) rfl ?_)))))));refine J1 ?_;refine jt ?_;refine kJ rfl rfl ?_;refine⟨bB Value.bool ?_,hS.kb⟩;symm;rw[fo,hV]
      exact⟨h1,h2,λh=>absurd h h3,λ_=> .inl h4⟩
     ·refine J2 ?_;refine jp (qk rfl rfl ?_);refine J1 ?_;refine ko (kd 36 kR rfl (ae h4)) (lD rfl zY (lA (kd 36 kR rfl (ae h4)) (kP (k:=0) rfl qQ hS rfl rfl rfl (.inr rfl) (ko (kd 36 kR rfl (ae h4)) (lD rfl ol (lA (kd 36 kR rfl (ae h4)) (kP (k:=0) rfl qQ hS rfl rfl rfl (.inr rfl) (oZ (kd 36 kR rfl (ae h4)) (kf Tryz.call201 rfl (Rf _ _ _ (show r.num.size<=_ by omega) (show r.den.size<=_ by omega)) ?_)))))))));rintro _ wc9 ⟨rfl,hBc9⟩;replace hS:=hS.kx hBc9;refine ko (kd 36 kR rfl (ae h4)) (qk rfl rfl (jp (kH (vb rfl (ae h4)) rfl ?_)));refine J1 ?_;refine jt ?_;refine kJ rfl rfl ?_;refine⟨bB Value.bool ?_,hS.kb⟩;rw[dJ,hV,AN];exact⟨λh=>⟨h1,h2,λh=>absurd h h3,λ_=> .inr ⟨h5,h⟩⟩,λh=>(h.2.2.2 h3).elim (λg=>absurd g h4) (λg=>g.2)⟩
  ·refine ja ?_;refine kK [jo 0,ju 1,jo 3,ju 4,jv 2,jo 5,jo 6,jo 7,ju 8,jo 10,ju 11,jv 9,jo 12,jo 13,jo 14,jo 15,ju 16,jo 17,jo 18] kR kR hS ?_;intro wz10 hS hBz10;refine J4 ?_;refine jn rfl (kf Tryz.call120 rfl (og _ _ (show r.num.size<=_ by omega)) ?_);rintro _ wq11 ⟨rfl,hq11⟩;replace hq11:=hq11.symm;subst hq11;refine⟨Below.refl _ _,?_⟩;refine jl rfl (rR rfl rfl ?_);refine J1 ?_;refine kL rfl (kd 9 kR rfl (ae (by exact aQ h1))) (lD rfl ol (mC rfl (kd 9 kR rfl (ae (by exact aQ h1))) (kP (k:=0) rfl qQ hS rfl rfl rfl (.inr rfl) (kL rfl (kd 9 kR rfl (ae (by exact aQ h1))) (lD rfl ol (mC rfl (kd 9 kR rfl (ae (by exact aQ h1))) (kP (k:=0) rfl qQ hS rfl rfl rfl (.inr rfl) (vB rfl (kd 9 kR rfl (ae (aQ h1))) (kf Tryz.call120 rfl (og _ _ (show r.den.size<=_ by omega)) ?_)))))))));rintro _ wq12 ⟨rfl,hq12⟩;replace hq12:=hq12.symm;subst hq12;refine⟨Below.refl _ _,?_⟩;refine kL rfl (kd 9 kR rfl (ae (by exact aQ h1))) (rR rfl rfl (jl rfl (kH (vb rfl (ae (by exact aQ h1))) rfl ?_)));refine J1 ?_;refine nh rfl (kg 17 kR rfl (ai h2)) (nh rfl (kg 17 kR rfl (ai h2)) (nh rfl (kg 17 kR rfl (ai h2)) (jl rfl (kH (vb rfl (ai h2)) rfl ?_))));refine ja ?_;refine lu rfl (rfl) ?_;refine J1 ?_;refine jt ?_;refine kJ rfl rfl ?_;refine⟨bB Value.bool ?_,hS.kb⟩;symm;rw[dh,hV]
   exact λh=>h2 h.2.1
 ·refine ja ?_;refine kK [jo 0,ju 1,jo 3,ju 4,jv 2,jo 5,jo 6,jo 7,ju 8,jo 10,ju 11,jv 9,jo 12,jo 13,jo 14,jo 15,ju 16,jo 17,jo 18] kR kR hS ?_;intro wz13 hS hBz13;refine J4 ?_;refine jn rfl (kf Tryz.call120 rfl (og _ _ (show r.num.size<=_ by omega)) ?_);rintro _ wq14 ⟨rfl,hq14⟩;replace hq14:=hq14.symm;subst hq14;refine⟨Below.refl _ _,?_⟩;refine jl rfl (rR rfl rfl ?_);refine J1 ?_;refine nh rfl (kg 9 kR rfl (ai h1)) (nh rfl (kg 9 kR rfl (ai h1)) (nh rfl (kg 9 kR rfl (ai h1)) (nh rfl (kg 9 kR rfl (ai h1)) (nh rfl (kg 9 kR rfl (ai h1)) (nh rfl (kg 9 kR rfl (ai h1)) (jl rfl (kH (vb rfl (ai h1)) rfl ?_)))))));refine J1 ?_;refine nh rfl (kg 17 kR rfl rfl) (nh rfl (kg 17 kR rfl rfl) (nh rfl (kg 17 kR rfl rfl) (jl rfl (kH (vb rfl rfl) rfl ?_))));refine ja ?_;refine lu rfl (rfl) ?_;refine J1 ?_;refine jt ?_;refine kJ rfl rfl ?_;refine⟨bB Value.bool ?_,hS.kb⟩;symm;rw[dh,hV]
  exact λh=>h1 h.1
theorem QR (r:RR) (w:World) (hr:Lr r<=MX):
  mb Tryz.prog 159 #[lC r] w λv w'=>v=lC (fx r)/\Below w.heap.size w w':=by
 have hS:=St.init w;refine enter Tryz.func159 rfl Tryz.ntmps159 rfl ?_;refine jr ?_;refine jh (lx (new:=ke r) rfl rfl hS ?_);intro b1 wz2 hS hBz2;refine J1 ?_;intro b3 wz4 hS hBz4;refine J1 ?_;refine jh (kf Tryz.call182 rfl (MJ r _ hr) ?_);rintro _ wc5 ⟨rfl,hBc5⟩;replace hS:=hS.kx hBc5;refine ja ?_;by_cases h:IN r
 ·refine lu rfl (ai h) ?_;refine J2 ?_;intro wz6 hS;refine jt ?_;refine mA (k:=0) rfl rfl kt hS rfl rfl ?_;rw[Qq h];exact⟨rfl,hS.kb⟩
 ·refine lH rfl (ae h) ?_;refine jr ?_;refine jp (lr rfl pM ?_);refine J1 ?_;intro wz7 hS;refine jt ?_;refine mA (k:=0) rfl rfl kt hS rfl rfl ?_;rw[QD h];exact⟨rfl,hS.kb⟩
theorem Pf:kY 1=[1]:=by unfold kY;rw[vu dD dD,show 1/km=0 from rfl,n6];rfl
theorem EB {g:Nat} (h:¬1<(kY g).length) (hg:0<g):(kY g).length=1/\(kY g).getD 0 0=g:=by
 have h1:=(zE hg).1;have h2:(kY g).length=1:=oO;have h3:=l9 g;rw[h2,jf]at h3;refine⟨h2,?_⟩;rw[mE,lh,cU,fC,aW h3]
theorem Bc {g:Nat} (h:1<(kY g).length):g≠1:=by
 rintro rfl;rw[Pf]at h;exact absurd h dD
theorem Dr (b:Bool) (s:ByteArray):Tryz.prog.built 32 [(0,.bool b),(1,.string s)]=some #[.bool b,.string s,.string ⟨#[]⟩]:=by kernel_rfl
theorem Iy (b:Bool) (vn vd:Value) (n d:Nat) (w:World) (hvn:Sl (uk .u32) 1 w vn (kY n)) (hvd:Sl (uk .u32) 1 w vd (kY d)) (hn:(kY n).length<=4398046511104) (hd:(kY d).length<=4398046511104) (h0:d≠0):
  mb Tryz.prog 78 #[.bool b,vn,vd] w λv w'=>v=lC (ki (mkRat (sg b n) d))/\Below w.heap.size w w':=by
 have hS:=St.init w;refine enter Tryz.func78 rfl Tryz.ntmps78 rfl ?_;refine J1 ?_;intro b1 wz2 hS hBz2;refine J1 ?_;refine jp (ky rfl (hvn.kb hS.kb) ⟨_,Tryz.underlying138⟩ ?_);refine V1 ?_;have hzn:(kY n).length=0↔n=0:=sa;by_cases hz:n=0
 ·refine Y1 ?_;refine jp (lr rfl pM ?_);refine J1 ?_;intro wz3 hS;refine jt ?_;refine mA (k:=0) rfl rfl kt hS rfl rfl ?_;refine⟨?_,hS.kb⟩;have:mkRat (sg b 0) d=0:=by cases b<;>simp[sg]
  rw[hz,this,oD];rfl
 ·refine V1 ?_;obtain⟨g,hg⟩:=jz (Nat.gcd n d);have hgp:0<g:=by rw[hg];exact iE _ oO
  have hgn:g<=n:=by rw[hg];exact j6 _ oO
  have hgd:g<=d:=by rw[hg];exact Nat.gcd_le_right _ oO
  have hgl:=oM hgn;refine J2 ?_;refine jh (kf Tryz.call121 rfl (CH _ _ n d _ (hvn.kb hS.kb) (hvd.kb hS.kb) oO oO) ?_);rintro vg w2 ⟨hvg,hB2⟩;replace hS:=hS.kx hB2;rw[<-hg]at hvg;refine V1 ?_;refine kG (λρ w'=>ρ 0= .bool b/\ρ 1=vn/\ρ 2=vd/\ρ 6=pB b1/\ρ 7=vg/\ρ 24= .bool (decide (g≠1))/\w2=w') ?_ ?_
  ·by_cases hl1:1<(kY g).length
   ·refine J1 ?_;refine jp (ky rfl hvg ⟨_,Tryz.underlying138⟩ ?_);refine J2 ?_;refine kS (kg 19 kR rfl dT) (kS (kg 19 kR rfl dT) (kS (kg 19 kR rfl dT) (kS (kg 19 kR rfl dT) (jp (kH (vb rfl dT) rfl ?_)))));refine ja ?_;exact⟨_,rfl,rfl,rfl,rfl,rfl,rfl,vb rfl (ai (Bc hl1)).symm,rfl⟩
   ·have hl2:=EB hl1 hgp;refine J1 ?_;refine jp (ky rfl hvg ⟨_,Tryz.underlying138⟩ ?_);refine J2 ?_;refine ko (kd 19 kR rfl dF) (kw rfl (ko (kd 19 kR rfl dF) (ks (i:=0) rfl rfl hvg oO dO lZ (lA (kd 19 kR rfl dF) (kC (i:=0) 0 rfl kV hvg dO rfl rfl (.inr rfl) (ko (kd 19 kR rfl dF) (sT rfl rfl (jp (kH (vb rfl dF) rfl ?_)))))))));refine ja ?_;exact⟨_,rfl,rfl,rfl,rfl,rfl,rfl,vb rfl (by rw[hl2.2,dJ];omega),rfl⟩
  rintro ρ w' ⟨k0,k1,k2,k6,k7,k24,rfl⟩;refine ja ?_;refine kG (λρ w'=>∃(n' d':Nat) (v1 v2:Value),0<n'/\d'≠0/\Nat.gcd n' d'=1/\mkRat (sg b n) d=mkRat (sg b n') d'/\(kY n').length<=4398046511104/\(kY d').length<=4398046511104/\ρ 0= .bool b/\ρ 1=v1/\ρ 2=v2/\ρ 6=pB b1/\
   Sl (uk .u32) 1 w' v1 (kY n')/\Sl (uk .u32) 1 w' v2 (kY d')/\St w w' [(b1,32,ke ⟨false,⟨#[]⟩,⟨#[]⟩⟩)]) ?_ ?_
  ·refine ja ?_;by_cases hg1:g=1
   ·refine lH k24 (ae (aQ hg1)) ?_;refine ja ?_;exact⟨_,rfl,n,d,_,_,oO,h0,by rw[<-hg,hg1],rfl,oO,oO,k0,k1,k2,k6,hvn.kb hS.kb,hvd.kb hS.kb,hS⟩
   ·refine lu k24 (ai hg1) ?_;refine ja ?_;have hnp:0<n/g:=iy hgn hgp;have hdp:0<d/g:=iy hgd hgp;have hln:=oM (dx n g);have hld:=oM (dx d g);refine jr ?_;refine jp (kw k1 (jp (kw k7 (jh (kf Tryz.call122 rfl (yF _ _ n g _ (hvn.kb hS.kb) hvg hgp oO) ?_)))));rintro r w3 ⟨⟨q1,s1,rfl,hq1,_⟩,hB3⟩;replace hS:=hS.kx hB3;refine Y4 ?_;refine jp (kw k2 (jp (kw k7 (jh (kf Tryz.call122 rfl (yF _ _ d g _ (hvd.kb hS.kb) (hvg.kb hB3) hgp oO) ?_)))));rintro r w4 ⟨⟨q2,s2,rfl,hq2,_⟩,hB4⟩;replace hS:=hS.kx hB4;refine V4 ?_;exact⟨_,rfl,n/g,d/g,q1,q2,hnp,oO,by rw[hg,Nat.gcd_div (iK _ _) (fB _ _),<-hg,Nat.div_self hgp],EP h0 hg,oO,oO,k0,rfl,rfl,k6,hq1.kb hB4,hq2,hS⟩
  clear k0 k1 k2 k6 k7 k24;clear hS hvn hvd;rintro ρ w' ⟨n',d',v1,v2,hn',hd',hc,he,hln',hld',k0,k1,k2,k6,hvn,hvd,hS⟩;rw[he,C4 hn' hd' hc];refine jr ?_;refine jp (kw k0 (jp (kw k1 (jh (kf Tryz.call79 rfl (zt _ _ _ hvn (wg _) oO) ?_)))));rintro r w5 ⟨rfl,hB5⟩;replace hS:=hS.kx hB5;rw[qp];have hvd5:=hvd.kb hB5;have hS0:=hS;replace hS:=St.init w5;refine jp (lr rfl (Dr _ _) ?_);refine J1 ?_;intro b4 wz5 hS hBz5;refine J1 ?_;intro wz6 hS;refine ja ?_;replace hS:St w5 _ [(_,32,ke ⟨b,kQ n',⟨#[]⟩⟩)]:=hS;refine ja ?_;refine kG (λρ w'=>ρ 2=v2/\ρ 6=pB b1/\ρ 8=pB b4/\ρ 49= .bool (decide (d'≠1))/\wz6=w') ?_ ?_
  ·by_cases hl1:1<(kY d').length
   ·refine jr ?_;refine jp (kw k2 (jp (ky rfl (hvd5.kb hS.kb) ⟨_,Tryz.underlying138⟩ ?_)));refine J2 ?_;refine kS (kg 44 kR rfl dT) (kS (kg 44 kR rfl dT) (kS (kg 44 kR rfl dT) (kS (kg 44 kR rfl dT) (jp (kH (vb rfl dT) rfl ?_)))));refine ja ?_;exact⟨_,rfl,k2,k6,rfl,vb rfl (ai (Bc hl1)).symm,rfl⟩
   ·have hl2:=EB hl1 oO;refine jr ?_;refine jp (kw k2 (jp (ky rfl (hvd5.kb hS.kb) ⟨_,Tryz.underlying138⟩ ?_)));refine J2 ?_;refine ko (kd 44 kR rfl dF) (kw k2 (ko (kd 44 kR rfl dF) (ks (i:=0) rfl rfl (hvd5.kb hS.kb) oO dO lZ (lA (kd 44 kR rfl dF) (kC (i:=0) 0 rfl kV (hvd5.kb hS.kb) dO rfl rfl (.inr rfl) (ko (kd 44 kR rfl dF) (sT rfl rfl (jp (kH (vb rfl dF) rfl ?_)))))))));refine ja ?_;exact⟨_,rfl,k2,k6,rfl,vb rfl (by rw[hl2.2,dJ];omega),rfl⟩
  clear k0 k1 k2 k6;rintro ρ w' ⟨k2,k6,k8,k49,rfl⟩;refine ja ?_;refine kG (λρ w'=>∃b8,ρ 6=pB b1/\ρ 8=pB b8/\St w w' [(b8,32,ke ⟨b,kQ n',if d'=1 then⟨#[]⟩else kQ d'⟩),(b1,32,ke ⟨false,⟨#[]⟩,⟨#[]⟩⟩)]) ?_ ?_
  ·refine ja ?_;by_cases hd1:d'=1
   ·refine lH k49 (ae (aQ hd1)) ?_;refine ja ?_;exact⟨_,rfl,_,k6,k8,by rw[aj hd1];exact hS0.join hS⟩
   ·refine lu k49 (ai hd1) ?_;refine jr ?_;refine jp (kw k2 (jh (kf Tryz.call79 rfl (zt _ _ _ (hvd5.kb hS.kb) (wg _) oO) ?_)));rintro r w6 ⟨rfl,hB6⟩;replace hS:=hS.kx hB6;rw[qp];refine jp (lD k8 ol (jh (oX (k:=0) rfl rfl qQ hS rfl dM rfl ?_)));intro wz7 hS;refine ja ?_;exact⟨_,rfl,_,k6,k8,by rw[ah hd1];exact hS0.join hS⟩
  clear hS hS0 hvd5 hvn hvd;rintro ρ w' ⟨b8,k6,k8,hS⟩;refine jr ?_;refine jq (kP (k:=0) k8 kt hS rfl rfl rfl (.inl rfl) (jh (lX (k:=1) k6 rfl kt hS rfl rfl rfl dM rfl ?_)));intro wz8 hS;refine jt ?_;refine mA (k:=1) rfl k6 kt hS rfl rfl ?_;exact⟨rfl,hS.kb⟩
end Go.Proofs.YtoeiejliehgopaaGreatDoor
