import Derived.Test.YtoeiejliehgopaaGreatDoorPd2
set_option maxRecDepth 20000
set_option maxHeartbeats 8000000
namespace Go.Proofs.YtoeiejliehgopaaGreatDoor
open Go Go.RowKit Go.Sx
theorem g8 (r s:RR) (w:World) (hr:Lr r+Lr s<=MX):
  dj Tryz.prog 50 #[cw r,cw s] w λv w'=>v= .int .i64 (lz (toQ r) (toQ s))/\Below w.heap.size w w':=by
 have hM:MX=1099511627776:=rfl;have hL1:=nN r;have hL2:=nN s;have hS:=St.init w;refine enter Tryz.func50 rfl Tryz.ntmps50 rfl ?_;refine jr ?_;refine jh (bY (new:=ae r) rfl rfl hS ?_);intro b1 wz2 hS hBz2;refine jh (bY (new:=ae s) rfl rfl hS ?_);intro b3 wz4 hS hBz4;refine V1 ?_;refine bk [ju 0,ju 2,jv 1,jv 3,jw 4,jw 5] kR kR hS ?_;intro wz5 hS hBz5;refine J2 ?_;refine jn rfl (ah Tryz.call28 rfl (fF r _ oO) ?_);rintro _ wc6 ⟨rfl,hBc6⟩;replace hS:=hS.aG hBc6;refine⟨hBc6,?_⟩;refine jn rfl (ah Tryz.call28 rfl (fF s _ oO) ?_);rintro _ wc7 ⟨rfl,hBc7⟩;replace hS:=hS.aG hBc7;refine⟨hBc7,?_⟩;refine J1 ?_;intro wz8 hS;refine J1 ?_;intro wz9 hS;refine ja ?_;replace hS:St w _ [(b3,32,ae (aj (toQ s))),(b1,32,ae (aj (toQ r)))]:=hS;obtain⟨p,hp⟩:=jz (toQ r);obtain⟨q,hq⟩:=jz (toQ s);rw[<-hp]at hS hL1⊢;rw[<-hq]at hS hL2⊢;have hn1:=mz p;have hn2:=mz q;have hd1:=lN p;have hd2:=lN q;have hm1:=cS p.num.natAbs q.den;have hm2:=cS q.num.natAbs p.den;refine ja ?_;refine bk [ju 0,ju 2,jv 1,jv 3,jo 4,jo 5] kR kR hS ?_;intro wz10 hS hBz10;refine J2 ?_;refine jn rfl (ah Tryz.call89 rfl (tq p _) ?_);rintro _ wc11 ⟨rfl,hBc11⟩;replace hS:=hS.aG hBc11;refine⟨hBc11,?_⟩;refine jn rfl (ah Tryz.call89 rfl (tq q _) ?_);rintro _ wc12 ⟨rfl,hBc12⟩;replace hS:=hS.aG hBc12;refine⟨hBc12,?_⟩;refine V5 ?_;by_cases h:kz p=kz q
 ·refine ct rfl (decide_eq_false (not_not_intro h)) ?_;refine ja ?_;refine bk [jo 0,ju 1,ju 2,jo 5,ju 6,ju 7,jv 3,jv 4,jv 8,jv 9,jv 10,jo 11] kR kR hS ?_;intro wz13 hS hBz13;refine J6 ?_;refine jn rfl (ah Tryz.call31 rfl (mG q _) ?_);rintro _ wc14 ⟨rfl,hBc14⟩;replace hS:=hS.aG hBc14;refine⟨hBc14,?_⟩;refine jn rfl (ah Tryz.call30 rfl (oG p.num.natAbs q.den _ oO oO) ?_);rintro _ wc15 ⟨rfl,hBc15⟩;replace hS:=hS.aG hBc15;refine⟨hBc15,?_⟩;refine jn rfl (ah Tryz.call31 rfl (mG p _) ?_);rintro _ wc16 ⟨rfl,hBc16⟩;replace hS:=hS.aG hBc16;refine⟨hBc16,?_⟩;refine jn rfl (ah Tryz.call30 rfl (oG q.num.natAbs p.den _ oO oO) ?_);rintro _ wc17 ⟨rfl,hBc17⟩;replace hS:=hS.aG hBc17;refine⟨hBc17,?_⟩;refine jn rfl (ah Tryz.call90 rfl (Qt _ _ _ oO oO) ?_);rintro _ wq18 ⟨rfl,hq18⟩;replace hq18:=hq18.symm;subst hq18;refine⟨Below.refl _ _,?_⟩;refine V3 ?_;have hcl:=KL h;by_cases hneg:p.num<0
  ·refine bZ rfl (decide_eq_true hneg) ?_;refine J1 ?_;refine jp (IQ rfl (r:=(-lx (p.num.natAbs*q.den) (q.num.natAbs*p.den))) (by unfold lx;split<;>(try split)<;>rfl) ?_);refine J1 ?_;refine jt ?_;refine bj rfl rfl ?_;rw[if_pos (by simpa using hneg)]at hcl;exact⟨vi rfl hcl,hS.ab⟩
  ·refine ct rfl (decide_eq_false hneg) ?_;refine J2 ?_;refine jt ?_;refine bj rfl rfl ?_;rw[if_neg (by simpa using hneg)]at hcl;exact⟨vi rfl hcl,hS.ab⟩
 ·refine bZ rfl (decide_eq_true h) ?_;refine V3 ?_;have hcs:=Mv h;by_cases hlt:kz p<kz q
  ·refine bZ rfl (decide_eq_true hlt) ?_;refine J1 ?_;refine jt ?_;refine bj rfl rfl ?_;rw[if_pos hlt]at hcs;exact⟨vi rfl hcs.symm,hS.ab⟩
  ·refine ct rfl (decide_eq_false hlt) ?_;refine J1 ?_;refine jt ?_;refine bj rfl rfl ?_;rw[if_neg hlt]at hcs;exact⟨vi rfl hcs.symm,hS.ab⟩
theorem Ev (p q:Rat) (w:World) (hL:L p+L q<=MX):
  dj Tryz.prog 36 #[cw (aj p),cw (aj q)] w λv w'=>v=cw (aj (p+q))/\Below w.heap.size w w':=by
 have hM:MX=1099511627776:=rfl;have hn1:=mz p;have hn2:=mz q;have hd1:=lN p;have hd2:=lN q;have hm1:=cS p.num.natAbs q.den;have hm2:=cS q.num.natAbs p.den;have hm3:=cS p.den q.den;have hS:=St.init w;refine enter Tryz.func36 rfl Tryz.ntmps36 rfl ?_;refine jr ?_;refine jh (bY (new:=ae (aj p)) rfl rfl hS ?_);intro b1 wz2 hS hBz2;refine jh (bY (new:=ae (aj q)) rfl rfl hS ?_);intro b3 wz4 hS hBz4;refine J1 ?_;intro b5 wz6 hS hBz6;refine ja ?_;refine bk [jo 0,ju 1,jo 2,ju 3,jo 4,jo 5,jo 6] kR kR hS ?_;intro wz7 hS hBz7;refine Ru ?_;refine jp (oM rfl rfl ?_);refine ja ?_;refine aW (λρ w'=>∃X Y D:Nat,D≠0/\p=mkRat (sg (decide (p.num<0)) X) D/\q=mkRat (sg (decide (q.num<0)) Y) D/\(bB X).size<=MX/\(bB Y).size<=MX/\(bB D).size<=MX/\
  ρ 2=pB b1/\ρ 3=pB b3/\ρ 4=pB b5/\ρ 5= .string (bB X)/\ρ 6= .string (bB Y)/\ρ 7= .string (bB D)/\
  St w w' [(b5,32,ae ⟨false,⟨#[]⟩,⟨#[]⟩⟩),(b3,32,ae (aj q)),(b1,32,ae (aj p))]) ?_ ?_
 ·refine ja ?_;by_cases hden:p.den=q.den
  ·refine ct rfl (decide_eq_false (not_not_intro (uo.2 hden))) ?_;refine J1 ?_;refine jh (ah Tryz.call31 rfl (mG p _) ?_);rintro _ wc8 ⟨rfl,hBc8⟩;replace hS:=hS.aG hBc8;refine V1 ?_;exact⟨_,rfl,p.num.natAbs,q.num.natAbs,p.den,p.den_nz,(CO p).symm,by rw[hden];exact(CO q).symm,oO,oO,oO,rfl,rfl,rfl,rfl,rfl,rfl,hS⟩
  ·refine bZ rfl (decide_eq_true (λg=>hden (uo.1 g))) ?_;refine ja ?_;refine bk [jo 0,ju 1,jo 4,ju 5,jv 2,jv 3,jv 6,jv 7,jo 8,jo 9] kR kR hS ?_;intro wz9 hS hBz9;refine J4 ?_;refine jn rfl (ah Tryz.call31 rfl (mG q _) ?_);rintro _ wc10 ⟨rfl,hBc10⟩;replace hS:=hS.aG hBc10;refine⟨hBc10,?_⟩;refine jn rfl (ah Tryz.call30 rfl (oG p.num.natAbs q.den _ oO oO) ?_);rintro _ wc11 ⟨rfl,hBc11⟩;replace hS:=hS.aG hBc11;refine⟨hBc11,?_⟩;refine jn rfl (ah Tryz.call31 rfl (mG p _) ?_);rintro _ wc12 ⟨rfl,hBc12⟩;replace hS:=hS.aG hBc12;refine⟨hBc12,?_⟩;refine jn rfl (ah Tryz.call30 rfl (oG q.num.natAbs p.den _ oO oO) ?_);rintro _ wc13 ⟨rfl,hBc13⟩;replace hS:=hS.aG hBc13;refine⟨hBc13,?_⟩;refine V2 ?_;refine bk [ju 0,ju 2,jv 1,jv 3,jv 4,jo 5] kR kR hS ?_;intro wz14 hS hBz14;refine J2 ?_;refine jn rfl (ah Tryz.call31 rfl (mG p _) ?_);rintro _ wc15 ⟨rfl,hBc15⟩;replace hS:=hS.aG hBc15;refine⟨hBc15,?_⟩;refine jn rfl (ah Tryz.call31 rfl (mG q _) ?_);rintro _ wc16 ⟨rfl,hBc16⟩;replace hS:=hS.aG hBc16;refine⟨hBc16,?_⟩;refine jn rfl (ah Tryz.call30 rfl (oG p.den q.den _ oO oO) ?_);rintro _ wc17 ⟨rfl,hBc17⟩;replace hS:=hS.aG hBc17;refine⟨hBc17,?_⟩;refine V1 ?_;exact⟨_,rfl,p.num.natAbs*q.den,q.num.natAbs*p.den,p.den*q.den,Nat.mul_ne_zero p.den_nz q.den_nz,(rO p q.den_nz).symm,by rw[Nat.mul_comm p.den];exact(rO q p.den_nz).symm,oO,oO,oO,rfl,rfl,rfl,rfl,rfl,rfl,hS⟩
 clear hS hm1 hm2 hm3;rintro ρ w' ⟨X,Y,D,hD,hp,hq,sX,sY,sD,g2,g3,g4,g5,g6,g7,hS⟩;have hsum:=np X Y;have hXY:=vX (sg (decide (p.num<0)) X) (sg (decide (q.num<0)) Y) hD;rw[<-hp,<-hq]at hXY;clear hp hq;rw[hXY];have hD2:val (bB D)≠0:=by rw[bX];exact hD
 refine jr ?_;refine jp (cx g2 n7 ?_);refine J1 ?_;refine jp (cx g3 n7 ?_);refine J1 ?_;refine jp (Py rfl rfl Tryz.underlying4 ?_);refine ja ?_;by_cases hneg:decide (p.num<0)=decide (q.num<0)
 ·have hb:(decide (p.num<0)==decide (q.num<0))=true:=by rw[hneg];exact beq_self_eq_true _
  refine bZ rfl (hb) ?_;refine ja ?_;have hred:=λw=>kD (decide (p.num<0)) (bB (X+Y)) (bB D) w oO oO hD2;rw[bX,bX]at hred;refine ja ?_;refine bk [jo 0,ju 1,jo 2,jo 3,jo 5,jv 4,jv 6,jw 7] kR kR hS ?_;intro wz18 hS hBz18;refine jl rfl (cx g2 n7 ?_);refine J1 ?_;refine jl rfl (aI g5 (jl rfl (aI g6 (jl rfl (aI g7 (jn rfl (ah Tryz.call74 rfl (Nt X Y _ oO oO) ?_)))))));rintro _ wc19 ⟨rfl,hBc19⟩;replace hS:=hS.aG hBc19;refine⟨hBc19,?_⟩;refine jn rfl (ah Tryz.call29 rfl (hred _) ?_);rintro _ wc20 ⟨rfl,hBc20⟩;replace hS:=hS.aG hBc20;refine⟨hBc20,?_⟩;refine jx rfl (cO (k:=0) g4 rfl aB hS rfl rfl rfl dM rfl ?_);intro wz21 hS;refine jt ?_;refine dx (k:=0) rfl g4 aB hS rfl rfl ?_;rw[<-hneg,Pk];exact⟨rfl,hS.ab⟩
 ·have hb:(decide (p.num<0)==decide (q.num<0))=false:=by rw[beq_eq_false_iff_ne];exact hneg
  refine ct rfl (hb) ?_;refine ja ?_;by_cases hle:Y<=X
  ·have hs1:=db (Nat.sub_le X Y);have hred:=λw=>kD (decide (p.num<0)) (bB (X-Y)) (bB D) w oO oO hD2;rw[bX,bX]at hred;refine jr ?_;refine jp (aI g5 (jp (aI g6 (jh (ah Tryz.call75 rfl (F7 X Y _ oO oO hle) ?_)))));rintro _ wc22 ⟨rfl,hBc22⟩;replace hS:=hS.aG hBc22;refine V6 ?_;refine bZ rfl (rfl) ?_;refine jr ?_;refine jp (cx g2 n7 ?_);refine J2 ?_;refine jp (aI g7 (jh (ah Tryz.call29 rfl (hred _) ?_)));rintro _ wc23 ⟨rfl,hBc23⟩;replace hS:=hS.aG hBc23;refine jh (cO (k:=0) g4 rfl aB hS rfl rfl rfl dM rfl ?_);intro wz24 hS;refine jt ?_;refine dx (k:=0) rfl g4 aB hS rfl rfl ?_;rw[NT hneg hle];exact⟨rfl,hS.ab⟩
  ·have hs1:=db (Nat.sub_le Y X);have hred:=λw=>kD (decide (q.num<0)) (bB (Y-X)) (bB D) w oO oO hD2;rw[bX,bX]at hred;refine jr ?_;refine jp (aI g5 (jp (aI g6 (jh (ah Tryz.call75 rfl (Cg X Y _ oO oO oO) ?_)))));rintro _ wc25 ⟨rfl,hBc25⟩;replace hS:=hS.aG hBc25;refine V6 ?_;refine ct rfl (rfl) ?_;refine jr ?_;refine jp (aI g6 (jp (aI g5 (jh (ah Tryz.call75 rfl (F7 Y X _ oO oO oO) ?_)))));rintro _ wc26 ⟨rfl,hBc26⟩;replace hS:=hS.aG hBc26;refine Y5 ?_;refine jp (cx g3 n7 ?_);refine J2 ?_;refine jp (aI g7 (jh (ah Tryz.call29 rfl (hred _) ?_)));rintro _ wc27 ⟨rfl,hBc27⟩;replace hS:=hS.aG hBc27;refine jh (cO (k:=0) g4 rfl aB hS rfl rfl rfl dM rfl ?_);intro wz28 hS;refine jt ?_;refine dx (k:=0) rfl g4 aB hS rfl rfl ?_;rw[KP hneg oO];exact⟨rfl,hS.ab⟩
theorem fW (r s:RR) (w:World) (hr:Lr r+Lr s<=MX):
  dj Tryz.prog 18 #[cw r,cw s] w λv w'=>v=cw (aj (toQ r+toQ s))/\Below w.heap.size w w':=by
 have hL1:=nN r;have hL2:=nN s;have hS:=St.init w;refine enter Tryz.func18 rfl Tryz.ntmps18 rfl ?_;refine jr ?_;refine jh (bY (new:=ae r) rfl rfl hS ?_);intro b1 wz2 hS hBz2;refine jh (bY (new:=ae s) rfl rfl hS ?_);intro b3 wz4 hS hBz4;refine J1 ?_;intro b5 wz6 hS hBz6;refine ja ?_;refine bk [ju 0,ju 2,jv 1,jv 3,jv 4,jw 5] kR kR hS ?_;intro wz7 hS hBz7;refine J2 ?_;refine jn rfl (ah Tryz.call28 rfl (fF r _ oO) ?_);rintro _ wc8 ⟨rfl,hBc8⟩;replace hS:=hS.aG hBc8;refine⟨hBc8,?_⟩;refine jn rfl (ah Tryz.call28 rfl (fF s _ oO) ?_);rintro _ wc9 ⟨rfl,hBc9⟩;replace hS:=hS.aG hBc9;refine⟨hBc9,?_⟩;refine jn rfl (ah Tryz.call36 rfl (Ev (toQ r) (toQ s) _ oO) ?_);rintro _ wc10 ⟨rfl,hBc10⟩;replace hS:=hS.aG hBc10;refine⟨hBc10,?_⟩;refine J1 ?_;intro wz11 hS;refine jt ?_;refine dx (k:=0) rfl rfl aB hS rfl rfl ?_;exact⟨rfl,hS.ab⟩
theorem dH (r s:RR) (w:World) (hr:Lr r+Lr s<=MX):
  dj Tryz.prog 16 #[cw r,cw s] w λv w'=>v=cw (aj (toQ r-toQ s))/\Below w.heap.size w w':=by
 have hL1:=nN r;have hL2:=nN s;have hL3:=vK (toQ s);have hS:=St.init w;refine enter Tryz.func16 rfl Tryz.ntmps16 rfl ?_;refine jr ?_;refine jh (bY (new:=ae r) rfl rfl hS ?_);intro b1 wz2 hS hBz2;refine jh (bY (new:=ae s) rfl rfl hS ?_);intro b3 wz4 hS hBz4;refine J1 ?_;intro b5 wz6 hS hBz6;refine ja ?_;refine bk [ju 0,ju 2,jv 1,jv 3,jv 4,jv 5,jw 6] kR kR hS ?_;intro wz7 hS hBz7;refine J2 ?_;refine jn rfl (ah Tryz.call28 rfl (fF r _ oO) ?_);rintro _ wc8 ⟨rfl,hBc8⟩;replace hS:=hS.aG hBc8;refine⟨hBc8,?_⟩;refine jn rfl (ah Tryz.call28 rfl (fF s _ oO) ?_);rintro _ wc9 ⟨rfl,hBc9⟩;replace hS:=hS.aG hBc9;refine⟨hBc9,?_⟩;refine jn rfl (ah Tryz.call37 rfl (y0 (toQ s) _) ?_);rintro _ wc10 ⟨rfl,hBc10⟩;replace hS:=hS.aG hBc10;refine⟨hBc10,?_⟩;refine jn rfl (ah Tryz.call36 rfl (Ev (toQ r) (-toQ s) _ oO) ?_);rintro _ wc11 ⟨rfl,hBc11⟩;replace hS:=hS.aG hBc11;refine⟨hBc11,?_⟩;refine J1 ?_;intro wz12 hS;refine jt ?_;refine dx (k:=0) rfl rfl aB hS rfl rfl ?_;rw[Rat.sub_eq_add_neg];exact⟨rfl,hS.ab⟩
def r6 (p q:Rat):Rat:=if p<=q then p else q
def yu (p q:Rat):Rat:=if q<=p then p else q
theorem FN (r s:RR) (w:World) (hr:Lr r+Lr s<=MX):
  dj Tryz.prog 129 #[cw r,cw s] w λv w'=>v=cw (aj (r6 (toQ r) (toQ s)))/\Below w.heap.size w w':=by
 have hS:=St.init w;refine enter Tryz.func129 rfl Tryz.ntmps129 rfl ?_;refine jr ?_;refine jh (bY (new:=ae r) rfl rfl hS ?_);intro b1 wz2 hS hBz2;refine jh (bY (new:=ae s) rfl rfl hS ?_);intro b3 wz4 hS hBz4;refine J1 ?_;intro b5 wz6 hS hBz6;refine J2 ?_;refine jh (ah Tryz.call50 rfl (g8 r s _ hr) ?_);rintro _ wc7 ⟨rfl,hBc7⟩;replace hS:=hS.aG hBc7;refine V1 ?_;by_cases h:toQ r<=toQ s
 ·refine bZ rfl (decide_eq_true (E9.2 h)) ?_;refine J1 ?_;refine jh (ah Tryz.call28 rfl (fF r _ oO) ?_);rintro _ wc8 ⟨rfl,hBc8⟩;replace hS:=hS.aG hBc8;refine J1 ?_;intro wz9 hS;refine jt ?_;refine dx (k:=0) rfl rfl aB hS rfl rfl ?_;exact⟨by unfold r6;rw[if_pos h];rfl,hS.ab⟩
 ·refine ct rfl (decide_eq_false (λg=>h (E9.1 g))) ?_;refine J1 ?_;refine jh (ah Tryz.call28 rfl (fF s _ oO) ?_);rintro _ wc10 ⟨rfl,hBc10⟩;replace hS:=hS.aG hBc10;refine J1 ?_;intro wz11 hS;refine jt ?_;refine dx (k:=0) rfl rfl aB hS rfl rfl ?_;exact⟨by unfold r6;rw[if_neg h];rfl,hS.ab⟩
theorem As (r s:RR) (w:World) (hr:Lr r+Lr s<=MX):
  dj Tryz.prog 52 #[cw r,cw s] w λv w'=>v=cw (aj (yu (toQ r) (toQ s)))/\Below w.heap.size w w':=by
 have hS:=St.init w;refine enter Tryz.func52 rfl Tryz.ntmps52 rfl ?_;refine jr ?_;refine jh (bY (new:=ae r) rfl rfl hS ?_);intro b1 wz2 hS hBz2;refine jh (bY (new:=ae s) rfl rfl hS ?_);intro b3 wz4 hS hBz4;refine J1 ?_;intro b5 wz6 hS hBz6;refine J2 ?_;refine jh (ah Tryz.call50 rfl (g8 r s _ hr) ?_);rintro _ wc7 ⟨rfl,hBc7⟩;replace hS:=hS.aG hBc7;refine V1 ?_;by_cases h:toQ s<=toQ r
 ·refine bZ rfl (decide_eq_true (Fl.2 h)) ?_;refine J1 ?_;refine jh (ah Tryz.call28 rfl (fF r _ oO) ?_);rintro _ wc8 ⟨rfl,hBc8⟩;replace hS:=hS.aG hBc8;refine J1 ?_;intro wz9 hS;refine jt ?_;refine dx (k:=0) rfl rfl aB hS rfl rfl ?_;exact⟨by unfold yu;rw[if_pos h];rfl,hS.ab⟩
 ·refine ct rfl (decide_eq_false (λg=>h (Fl.1 g))) ?_;refine J1 ?_;refine jh (ah Tryz.call28 rfl (fF s _ oO) ?_);rintro _ wc10 ⟨rfl,hBc10⟩;replace hS:=hS.aG hBc10;refine J1 ?_;intro wz11 hS;refine jt ?_;refine dx (k:=0) rfl rfl aB hS rfl rfl ?_;exact⟨by unfold yu;rw[if_neg h];rfl,hS.ab⟩
theorem Gb (n:Int):mkRat (sg (decide (n<0)) n.natAbs) 1=(n:Rat):=by
 have h:sg (decide (n<0)) n.natAbs=n:=by
  unfold sg;by_cases h:n<0<;>simp[h]<;>omega
 rw[h];have:=Rat.mkRat_self (n:Rat);rwa[Rat.num_intCast,Rat.den_intCast]at this
theorem wZ {n:Nat} (h:n<18446744073709551616):(bB n).size<=8:=cK h
theorem zw (n:Int) (w:World) (h1: -9223372036854775808<=n) (h2:n<=9223372036854775807):
  dj Tryz.prog 71 #[.int .i64 n] w λv w'=>v= .string (bB n.natAbs)/\Below w.heap.size w w':=by
 have hS:=St.init w;refine enter Tryz.func71 rfl Tryz.ntmps71 rfl ?_;refine V3 ?_;by_cases h:n<0
 ·refine bZ rfl (decide_eq_true h) ?_;refine J1 ?_;refine jp (bF rfl Tryz.underlying99 ⟨_,Tryz.underlying2⟩ (r:=((n+18446744073709551616:Int))) (by rw[pU];omega) (jp (IQ rfl (r:=((n.natAbs:Nat):Int)) (by rw[pU];omega) (jh (ah Tryz.call113 rfl (lh n.natAbs _ oO) ?_)))));rintro _ wc1 ⟨rfl,hBc1⟩;replace hS:=hS.aG hBc1;refine J1 ?_;refine jt ?_;refine bj rfl rfl ?_;exact⟨rfl,hS.ab⟩
 ·refine ct rfl (decide_eq_false h) ?_;refine J1 ?_;refine jp (bF rfl Tryz.underlying99 ⟨_,Tryz.underlying2⟩ (r:=((n.natAbs:Nat):Int)) (by rw[pU];omega) (jh (ah Tryz.call113 rfl (lh n.natAbs _ oO) ?_)));rintro _ wc2 ⟨rfl,hBc2⟩;replace hS:=hS.aG hBc2;refine J1 ?_;refine jt ?_;refine bj rfl rfl ?_;exact⟨rfl,hS.ab⟩
theorem dN (n:Int) (w:World) (h1: -9223372036854775808<=n) (h2:n<=9223372036854775807):
  dj Tryz.prog 33 #[.int .i64 n] w λv w'=>v=cw (aj (n:Rat))/\Below w.heap.size w w':=by
 have hM:MX=1099511627776:=rfl;have hs:=wZ (n:=n.natAbs) oO;have hred:=λw=>kD (decide (n<0)) (bB n.natAbs) ⟨#[1]⟩ w oO (by show 1<=_;omega) (by rw[qC];decide);rw[bX,qC,Gb]at hred;have hS:=St.init w;refine enter Tryz.func33 rfl Tryz.ntmps33 rfl ?_;refine J1 ?_;intro b1 wz2 hS hBz2;refine J3 ?_;refine jh (ah Tryz.call71 rfl (zw n _ h1 h2) ?_);rintro _ wc3 ⟨rfl,hBc3⟩;replace hS:=hS.aG hBc3;refine jh (ah Tryz.call29 rfl (hred _) ?_);rintro _ wc4 ⟨rfl,hBc4⟩;replace hS:=hS.aG hBc4;refine J1 ?_;intro wz5 hS;refine jt ?_;refine dx (k:=0) rfl rfl aB hS rfl rfl ?_;exact⟨rfl,hS.ab⟩
def qe (l:List Rat):Rat:=l.foldl (· + ·) 0
theorem zk (l:List Rat) (q:Rat):qe (l++[q])=qe l+q:=by unfold qe;rw[List.foldl_append];rfl
def qm:List RR->Nat
 | []=>0
 |r::l=>Lr r+1+qm l
theorem mV (l m:List RR):qm (l++m)=qm l+qm m:=by
 induction l with
 |nil=>simp[qm]
 |cons r l ih=>simp only[List.cons_append,qm,ih];omega
theorem cH {α:Type} (l:List α) (i:Nat) (d:α) (h:i<l.length):l.take (i+1)=l.take i++[l.getD i d]:=by
 rw[List.take_succ_eq_append_getElem h,List.getD_eq_getElem?_getD,List.getElem?_eq_getElem h];rfl
theorem GH (l:List RR) (i:Nat):qm (l.take i)<=qm l:=by
 conv=>rhs;rw[<-List.take_append_drop i l,mV]
 omega
def bM:RR:=⟨false,⟨#[]⟩,⟨#[]⟩⟩
theorem bC {α:Type} (l:List α) (i:Nat) (d:α) (h:i<l.length):l.getD i d∈l:=by
 rw[List.getD_eq_getElem?_getD,List.getElem?_eq_getElem h];exact List.getElem_mem h
theorem cB:ae bM=ae (aj 0):=by rw[gm];rfl
theorem F8 (v:Value) (l:List RR) (w:World) (hv:Sl ae 3 w v l) (hl:qm l+1<=MX):
  dj Tryz.prog 97 #[v] w λr w'=>r=cw (aj (qe (l.map toQ)))/\Below w.heap.size w w':=by
 have hM:MX=1099511627776:=rfl;have hmax:=hv.maxLen;have hS:=St.init w;refine enter Tryz.func97 rfl Tryz.ntmps97 rfl ?_;refine J1 ?_;intro b1 wz2 hS hBz2;refine jr ?_;refine jp (bR rfl ix ?_);refine J1 ?_;intro b3 wz4 hS hBz4;refine J1 ?_;intro wz5 hS;refine J1 ?_;refine jp (aF rfl (hv.ab hS.ab) ⟨_,Tryz.underlying34⟩ ?_);refine V1 ?_;replace hS:=hS.cast (H':=[(b3,32,ae (aj (qe ((l.take 0).map toQ)))),(b1,32,ae bM)]) (by rw[show qe ((l.take 0).map toQ)=0 from rfl,<-cB];rfl);refine aQ (σ:=Nat) (λi ρ w'=>i<=l.length/\L (qe ((l.take i).map toQ))<=qm (l.take i)+1/\ρ 2=pB b1/\ρ 3=pB b3/\ρ 7=v/\ρ 8=iB l.length/\ρ 9=iB i/\
   St w w' [(b3,32,ae (aj (qe ((l.take i).map toQ)))),(b1,32,ae bM)]) (λi=>l.length-i) 0
  ⟨Nat.zero_le _,by rw[show qe ((l.take 0).map toQ)=0 from rfl,fM];omega,rfl,rfl,rfl,rfl,rfl,hS⟩ ?_
 clear hS;rintro i ρ w2 ⟨hi,hLi,h2,h3,h7,h8,h9,hS⟩;refine V1 ?_;by_cases hlt:i<l.length
 ·refine V1 ?_;have ht:=cH l i bM hlt;have hs1:=GH l (i+1);rw[ht,mV]at hs1;simp only[qm]at hs1;have hLr:=nN (l.getD i bM);have hadd:=t6 (qe ((l.take i).map toQ)) (toQ (l.getD i bM));refine jr ?_;refine jp (aH (i:=i) h7 h9 (hv.ab hS.ab) oO dO bJ (jq (aO (i:=i) bM rfl aB (hv.ab hS.ab) dO rfl rfl (.inl rfl) ?_)));refine J1 ?_;intro b6 wz7 hS hBz7;refine J1 ?_;intro wz8 hS;refine ja ?_;replace hS:St w _ [(_,32,ae (l.getD i bM)),(b3,32,ae (aj (qe ((l.take i).map toQ)))),(b1,32,ae bM)]:=hS;refine ja ?_;refine bk [ju 0,ju 1,jv 2,jv 3,jw 4] kR kR hS ?_;intro wz9 hS hBz9;refine J2 ?_;refine jn rfl (ah Tryz.call28 rfl (fF (l.getD i bM) _ oO) ?_);rintro _ wc10 ⟨rfl,hBc10⟩;replace hS:=hS.aG hBc10;refine⟨hBc10,?_⟩;refine jn rfl (ah Tryz.call36 rfl (Ev (qe ((l.take i).map toQ)) (toQ (l.getD i bM)) _ oO) ?_);rintro _ wc11 ⟨rfl,hBc11⟩;replace hS:=hS.aG hBc11;refine⟨hBc11,?_⟩;refine J1 ?_;intro wz12 hS;refine ja ?_;have he:qe ((l.take (i+1)).map toQ)=qe ((l.take i).map toQ)+toQ (l.getD i bM):=by rw[ht,List.map_append,List.map_singleton,zk]
  rw[<-he]at hadd;replace hS:St w _ [(_,32,ae (l.getD i bM)),(b3,32,ae (aj (qe ((l.take i).map toQ)+toQ (l.getD i bM)))),(b1,32,ae bM)]:=hS;rw[<-he]at hS;refine V2 ?_;exact⟨i+1,_,rfl,⟨hlt,by rw[ht,mV]at*;simp only[qm];omega,h2,h3,h7,h8,vi rfl oO,hS.drop (List.sublist_cons_self _ _)⟩,oO⟩
 ·refine J1 ?_;refine jt ?_;obtain rfl:i=l.length:=oO;rw[List.take_length]at hS;refine J2 ?_;intro wz13 hS;refine jt ?_;refine dx (k:=1) rfl h2 aB hS rfl rfl ?_;exact⟨rfl,hS.ab⟩
theorem qq (s:ByteArray) (w:World) (hs:s.size<=9223372036854775807):
  dj Tryz.prog 120 #[.string s] w λv w'=>v= .string (bB (val s))/\w'=w:=by
 refine enter Tryz.func120 rfl Tryz.ntmps120 rfl ?_;refine V2 ?_;refine aQ (σ:=Nat) (λk ρ w'=>k<=s.size/\(∀i (_:i<k) (h:i<s.size),s[i]=0)/\ρ 0= .string s/\ρ 3=iB k/\w'=w) (λk=>s.size-k) 0
  ⟨oO,λi h=>oO,rfl,rfl,rfl⟩ ?_
 rintro k ρ w' ⟨hk,hz,h0,h3,rfl⟩;by_cases hlt:k<s.size
 ·refine J5 ?_;refine ax (ai 8 kR rfl dT) (aI h0 (ax (ai 8 kR rfl dT) (aI h3 (ax (ai 8 kR rfl dT) (pF (i:=k) rfl rfl oO oO Tryz.underlying9 (ax (ai 8 kR rfl dT) (i7 rfl rfl (jp (aZ (vb rfl dT) rfl ?_)))))))));refine ja ?_;by_cases h:s[k]=0
  ·refine bZ rfl (decide_eq_true (by rw[h];rfl)) ?_;refine V3 ?_;refine⟨k+1,_,rfl,⟨oO,λi hi hi'=> ?_,h0,vi rfl oO,rfl⟩,oO⟩;rcases Nat.lt_or_ge i k with h2|h2
   ·exact hz i h2 hi'
   ·obtain rfl:i=k:=oO;exact h
  ·refine ct rfl (decide_eq_false (λg=>h (UInt8.toNat_inj.1 (by simp at g;exact g)))) ?_;refine J2 ?_;refine jp (A1 (lo:=k) rfl rfl rfl oO Tryz.underlying9 ?_);refine J1 ?_;refine jt ?_;refine bj rfl rfl ?_;exact⟨congrArg Value.string (pL s k hk hz (.inr ⟨hlt,h⟩)),rfl⟩
 ·refine J5 ?_;refine bI (ak 8 kR rfl dF) (bI (ak 8 kR rfl dF) (bI (ak 8 kR rfl dF) (bI (ak 8 kR rfl dF) (jp (aZ (vb rfl dF) rfl ?_)))));refine ja ?_;refine ct rfl (rfl) ?_;refine J2 ?_;refine jp (A1 (lo:=k) rfl rfl rfl oO Tryz.underlying9 ?_);refine J1 ?_;refine jt ?_;refine bj rfl rfl ?_;exact⟨congrArg Value.string (pL s k hk hz (.inl oO)),rfl⟩
theorem ye (V:Nat):(bH V).length=((bB V).size+3)/4:=by
 obtain⟨k,hk⟩:=jz ((bB V).size);rw[<-hk];rcases Nat.eq_zero_or_pos V with h0|h0
 ·subst h0;rw[kI,fq]at hk;unfold bH;rw[fq,hk];rfl
 ·have h1:V<256^k:=by rw[hk];exact iZ V
  have h2:256^(k-1)<=V:=by
   refine ks dD ?_;rw[<-kI,<-hk];have:1<=k:=by rw[hk];exact ns h0
   omega
  have h3:(bH V).length<=(k+3)/4:=by
   refine pm (Nat.lt_of_lt_of_le h1 ?_);rw[show ap=256^4 from rfl,<-Nat.pow_mul];exact Nat.pow_le_pow_right dD oO
  have h4:(k+3)/4<=(bH V).length:=by
   rcases Nat.lt_or_ge (bH V).length ((k+3)/4)with h|h
   ·exfalso;have h5:=cW V;have h6:ap^(bH V).length<=256^(k-1):=by
     rw[show ap=256^4 from rfl,<-Nat.pow_mul];exact Nat.pow_le_pow_right dD oO
    omega
   ·exact h
  omega
theorem JA (V:Nat):pad ap V (bH V).length=bH V:=by
 have h:=ob (b:=ap) dD (pad ap V (bH V).length) (bH V).length (lE dD _ _) (by simp) (λi h1 h2=>by simp at h2;omega) ?_
 ·rw[ef (cW V),List.take_of_length_le (by simp)]at h;exact h
 ·rcases Nat.eq_zero_or_pos (bH V).length with h0|h0
  ·exact .inl h0
  ·right;rw[fE _ _ oO];have hV:0<V:=by
    rcases Nat.eq_zero_or_pos V with g|g
    ·rw[g]at h0;unfold bH at h0;rw[fq]at h0;exact absurd h0 (by simp)
    ·exact g
   have:=(rj hV).2;omega
theorem zf (s:ByteArray) (w:World) (hs:s.size<=70368744177664):
  dj Tryz.prog 77 #[.string s] w λr w'=>Sl (uk .u32) 1 w' r (bH (val s))/\Below w.heap.size w w':=by
 have hS:=St.init w;have hsz:=i3 s;refine enter Tryz.func77 rfl Tryz.ntmps77 rfl ?_;refine J2 ?_;refine jh (ah Tryz.call120 rfl (qq _ _ oO) ?_);rintro _ wq1 ⟨rfl,hq1⟩;replace hq1:=hq1.symm;subst hq1;refine V1 ?_;obtain⟨V,hV⟩:=jz (val s);rw[<-hV];rw[<-hV]at hsz;obtain⟨S,hSe⟩:=jz (bB V);have hvS:val S=V:=by rw[hSe,bX]
 have hlen:=ye V;rw[<-hSe]at hlen hsz;rw[<-hSe];refine J3 ?_;refine jp (kV rfl rfl oO (r:=(((S.size+3)/4:Nat):Int)) (by exact IntWalk.i64_quo _ _ oO) (jh (iI (n:=(S.size+3)/4) rfl rfl cV oO oO oO oO hS ?_)));intro b2 wz3 hS hBz3;refine V2 ?_;obtain⟨n,hn⟩:=jz ((S.size+3)/4);rw[<-hn,<-gD ap n,show 0=V%256^0 by rw[Nat.pow_zero,Nat.mod_one]]at hS;refine aQ (σ:=Nat) (λi ρ w'=>i<=S.size/\ρ 0= .string S/\ρ 3= .slice (some ⟨b2,0,none⟩) n n/\ρ 4=iB i/\St w w' [(b2,141,Kr .u32 (pad ap (V%256^i) n))]) (λi=>S.size-i) 0
  ⟨Nat.zero_le _,rfl,by rw[hn];rfl,rfl,hS⟩ ?_
 clear hS;rintro i ρ w2 ⟨hi,h0,h3,h4,hS⟩;refine V4 ?_;by_cases hlt:i<S.size
 ·refine V1 ?_;have hb:=ui S i hlt;rw[hvS]at hb;have hl:=jO (b:=ap) dD (V%256^i) (i/4);have hd:=jO (b:=256) dD V i;have hg:(pad ap (V%256^i) n).getD (i/4) 0=bO ap (V%256^i) (i/4):=fE _ _ oO;have hp:2^(8*(i%4))<=2^24:=Nat.pow_le_pow_right dD oO;have hq:bO 256 V i*2^(8*(i%4))<4294967296:=Nat.lt_of_le_of_lt (Nat.mul_le_mul (Nat.le_of_lt_succ hd) hp) dD;refine ja ?_;refine bk [jo 0,jo 1,jo 2,jo 3,jo 4,jo 5,jo 6,ju 7,jo 8,jo 9,jo 10,jo 11,jo 12,jo 13,jo 14,jo 15,jo 16,jo 17,jo 18,jo 19,jo 20,jo 21,jo 22,jw 23] kR kR hS ?_;intro wz4 hS hBz4;refine J2 ?_;refine jl rfl (kV rfl rfl oO (r:=((i/4:Nat):Int)) (by exact IntWalk.i64_quo _ _ oO) ?_);refine J2 ?_;refine jl rfl (kV rfl rfl oO (r:=((i/4:Nat):Int)) (by exact IntWalk.i64_quo _ _ oO) (jl rfl (bn (i:=i/4) rfl rfl oO dO cV (jm rfl (fz (k:=0) (i:=i/4) rfl bG hS rfl oO dO ?_)))));refine J6 ?_;refine jl rfl (pF (i:=S.size-1-i) rfl rfl oO oO Tryz.underlying9 (jl rfl (bF rfl Tryz.underlying141 ⟨_,Tryz.underlying5⟩ (r:=((bO 256 V i:Nat):Int)) (by rw[hb];exact IntWalk.u32_in _ oO) ?_)));refine J1 ?_;refine jl rfl (iJ rfl rfl oO (r:=((i%4:Nat):Int)) (by rfl) (jl rfl (oH rfl rfl (r:=((8*(i%4):Nat):Int)) (by exact iR _ oO) (jl rfl (bF rfl Tryz.underlying94 ⟨_,Tryz.underlying3⟩ (r:=((8*(i%4):Nat):Int)) (by exact IntWalk.u64_in _ oO) (jl rfl (nL rfl rfl oO (nM _ _ _ (show _<=32 by omega) (ic _ ⟨rfl,oO,oO⟩)) (jl rfl (rV rfl rfl (km rfl _ _ (by rw[hg];exact hl) hq) (jl rfl (bn (i:=i/4) rfl rfl oO dO cV (jx rfl (hJ (k:=0) (i:=i/4) (a:=_) rfl rfl rfl bG hS rfl oO dO ?_)))))))))))));intro wz5 hS;refine ja ?_;rw[hg,BS]at hS;refine V3 ?_;exact⟨i+1,_,rfl,⟨hlt,h0,h3,vi rfl oO,hS⟩,oO⟩
 ·refine J1 ?_;refine jt ?_;obtain rfl:i=S.size:=oO;have hval:V<256^S.size:=by rw[<-hvS];exact zE S
  rw[Nat.mod_eq_of_lt hval,show n=(bH V).length by omega,JA]at hS;have hsl:=hS.C9 (k:=0) rfl (n:=n) (cap:=n) oO (Nat.le_refl _) oO;rw[List.take_of_length_le oO]at hsl;refine J2 ?_;refine jt ?_;refine bj rfl rfl ?_;exact⟨hsl,hS.ab⟩
theorem ny (v:Value) (L:List Nat) (w:World) (hv:Sl (uk .u32) 1 w v L) (hL:∀d∈L,d<ap):
  dj Tryz.prog 123 #[v] w λr w'=>Sl (uk .u32) 1 w' r (bH (cF ap L))/\w'=w:=by
 have hmax:=hv.maxLen;refine enter Tryz.func123 rfl Tryz.ntmps123 rfl ?_;refine J2 ?_;refine jp (aF rfl hv ⟨_,Tryz.underlying138⟩ ?_);refine V1 ?_;refine aQ (σ:=Nat) (λn ρ w'=>n<=L.length/\(∀i,n<=i->i<L.length->L.getD i 0=0)/\ρ 0=v/\ρ 3=iB n/\w'=w) (λn=>n) L.length
  ⟨Nat.le_refl _,λi h1 h2=>oO,rfl,rfl,rfl⟩ ?_
 rintro n ρ w' ⟨hn,hz,h0,h3,rfl⟩;have hdone:(n=0\/L.getD (n-1) 0≠0)->L.take n=bH (cF ap L):=λh=>ob (b:=ap) dD L n hL hn hz h;by_cases hpos:0<n
 ·by_cases hl:L.getD (n-1) 0=0
  ·refine J3 ?_;refine ax (ai 8 kR rfl dT) (aI h0 (ax (ai 8 kR rfl dT) (aI h3 (ax (ai 8 kR rfl dT) (k9 rfl rfl (IntWalk.i64_in _ oO) (ax (ai 8 kR rfl dT) (aH (i:=n-1) rfl rfl hv oO dO cV (bW (ai 8 kR rfl dT) (aO (i:=n-1) 0 rfl bG hv dO rfl rfl (.inr rfl) (ax (ai 8 kR rfl dT) (i7 rfl rfl (jp (aZ (vb rfl dT) rfl ?_)))))))))))));refine V4 ?_;refine⟨n-1,_,rfl,⟨oO,λi h1 h2=> ?_,h0,vi rfl oO,rfl⟩,oO⟩;rcases Nat.lt_or_ge i n with h4|h4
   ·rw[show i=n-1 by omega];exact hl
   ·exact hz i h4 h2
  ·refine J3 ?_;refine ax (ai 8 kR rfl dT) (aI h0 (ax (ai 8 kR rfl dT) (aI h3 (ax (ai 8 kR rfl dT) (k9 rfl rfl (IntWalk.i64_in _ oO) (ax (ai 8 kR rfl dT) (aH (i:=n-1) rfl rfl hv oO dO cV (bW (ai 8 kR rfl dT) (aO (i:=n-1) 0 rfl bG hv dO rfl rfl (.inr rfl) (ax (ai 8 kR rfl dT) (i7 rfl rfl (jp (aZ (vb rfl dT) rfl ?_)))))))))))));refine J3 ?_;refine jp (sJ (hi:=n) rfl rfl hv rfl hn cV ?_);refine J1 ?_;refine jt ?_;refine bj rfl rfl ?_;refine⟨?_,rfl⟩;rw[<-hdone (.inr hl)];exact hv.sub (tB _) dD (Nat.zero_le n) hn
 ·refine J3 ?_;refine bI (ak 8 kR rfl dF) (bI (ak 8 kR rfl dF) (bI (ak 8 kR rfl dF) (bI (ak 8 kR rfl dF) (bI (ak 8 kR rfl dF) (bI (ak 8 kR rfl dF) (jp (aZ (vb rfl dF) rfl ?_)))))));refine ja ?_;refine ct rfl (rfl) ?_;refine J2 ?_;refine jp (sJ (hi:=n) rfl rfl hv rfl hn cV ?_);refine J1 ?_;refine jt ?_;refine bj rfl rfl ?_;refine⟨?_,rfl⟩;rw[<-hdone (.inl oO)];exact hv.sub (tB _) dD (Nat.zero_le n) hn
theorem DL (V k q x:Nat) (hk:0<k) (hx:x=bO ap V (k-1)):
  (pad 256 (V/ap^(k-1)) (q+4)).reverse=(pad 256 (V/ap^k) q).reverse++[x/16777216%256,x/65536%256,x/256%256,x%256]:=by
 have h:=gX ap V (k-1);rw[show k-1+1=k by omega,<-hx]at h;have hlt:x<ap:=by rw[hx];exact jO dD _ _
 rw[h];generalize V/ap^k=U;have hB:ap=4294967296:=rfl;rw[show q+4=q+1+1+1+1 from rfl,pq,pq,pq,pq];simp only[List.reverse_cons,List.append_assoc,List.cons_append,List.nil_append];rw[hB]at hlt⊢;have e1:(4294967296*U+x)/256/256/256/256=U:=oO;have e2:(4294967296*U+x)/256/256/256%256=x/16777216%256:=oO;have e3:(4294967296*U+x)/256/256%256=x/65536%256:=oO;have e4:(4294967296*U+x)/256%256=x/256%256:=oO;have e5:(4294967296*U+x)%256=x%256:=oO;rw[e1,e2,e3,e4,e5]
theorem xC (v:Value) (L:List Nat) (w:World) (hv:Sl (uk .u32) 1 w v L) (hL:∀d∈L,d<ap) (hs:L.length<=17592186044416):
  dj Tryz.prog 79 #[v] w λr w'=>r= .string (bB (cF ap L))/\Below w.heap.size w w':=by
 have hS:=St.init w;obtain⟨V,hV⟩:=jz (cF ap L);refine enter Tryz.func79 rfl Tryz.ntmps79 rfl ?_;refine J2 ?_;refine jh (ah Tryz.call123 rfl (ny v L _ hv hL) ?_);rintro _ wq1 ⟨hl,hq1⟩;replace hq1:=hq1.symm;subst hq1;refine V1 ?_;rename_i vl;rw[<-hV]at hl⊢;obtain⟨m,hm⟩:=jz ((bH V).length);have hVm:V<ap^m:=by rw[hm];exact cW V
 have hmL:m<=L.length:=by
  rw[hm];refine pm ?_;rw[hV];exact mb L hL
 refine J1 ?_;refine jp (aF rfl hl ⟨_,Tryz.underlying138⟩ (jp (oH rfl rfl (IntWalk.i64_in _ oO) (jh (Iu (enc:=uk .u8) (n:=4*m) rfl rfl wq oO oO oO oO hS ?_)))));intro va2 La2 wa2 hG hS hBa2;refine J2 ?_;refine jp (aF rfl (hl.ab hS.ab) ⟨_,Tryz.underlying138⟩ ?_);refine V2 ?_;refine aQ (σ:=Nat) (λk ρ w'=>k<=m/\ρ 0=vl/\ρ 4=iB ((k:Int)-1)/\∃vb Lb,ρ 3=vb/\Gl (uk .u8) 5 1 vb ((pad 256 (V/ap^k) (4*(m-k))).reverse) Lb/\St w w' ([]++Lb)) (λk=>k) m
  ⟨Nat.le_refl _,rfl,vi rfl oO,⟨_,_,rfl,by rw[Nat.sub_self];exact hG,hS⟩⟩ ?_
 clear hS;rintro k ρ w3 ⟨hk,h0,h4,vb,Lb,h3,hG,hS⟩;refine V2 ?_;have hlenG:((pad 256 (V/ap^k) (4*(m-k))).reverse).length=4*(m-k):=by simp
 by_cases hk0:0<k
 ·refine J3 ?_;refine jp (aH (i:=k-1) rfl rfl (hl.ab hS.ab) oO dO cV (jq (aO (i:=k-1) 0 rfl bG (hl.ab hS.ab) dO rfl rfl (.inr rfl) ?_)));refine V1 ?_;have hx:=dt V (k-1);have hxl:=dk V (k-1);rw[hx];obtain⟨x,hxe⟩:=jz (bO ap V (k-1));rw[<-hxe]at hxl⊢;have h4b:=DL V k (4*(m-k)) x hk0 hxe;refine J2 ?_;refine jp (iU rfl rfl oO (r:=((x/16777216:Nat):Int)) (by exact i5 (k:= .u32) x 24 dD) (jp (bF rfl Tryz.underlying5 ⟨_,Tryz.underlying141⟩ (nw _) ?_)));refine J1 ?_;refine jp (iU rfl rfl oO (r:=((x/65536:Nat):Int)) (by exact i5 (k:= .u32) x 16 dD) (jp (bF rfl Tryz.underlying5 ⟨_,Tryz.underlying141⟩ (nw _) ?_)));refine J1 ?_;refine jp (iU rfl rfl oO (r:=((x/256:Nat):Int)) (by exact i5 (k:= .u32) x 8 dD) (jp (bF rfl Tryz.underlying5 ⟨_,Tryz.underlying141⟩ (nw _) ?_)));refine J1 ?_;refine jp (bF rfl Tryz.underlying5 ⟨_,Tryz.underlying141⟩ (nw _) (jh (dI (vs:=[_,_,_,_]) rfl wq rfl dD dD dD (by simp[Value.cells]) rfl hS ?_)));intro b3 wz4 hS hBz4;refine jh (dK [x/16777216%256,x/65536%256,x/256%256,x%256] rfl rfl wq dD hG hS rfl rfl (tB _) (Ph _ [x/16777216%256,x/65536%256,x/256%256,x%256]) dL dL ?_);intro va5 La5 wa5 hG hS hga5;refine V1 ?_;rw[<-h4b,show 4*(m-k)+4=4*(m-(k-1)) by omega]at hG;refine V3 ?_;exact⟨k-1,_,rfl,⟨oO,h0,vi rfl oO,⟨_,_,rfl,hG,hS⟩⟩,oO⟩
 ·refine J1 ?_;refine jt ?_;obtain rfl:k=0:=oO;rw[Nat.pow_zero,Nat.div_one,Nat.sub_zero]at hG;have hVlt:V<256^(4*m):=by rw[Nat.pow_mul];exact hVm
  have hsz:(ry (pad 256 V (4*m)).reverse).size<=9223372036854775807:=by rw[yx];simp;omega
  refine J1 ?_;refine jq (OL rfl ⟨Tryz.underlying189,Tryz.underlying5,Tryz.underlying9⟩ hG hS (jh (ah Tryz.call120 rfl (qq _ _ hsz) ?_)));rintro _ wq6 ⟨rfl,hq6⟩;replace hq6:=hq6.symm;subst hq6;refine J1 ?_;refine jt ?_;refine bj rfl rfl ?_;rw[CA,Nat.mod_eq_of_lt hVlt];exact⟨rfl,hS.ab⟩
theorem oh (u:Nat) (w:World) (hu:u<18446744073709551616):
  dj Tryz.prog 42 #[.int .u64 u] w λr w'=>r= .string (bB u)/\Below w.heap.size w w':=by
 have hS:=St.init w;refine enter Tryz.func42 rfl Tryz.ntmps42 rfl ?_;refine J2 ?_;refine jp (bF rfl Tryz.underlying141 ⟨_,Tryz.underlying99⟩ (kN _) ?_);refine J1 ?_;refine jp (iU rfl rfl oO (r:=((u/4294967296:Nat):Int)) (by exact i5 _ 32 dD) (jp (bF rfl Tryz.underlying141 ⟨_,Tryz.underlying99⟩ (r:=((u/4294967296:Nat):Int)) (by exact ic _ oO) (jh (dI (vs:=[_,_]) rfl cV rfl dD dD dD (by simp[Value.cells]) rfl hS ?_)))));intro b1 wz2 hS hBz2;have hsl:=St.C9 (L:=[u%4294967296,u/4294967296]) hS (k:=0) rfl (n:=2) (cap:=2) (by simp) oO oO;have hd:∀d∈[u%4294967296,u/4294967296],d<ap:=by
  intro d hd;simp only[List.mem_cons,List.not_mem_nil,or_false]at hd;unfold ap;omega
 refine jh (ah Tryz.call79 rfl (xC _ _ _ hsl hd (by simp)) ?_);rintro _ wc3 ⟨rfl,hBc3⟩;replace hS:=hS.aG hBc3;refine J1 ?_;refine jt ?_;refine bj rfl rfl ?_;exact⟨vs rfl (congrArg bB (xP u)),hS.ab⟩
theorem GL (u v:Value) (m n:Nat) (w:World) (hu:Sl (uk .u32) 1 w u (bH m)) (hv:Sl (uk .u32) 1 w v (bH n)):
  dj Tryz.prog 162 #[u,v] w λr w'=>r= .int .i64 (lx m n)/\Below w.heap.size w w':=by
 have hlu:=hu.maxLen;have hlv:=hv.maxLen;have hS:=St.init w;refine enter Tryz.func162 rfl Tryz.ntmps162 rfl ?_;refine J2 ?_;refine jp (aF rfl (hu.ab hS.ab) ⟨_,Tryz.underlying138⟩ ?_);refine J1 ?_;refine jp (aF rfl (hv.ab hS.ab) ⟨_,Tryz.underlying138⟩ ?_);refine V1 ?_;by_cases hl:(bH m).length=(bH n).length
 ·refine ct rfl (decide_eq_false (by simp[hl])) ?_;refine J1 ?_;refine jp (aF rfl (hu.ab hS.ab) ⟨_,Tryz.underlying138⟩ ?_);refine V2 ?_;refine aQ (σ:=Nat) (λi ρ w'=>i<=(bH m).length/\m/ap^i=n/ap^i/\ρ 0=u/\ρ 1=v/\ρ 5=iB ((i:Int)-1)/\St w w' []) (λi=>i) (bH m).length
   ⟨Nat.le_refl _,?_,rfl,rfl,rfl,hS⟩ ?_
  ·have h1:m<ap^(bH m).length:=eo dD m;have h2:n<ap^(bH n).length:=eo dD n;rw[Nat.div_eq_of_lt h1,hl,Nat.div_eq_of_lt h2]
  clear hS;rintro i ρ w' ⟨hi,hq,h0,h1,h5,hS⟩;refine V2 ?_;by_cases hpos:0<i
  ·refine V1 ?_;have hlen:i-1<(bH m).length:=oO;refine ja ?_;refine bk [jo 0,jo 1,jo 2,ju 3,jo 4,jo 5,jo 6,ju 7,jo 8] kR kR hS ?_;intro wz1 hS hBz1;refine J2 ?_;refine jl rfl (aH (i:=i-1) rfl rfl (hu.ab hS.ab) oO dO cV (jm rfl (aO (i:=i-1) 0 rfl bG (hu.ab hS.ab) dO rfl rfl (.inr rfl) ?_)));refine J2 ?_;refine jl rfl (aH (i:=i-1) rfl rfl (hv.ab hS.ab) oO dO cV (jm rfl (aO (i:=i-1) 0 rfl bG (hv.ab hS.ab) dO rfl rfl (.inr rfl) ?_)));refine V1 ?_;rw[dt,dt];have hs1:=gX ap m (i-1);have hs2:=gX ap n (i-1);rw[show i-1+1=i by omega]at hs1 hs2;by_cases hne:bO ap m (i-1)=bO ap n (i-1)
   ·refine V4 ?_;exact⟨i-1,_,rfl,⟨oO,by rw[hs1,hs2,hq,hne],h0,h1,vi rfl oO,hS⟩,oO⟩
   ·refine V1 ?_;refine bk [jo 0,jo 1,jo 2,ju 3,jo 4,jo 5,jo 6,ju 7,jo 8] kR kR hS ?_;intro wz2 hS hBz2;refine J2 ?_;refine jl rfl (aH (i:=i-1) rfl rfl (hu.ab hS.ab) oO dO cV (jm rfl (aO (i:=i-1) 0 rfl bG (hu.ab hS.ab) dO rfl rfl (.inr rfl) ?_)));refine J2 ?_;refine jl rfl (aH (i:=i-1) rfl rfl (hv.ab hS.ab) oO dO cV (jm rfl (aO (i:=i-1) 0 rfl bG (hv.ab hS.ab) dO rfl rfl (.inr rfl) ?_)));refine V1 ?_;rw[dt,dt];by_cases hlt:bO ap m (i-1)<bO ap n (i-1)
    ·refine J2 ?_;refine jt ?_;refine bj rfl rfl ?_;refine⟨vi rfl (ni (kO (b:=ap) (i:=i-1) ?_)).symm,hS.ab⟩;rw[hs1,hs2,hq];omega
    ·refine J2 ?_;refine jt ?_;refine bj rfl rfl ?_;refine⟨vi rfl (mZ (kO (b:=ap) (i:=i-1) ?_)).symm,hS.ab⟩;rw[hs1,hs2,hq];omega
  ·refine J2 ?_;refine jt ?_;refine bj rfl rfl ?_;obtain rfl:i=0:=oO;rw[Nat.pow_zero,Nat.div_one,Nat.div_one]at hq;rw[hq];exact⟨vi rfl (by rw[pW]),hS.ab⟩
 ·refine J2 ?_;refine jp (aF rfl (hu.ab hS.ab) ⟨_,Tryz.underlying138⟩ ?_);refine J1 ?_;refine jp (aF rfl (hv.ab hS.ab) ⟨_,Tryz.underlying138⟩ ?_);refine V1 ?_;by_cases hlt:(bH m).length<(bH n).length
  ·refine J2 ?_;refine jt ?_;refine bj rfl rfl ?_;exact⟨vi rfl (ni (mR hlt)).symm,hS.ab⟩
  ·refine J2 ?_;refine jt ?_;refine bj rfl rfl ?_;exact⟨vi rfl (mZ (mR oO)).symm,hS.ab⟩
theorem G0 (vx:Value) (X d:Nat) (w:World) (hx:Sl (uk .u32) 1 w vx (bH X)) (hd:0<d) (hd2:d<=4294967295) (hmx:(bH X).length<=17592186044416):
  dj Tryz.prog 163 #[vx,.int .u32 d] w λr w'=>(∃v,r= .tuple #[v,.int .u32 (X%d:Nat)]/\Sl (uk .u32) 1 w' v (bH (X/d)))/\Below w.heap.size w w':=by
 have hS:=St.init w;obtain⟨n,hn⟩:=jz ((bH X).length);have hXn:X<ap^n:=hn▸cW X;refine enter Tryz.func163 rfl Tryz.ntmps163 rfl ?_;refine J3 ?_;refine jp (aF rfl (hx.ab hS.ab) ⟨_,Tryz.underlying138⟩ (jh (iI (n:=(bH X).length) rfl rfl cV oO oO oO oO hS ?_)));intro b1 wz2 hS hBz2;refine J3 ?_;refine jp (aF rfl (hx.ab hS.ab) ⟨_,Tryz.underlying138⟩ ?_);refine V2 ?_;rw[<-hn,<-gD ap n]at hS;refine aQ (σ:=Nat×Nat×Nat) (λs ρ w'=>s.1<=n/\s.2.2<d/\X/ap^s.1=s.2.1*d+s.2.2/\ap^s.1*s.2.1<ap^n/\ρ 0=vx/\ρ 1= .int .u32 d/\ρ 6= .slice (some ⟨b1,0,none⟩) n n/\ρ 7= .int .u64 s.2.2/\ρ 8=iB ((s.1:Int)-1)/\St w w' [(b1,141,Kr .u32 (pad ap (ap^s.1*s.2.1) n))]) (λs=>s.1) (n,0,0)
  ⟨Nat.le_refl _,hd,by simp only[Nat.zero_mul];exact Nat.div_eq_of_lt hXn,by simp only[Nat.mul_zero];omega,rfl,rfl,by rw[hn];rfl,rfl,vi rfl (by rw[hn]),hS⟩ ?_
 clear hS;rintro⟨i,q,r⟩ ρ w3 ⟨hi,hr,hinv,hq,h0,h1,h6,h7,h8,hS⟩;simp only at hi hr hinv hq h0 h1 h6 h7 h8 hS;refine V2 ?_;by_cases hlt:0<i
 ·refine V1 ?_;have hil:i-1<(bH X).length:=oO;have x1:=dk X (i-1);have hg:(bH X).getD (i-1) 0=bO ap X (i-1):=dt X (i-1);have hor:r*2^32|||bO ap X (i-1)=bO ap X (i-1)+r*2^32:=by rw[Nat.or_comm];exact nv _ _ _ oO
  refine J1 ?_;refine jp (nL rfl rfl oO (r:=((r*2^32:Nat):Int)) (by exact nM r 32 _ dD (bV _ ⟨rfl,oO,oO⟩)) ?_);refine J2 ?_;refine jp (aH (i:=i-1) rfl rfl (hx.ab hS.ab) oO dO cV (jq (aO (i:=i-1) 0 rfl bG (hx.ab hS.ab) dO rfl rfl (.inr rfl) (jp (bF rfl Tryz.underlying99 ⟨_,Tryz.underlying141⟩ (r:=((bO ap X (i-1):Nat):Int)) (by rw[hg];exact bV _ ⟨rfl,oO,oO⟩) (jp (rV rfl rfl (r:=((bO ap X (i-1)+r*2^32:Nat):Int)) (by rw[<-hor];exact km rfl _ _ (by show _<18446744073709551616;omega) (by show _<18446744073709551616;omega)) ?_)))))));refine V1 ?_;obtain⟨t,ht⟩:=jz (bO ap X (i-1)+r*2^32);rw[<-ht];have ht1:t/d<=4294967295:=by
   have:t<d*4294967296:=by
    have:(r+1)*4294967296<=d*4294967296:=Nat.mul_le_mul_right _ hr;omega
   have:=Nat.div_lt_of_lt_mul this;omega
  refine J4 ?_;refine jp (bF rfl Tryz.underlying99 ⟨_,Tryz.underlying141⟩ (r:=((d:Nat):Int)) (by exact bV _ ⟨rfl,oO,oO⟩) (jp (kV rfl rfl oO (IntWalk.u64_quo _ _ oO) (jp (bF rfl Tryz.underlying141 ⟨_,Tryz.underlying99⟩ (r:=((t/d:Nat):Int)) (by exact ic _ ⟨by push_cast;rfl,Int.natCast_nonneg _,by generalize t/d=z at ht1⊢;omega⟩) (jp (bn (i:=i-1) rfl rfl oO dO cV (jh (hJ (k:=0) (i:=i-1) (a:=_) rfl rfl rfl bG hS rfl oO dO ?_)))))))));intro wz3 hS;refine J2 ?_;refine jp (bF rfl Tryz.underlying99 ⟨_,Tryz.underlying141⟩ (r:=((d:Nat):Int)) (by exact bV _ ⟨rfl,oO,oO⟩) (jp (iJ rfl rfl oO (r:=((t%d:Nat):Int)) (by rw[Int.tmod_eq_emod_of_nonneg oO];push_cast;rfl) ?_)));refine V1 ?_;obtain⟨e1,e2⟩:=ng (b:=ap) (q:=q) (i:=i) (e:=t/d) (n:=n) dD (by unfold ap;omega) hlt hi hq;rw[List.set_cons_zero,e1]at hS;refine V3 ?_;have hs:=gX ap X (i-1);rw[show i-1+1=i by omega,hinv]at hs;refine⟨(i-1,ap*q+t/d,t%d),_,rfl,⟨by simp only;omega,Nat.mod_lt _ hd,?_,e2,h0,h1,h6,rfl,vi rfl (by simp only;omega),hS⟩,by simp only;omega⟩;simp only;have h9:=Nat.div_add_mod t d;have h10:ap=2^32:=rfl;rw[hs,Nat.add_mul,Nat.mul_add,Nat.mul_assoc,Nat.add_assoc,Nat.add_assoc,Nat.mul_comm (t/d) d,h9,ht,h10];omega
 ·refine J1 ?_;refine jt ?_;obtain rfl:i=0:=oO;rw[Nat.pow_zero,Nat.div_one]at hinv;rw[Nat.pow_zero,Nat.one_mul]at hS hq;have hqd:X/d=q:=by rw[hinv,Nat.add_comm,Nat.add_mul_div_right _ _ hd,Nat.div_eq_of_lt hr,Nat.zero_add]
  have hrd:X%d=r:=by rw[hinv,Nat.mul_add_mod_self_right,Nat.mod_eq_of_lt hr]
  have hsl:=hS.C9 (k:=0) rfl (n:=n) (cap:=n) (by simp) (Nat.le_refl _) oO;rw[List.take_of_length_le (by simp)]at hsl;refine J1 ?_;refine jh (ah Tryz.call123 rfl (ny _ _ _ hsl (lE dD _ _)) ?_);rintro _ wq4 ⟨hv,hq4⟩;replace hq4:=hq4.symm;subst hq4;refine J1 ?_;refine jp (bF rfl Tryz.underlying141 ⟨_,Tryz.underlying99⟩ (r:=((r:Nat):Int)) (by exact ic _ ⟨rfl,oO,oO⟩) ?_);refine J2 ?_;refine jt ?_;refine j6 rfl rfl rfl ?_;rw[ef hq]at hv;rw[hqd,hrd];exact⟨⟨_,rfl,hv⟩,hS.ab⟩
theorem ud (vx:Value) (X c n:Nat) (w:World) (hx:Sl (uk .u32) 1 w vx (bH X)) (hc:c<32) (hn:(bH X).length+1=n) (hmx:n<=17592186044416):
  dj Tryz.prog 184 #[vx,.int .u64 c] w λr w'=>
   (∃b,r= .slice (some ⟨b,0,none⟩) n n/\w.heap.size<=b/\w'.heap[b]?=some (.cells (Kr .u32 (pad ap (X*2^c) n)).toArray 141 (0,0)))/\Below w.heap.size w w':=by
 have hS:=St.init w;obtain⟨m,hm⟩:=jz ((bH X).length);have hXm:X<ap^m:=hm▸cW X;have hp2:2^c<=2^31:=Nat.pow_le_pow_right dD oO;have hpos:0<2^c:=Nat.pow_pos dD;refine enter Tryz.func184 rfl Tryz.ntmps184 rfl ?_;refine J2 ?_;refine jp (aF rfl (hx.ab hS.ab) ⟨_,Tryz.underlying138⟩ ?_);refine J1 ?_;refine jh (iI (n:=n) rfl rfl cV oO oO oO oO hS ?_);intro b1 wz2 hS hBz2;refine V2 ?_;rw[<-gD ap n]at hS;refine aQ (σ:=Nat) (λi ρ w'=>i<=m/\ρ 0=vx/\ρ 1= .int .u64 c/\ρ 5= .slice (some ⟨b1,0,none⟩) n n/\ρ 6=iB i/\St w w' [(b1,141,Kr .u32 (pad ap (X%ap^i*2^c) n))]) (λi=>m-i) 0
  ⟨Nat.zero_le _,rfl,rfl,rfl,rfl,by rw[Nat.pow_zero,Nat.mod_one,Nat.zero_mul];exact hS⟩ ?_
 clear hS;rintro i ρ w3 ⟨hi,h0,h1,h5,h6,hS⟩;refine J2 ?_;refine jp (aF rfl (hx.ab hS.ab) ⟨_,Tryz.underlying138⟩ ?_);refine V1 ?_;by_cases hlt:i<m
 ·refine V1 ?_;have hil:i<(bH X).length:=oO;have x1:=dk X i;obtain⟨x,hxd⟩:=jz (bO ap X i);rw[<-hxd]at x1;have hx2:x*2^c<=4294967295*2^31:=Nat.mul_le_mul x1 hp2;obtain⟨V,hV⟩:=jz (X%ap^i*2^c);have hVs:X%ap^(i+1)*2^c=V+ap^i*(x*2^c):=by rw[mod_pow_succ,Nat.add_mul,<-hV,Nat.mul_assoc,hxd]
  have hVlt:V<ap^i*2^c:=by rw[hV];exact Nat.mul_lt_mul_of_pos_right (kx dD X i) hpos
  have hBi:0<ap^i:=Nat.pow_pos dD;have hVd:V/ap^i<2^c:=Nat.div_lt_of_lt_mul hVlt;have hVb:V<ap^(i+1):=by
   have:ap^i*2^c<=ap^i*ap:=Nat.mul_le_mul_left _ (by unfold ap;omega);rw[Nat.pow_succ];omega
  have hdg:bO ap V i=V/ap^i:=j4 dD hVb;have hfit:=yX (V/ap^i) x c oO hVd;have hget:(pad ap V n).getD i 0=V/ap^i:=by rw[fE _ _ oO,hdg]
  rw[<-hV]at hS;have hsplit:=Nat.div_add_mod (x*2^c) 4294967296;have hlow:V+ap^i*((x*2^c)%4294967296)<ap^(i+1):=by
   have h8:=Nat.div_add_mod V (ap^i);have h9:=Nat.mod_lt V hBi;have h10:ap^i*(V/ap^i+(x*2^c)%4294967296+1)<=ap^i*ap:=Nat.mul_le_mul_left _ hfit;rw[Nat.mul_add,Nat.mul_add]at h10;rw[Nat.pow_succ];omega
  refine J2 ?_;refine jp (aH (i:=i) rfl rfl (hx.ab hS.ab) oO dO cV (jq (aO (i:=i) 0 rfl bG (hx.ab hS.ab) dO rfl rfl (.inr rfl) (jp (bF rfl Tryz.underlying99 ⟨_,Tryz.underlying141⟩ (r:=((x:Nat):Int)) (by rw[dt,hxd];exact bV _ ⟨rfl,oO,oO⟩) ?_)))));refine J1 ?_;refine jp (nL rfl rfl oO (nM x c ((x*2^c:Nat):Int) (by show c<=64;omega) (bV _ ⟨rfl,oO,oO⟩)) ?_);refine J5 ?_;refine jp (bn (i:=i) rfl rfl oO dO cV (jq (fz (k:=0) (i:=i) rfl bG hS rfl oO dO ?_)));refine J1 ?_;refine jp (bF rfl Tryz.underlying141 ⟨_,Tryz.underlying99⟩ (kN _) (jp (rV rfl rfl (r:=((V/ap^i+(x*2^c)%4294967296:Nat):Int)) (by rw[hget,<-CX _ _ _ oO hVd];exact km rfl _ _ (by show _<4294967296;omega) (by show _<4294967296;omega)) (jp (bn (i:=i) rfl rfl oO dO cV (jh (hJ (k:=0) (i:=i) (a:=_) rfl rfl rfl bG hS rfl oO dO ?_)))))));intro wz3 hS;refine ja ?_;have hset:=si (b:=ap) (v:=V) (n:=n) (k:=i) (x:=(x*2^c)%4294967296) dD hVb hlow;rw[hdg]at hset;rw[List.set_cons_zero,hset]at hS;have hnext:V+ap^i*((x*2^c)%4294967296)+ap^(i+1)*(x*2^c/4294967296)=X%ap^(i+1)*2^c:=by
   have:ap^(i+1)*(x*2^c/4294967296)=ap^i*(4294967296*(x*2^c/4294967296)):=by rw[Nat.pow_succ,Nat.mul_assoc]
   rw[hVs,this,Nat.add_assoc,<-Nat.mul_add];congr 2;omega
  have hhi:x*2^c/4294967296<2147483648:=oO;refine J4 ?_;refine jp (iU rfl rfl oO (r:=((x*2^c/4294967296:Nat):Int)) (by exact i5 _ 32 dD) (jp (bF rfl Tryz.underlying141 ⟨_,Tryz.underlying99⟩ (r:=((x*2^c/4294967296:Nat):Int)) (by exact ic _ ⟨rfl,oO,oO⟩) (jp (bn (i:=i+1) rfl rfl oO dO cV (jh (hJ (k:=0) (i:=i+1) (a:=_) rfl rfl rfl bG hS rfl oO dO ?_)))))));intro wz4 hS;refine ja ?_;obtain⟨e1,e2⟩:=qa (b:=ap) (r:=V+ap^i*((x*2^c)%4294967296)) (i:=i+1) (d:=x*2^c/4294967296) (n:=n) dD hlow (show _<4294967296 by omega);rw[List.set_cons_zero,e1,hnext]at hS;refine V3 ?_;exact⟨i+1,_,rfl,⟨hlt,h0,h1,h5,vi rfl oO,hS⟩,oO⟩
 ·refine J1 ?_;refine jt ?_;obtain rfl:i=m:=oO;rw[Nat.mod_eq_of_lt hXm]at hS;refine J2 ?_;refine jt ?_;refine bj rfl rfl ?_;exact⟨⟨b1,rfl,hS.ge (k:=0) rfl,hS.get (k:=0) rfl⟩,hS.ab⟩
structure LF (ρ:Nat->Value) (n s m M bu bv bq:Nat):Prop where
 h6:ρ 6=iB n
 h7:ρ 7= .int .u64 s
 h8:ρ 8= .slice (some ⟨bu,0,none⟩) (m+1) (m+1)
 h9:ρ 9= .slice (some ⟨bv,0,none⟩) n (n+1)
 h10:ρ 10= .slice (some ⟨bq,0,none⟩) M M
theorem Ax (a b c d:bQ): [a,b,c].set 2 d=[a,b,d]:=rfl
theorem LW (t:Nat) (h:t<=18446744073709551615):iF .and .u64 (t:Int) 4294967295=((t%4294967296:Nat):Int):=by
 rw[show t%4294967296=t&&&4294967295 from(Nat.and_two_pow_sub_one_eq_mod t 32).symm];exact Af rfl t 4294967295 (by show t<18446744073709551616;omega) dD
theorem Mr (x y:Nat) (hx:x<=4294967295) (hy:y<=4294967296):IntKind.u32.wrap (IntKind.u64.wrap ((x:Int)-(y:Int)))=(((x+4294967296-y)%4294967296:Nat):Int):=by
 rw[pU,me];omega
theorem Ew (x y:Nat) (hx:x<=4294967295) (hy:y<=4294967296):(x+4294967296-y)%4294967296+y=x+4294967296*(if x<y then 1 else 0):=by
 rcases Nat.lt_or_ge x y with h|h
 ·rw[if_pos h];omega
 ·rw[if_neg oO];omega
theorem Kl (vx vy:Value) (X Y:Nat) (w:World) (hx:Sl (uk .u32) 1 w vx (bH X)) (hy:Sl (uk .u32) 1 w vy (bH Y)) (hYX:Y<=X) (hn2:2<=(bH Y).length) (hmx:(bH X).length<=4398046511104):
  dj Tryz.prog 164 #[vx,vy] w λr w'=>(∃q s,r= .tuple #[q,s]/\Sl (uk .u32) 1 w' q (bH (X/Y))/\Sl (uk .u32) 1 w' s (bH (X%Y)))/\Below w.heap.size w w':=by
 have hB:ap=4294967296:=rfl;have hS:=St.init w;obtain⟨m,hm⟩:=jz ((bH X).length);obtain⟨n,hn⟩:=jz ((bH Y).length);obtain⟨M,hM⟩:=jz (m-n+1);have hXm:X<ap^m:=hm▸cW X;have hYn:Y<ap^n:=hn▸cW Y;have hnm:n<=m:=by rw[hn,hm];exact ft dD hYX
 have hY0:0<Y:=by
  rcases Nat.eq_zero_or_pos Y with h|h
  ·rw[h]at hn2;unfold bH at hn2;rw[fq]at hn2;exact absurd hn2 dD
  ·exact h
 obtain⟨hn0,htp⟩:=rj hY0;rw[<-hn]at hn0 htp hn2;have htl:=dk Y (n-1);obtain⟨x,hxe⟩:=jz (bO ap Y (n-1));rw[<-hxe]at htp htl;refine enter Tryz.func164 rfl Tryz.ntmps164 rfl ?_;refine J3 ?_;refine jp (aF rfl (hy.ab hS.ab) ⟨_,Tryz.underlying138⟩ ?_);refine J2 ?_;refine jb ?_;refine aW (λρ w'=>∃s:Nat,s<32/\x*2^s<ap/\ap<=2*(x*2^s)/\ρ 0=vx/\ρ 1=vy/\ρ 6=iB n/\ρ 7= .int .u64 s/\St w w' []) ?_ ?_
 ·refine ja ?_;refine aQ (σ:=Nat) (λs ρ w'=>s<32/\x*2^s<ap/\ρ 0=vx/\ρ 1=vy/\ρ 6=iB n/\ρ 7= .int .u64 s/\St w w' []) (λs=>32-s) 0
   ⟨dD,by simp only[Nat.pow_zero,Nat.mul_one];omega,rfl,rfl,vi rfl (by rw[hn]),rfl,hS⟩ ?_
  clear hS;rintro s ρ w2 ⟨hs,hxs,h0,h1,h6,h7,hS⟩;refine J3 ?_;refine jp (aH (i:=n-1) rfl rfl (hy.ab hS.ab) oO dO cV (jq (aO (i:=n-1) 0 rfl bG (hy.ab hS.ab) dO rfl rfl (.inr rfl) ?_)));refine J1 ?_;refine jp (nL rfl rfl oO (r:=((x*2^s:Nat):Int)) (by rw[dt,<-hxe];exact nM x s _ (by show s<=32;omega) (ic _ ⟨rfl,oO,oO⟩)) ?_);refine V1 ?_;by_cases hlt:x*2^s<2147483648
  ·refine V1 ?_;have hs2:s+1<32:=by
    rcases Nat.lt_or_ge (s+1) 32 with g|g
    ·exact g
    ·exfalso;obtain rfl:s=31:=oO;have:1*2^31<=x*2^31:=Nat.mul_le_mul_right _ htp;omega
   refine V3 ?_;refine⟨s+1,_,rfl,⟨hs2,?_,h0,h1,h6,vi rfl oO,hS⟩,oO⟩;rw[Nat.pow_succ,<-Nat.mul_assoc];omega
  ·refine J1 ?_;refine jt ?_;exact⟨_,rfl,s,hs,hxs,oO,h0,h1,h6,h7,hS⟩
 clear hS;rintro ρ w2 ⟨s,hs,hxs,hxs2,h0,h1,h6,h7,hS⟩;refine ja ?_;rw[hxe]at hxs hxs2;obtain⟨hD,hD2⟩:=BG hn0 hYn hs hxs hxs2;have hpc:0<2^s:=Nat.pow_pos dD;have hpc2:2^s<=2^31:=Nat.pow_le_pow_right dD oO;obtain⟨D,hDe⟩:=jz (Y*2^s);rw[<-hDe]at hD hD2;have hD0:0<D:=by rw[hDe];exact Nat.mul_pos hY0 hpc
 have hUD:X*2^s<D*ap^(m-n+1):=by
  have h3:X*2^s<ap^m*2^s:=Nat.mul_lt_mul_of_pos_right hXm hpc;have h4:ap^m*2^s<=ap^m*2^31:=Nat.mul_le_mul_left _ hpc2;have h5:ap^n*ap^(m-n+1)=ap^m*ap:=by rw[<-Nat.pow_add,<-Nat.pow_succ];congr 1;omega
  have h6:ap^n*ap^(m-n+1)<=2*D*ap^(m-n+1):=Nat.mul_le_mul_right _ hD2;rw[Nat.mul_assoc]at h6;have h7:ap^m*ap=ap^m*4294967296:=rfl;omega
 rw[<-hM]at hUD;clear hxs hxs2 hXm;refine J2 ?_;refine jh (ah Tryz.call184 rfl (ud _ X s (m+1) _ (hx.ab hS.ab) hs oO oO) ?_);rintro r w3 ⟨⟨bu,rfl,hbu1,hbu2⟩,hB3⟩;replace hS:=hS.push hB3 hbu1 hbu2;refine J3 ?_;refine jh (ah Tryz.call184 rfl (ud _ Y s (n+1) _ (hy.ab hS.ab) hs oO oO) ?_);rintro r w4 ⟨⟨bv,rfl,hbv1,hbv2⟩,hB4⟩;replace hS:=hS.push hB4 hbv1 hbv2;rw[<-hDe]at hS;refine J1 ?_;refine jp (zA (hi:=n) rfl rfl rfl oO cV ?_);refine J2 ?_;refine jp (aF rfl (hx.ab hS.ab) ⟨_,Tryz.underlying138⟩ ?_);refine J3 ?_;refine jh (iI (n:=M) rfl rfl cV oO oO oO oO hS ?_);intro b1 wz2 hS hBz2;refine J2 ?_;refine jp (aF rfl (hx.ab hS.ab) ⟨_,Tryz.underlying138⟩ ?_);refine V3 ?_;rw[<-gD,show 0=ap^M*0 by rw[Nat.mul_zero]]at hS;refine aQ (σ:=Nat×Nat×Nat) (λt ρ w'=>t.1<=M/\X*2^s=t.2.1*D*ap^t.1+t.2.2/\t.2.2<D*ap^t.1/\LF ρ n s m M bu bv b1/\ρ 11=iB ((t.1:Int)-1)/\
   St w w' [(b1,141,Kr .u32 (pad ap (ap^t.1*t.2.1) M)),(bv,141,Kr .u32 (pad ap D (n+1))),(bu,141,Kr .u32 (pad ap t.2.2 (m+1)))]) (λt=>t.1) (M,0,X*2^s)
  ⟨Nat.le_refl _,by simp,hUD,⟨h6,h7,rfl,rfl,rfl⟩,vi rfl oO,hS⟩ ?_
 clear hS h0 h1 h6 h7;rintro⟨k,Q,V⟩ ρ w6 ⟨hk,hinv,hV,hF,h11,hS⟩;simp only at hk hinv hV h11 hS;refine V2 ?_;by_cases hk0:0<k
 ·refine V1 ?_;have hpk:0<ap^(k-1):=Nat.pow_pos dD;have hkk:ap^k=ap^(k-1)*ap:=by rw[<-Nat.pow_succ];congr 1;omega
  have hVs:V%ap^(k-1)+ap^(k-1)*(V/ap^(k-1))=V:=Nat.mod_add_div _ _;have hU:V/ap^(k-1)<D*ap:=by
   refine Nat.div_lt_of_lt_mul ?_;rw[hkk]at hV;rw[Nat.mul_left_comm];exact hV
  have hlo:V%ap^(k-1)<ap^(k-1):=Nat.mod_lt _ hpk;obtain⟨lo,hloe⟩:=jz (V%ap^(k-1));obtain⟨U,hUe⟩:=jz (V/ap^(k-1));rw[<-hloe,<-hUe]at hVs;rw[<-hUe]at hU;rw[<-hloe]at hlo;clear hloe hUe;obtain⟨j,hj⟩:=jz (k-1);rw[<-hj]at hpk hkk hVs hlo;have hq0:U/D<ap:=Nat.div_lt_of_lt_mul hU;have hQ:ap^k*Q<ap^M:=by
   rcases Nat.lt_or_ge (ap^k*Q) (ap^M)with h|h
   ·exact h
   ·exfalso;have h3:D*ap^M<=D*(ap^k*Q):=Nat.mul_le_mul_left _ h;have h4:D*(ap^k*Q)=Q*D*ap^k:=by ac_rfl
    omega
  obtain⟨eq1,eq2⟩:=ng (b:=ap) (q:=Q) (i:=k) (e:=U/D) (n:=M) dD hq0 hk0 hk hQ;have hinv2:X*2^s=(ap*Q+U/D)*D*ap^j+(lo+ap^j*(U%D)):=by
   have g1:=Nat.div_add_mod U D;have g2:ap^j*U=ap^j*(D*(U/D))+ap^j*(U%D):=by rw[<-Nat.mul_add,g1]
   have g3:(ap*Q+U/D)*D*ap^j=Q*D*ap^k+ap^j*(D*(U/D)):=by
    rw[hkk,Nat.add_mul,Nat.add_mul];congr 1<;>ac_rfl
   rw[g3,hinv,<-hVs,g2];omega
  have hV2:lo+ap^j*(U%D)<D*ap^j:=by
   have g1:U%D+1<=D:=Nat.mod_lt _ hD0;have g2:ap^j*(U%D+1)<=ap^j*D:=Nat.mul_le_mul_left _ g1;rw[Nat.mul_comm D,Nat.mul_add]at*;omega
  rw[<-hVs]at hS;clear hinv hV hVs hQ hUD;have hjm:j+n+1<=m+1:=oO;have h11':ρ 11=iB (j:Int):=h11.trans (congrArg (Value.int IntKind.i64) oO);clear h11;have hkn:=Kn.of n U D hn2 hD hD2 hU;have hU1:U<ap^(n+1):=by
   rw[Nat.pow_succ];exact Nat.lt_trans hU (Nat.mul_lt_mul_of_pos_right hD dD)
  have hgU:∀Z i,i<=n->(pad ap (lo+ap^j*Z) (m+1)).getD (j+i) 0=bO ap Z i:=λZ i hi=>by rw[fE _ _ oO,A3 dD hlo]
  have hgD:∀i,i<n+1->(pad ap D (n+1)).getD i 0=bO ap D i:=λi hi=>fE _ _ hi;have hgd1:=hgD (n-1) oO;have hgd2:=hgD (n-2) oO;have a0:=dk U n;have a1:=dk U (n-1);have a2:=dk U (n-2);have c1:=dk D (n-1);have c2:=dk D (n-2);have hd1:=hkn.h1;obtain⟨top,htop⟩:=jz (bO ap U n*ap+bO ap U (n-1));have htop2:top=bO ap U (n-1)+bO ap U n*2^32:=by rw[htop,Nat.add_comm]
  have hor:bO ap U n*2^32|||bO ap U (n-1)=top:=by rw[Nat.or_comm,nv _ _ _ oO,htop2]
  have htl2:top<=18446744073709551615:=by rw[htop];omega
  have hgn1:(pad ap (lo+ap^j*U) (m+1)).getD (j+n-1) 0=bO ap U (n-1):=by rw[show j+n-1=j+(n-1) by omega];exact hgU U _ oO
  have hgn2:(pad ap (lo+ap^j*U) (m+1)).getD (j+n-2) 0=bO ap U (n-2):=by rw[show j+n-2=j+(n-2) by omega];exact hgU U _ oO
  refine ja ?_;refine bk [jo 0,jo 1,jo 2,jo 3,jo 4,ju 5,jo 6,jo 7,jo 8,jo 9,jo 10,jo 11,jo 12,jo 13,ju 14,jo 15,jo 16,jo 17] kR kR hS ?_;intro wz3 hS hBz3;refine jl rfl (aI hF.h8 ?_);refine J1 ?_;refine jl rfl (aI hF.h6 ?_);refine J1 ?_;refine jl rfl (bn (i:=j+n) rfl rfl oO dO cV (jm rfl (fz (k:=2) (i:=j+n) rfl bG hS rfl oO dO (jl rfl (bF rfl Tryz.underlying99 ⟨_,Tryz.underlying141⟩ (r:=((bO ap U n:Nat):Int)) (by rw[hgU U n oO];exact bV _ ⟨rfl,oO,oO⟩) (jl rfl (nL rfl rfl oO (r:=((bO ap U n*2^32:Nat):Int)) (by exact nM _ 32 _ dD (bV _ ⟨rfl,oO,oO⟩)) (jl rfl (aI hF.h8 ?_)))))))));refine J1 ?_;refine jl rfl (aI hF.h6 ?_);refine J2 ?_;refine jl rfl (bn (i:=j+n-1) rfl rfl oO dO cV (jm rfl (fz (k:=2) (i:=j+n-1) rfl bG hS rfl oO dO (jl rfl (bF rfl Tryz.underlying99 ⟨_,Tryz.underlying141⟩ (r:=((bO ap U (n-1):Nat):Int)) (by rw[hgn1];exact bV _ ⟨rfl,oO,oO⟩) (jl rfl (rV rfl rfl (r:=((top:Nat):Int)) (by rw[<-hor];exact km rfl _ _ (by show _<18446744073709551616;omega) (by show _<18446744073709551616;omega)) ?_)))))));refine J2 ?_;refine jp (aI hF.h9 (jp (aI hF.h6 ?_)));refine J1 ?_;refine jp (bn (i:=n-1) rfl rfl oO dO cV (jq (fz (k:=1) (i:=n-1) rfl bG hS rfl oO dO (jp (bF rfl Tryz.underlying99 ⟨_,Tryz.underlying141⟩ (r:=((bO ap D (n-1):Nat):Int)) (by rw[hgd1];exact bV _ ⟨rfl,oO,oO⟩) (jp (kV rfl rfl oO (r:=((top/bO ap D (n-1):Nat):Int)) (by rw[IntWalk.u64_quo _ _ oO];push_cast;rfl) ?_)))))));refine J2 ?_;refine jp (aI hF.h9 (jp (aI hF.h6 ?_)));refine J1 ?_;refine jp (bn (i:=n-1) rfl rfl oO dO cV (jq (fz (k:=1) (i:=n-1) rfl bG hS rfl oO dO (jp (bF rfl Tryz.underlying99 ⟨_,Tryz.underlying141⟩ (r:=((bO ap D (n-1):Nat):Int)) (by rw[hgd1];exact bV _ ⟨rfl,oO,oO⟩) (jp (iJ rfl rfl oO (r:=((top%bO ap D (n-1):Nat):Int)) (by rw[Int.tmod_eq_emod_of_nonneg oO];push_cast;rfl) ?_)))))));refine J1 ?_;refine jb ?_;refine aW (λρ w'=>∃g,g<ap/\U/D<=g/\g<=U/D+1/\LF ρ n s m M bu bv b1/\ρ 11=iB j/\ρ 13= .int .u64 g/\
    St w w' [(b1,141,Kr .u32 (pad ap (ap^k*Q) M)),(bv,141,Kr .u32 (pad ap D (n+1))),(bu,141,Kr .u32 (pad ap (lo+ap^j*U) (m+1)))]) ?_ ?_
  ·refine ja ?_;refine aQ (σ:=Nat×Nat) (λt ρ w'=>t.1*bO ap D (n-1)+t.2=top/\U/D<=t.1/\t.2<ap/\LF ρ n s m M bu bv b1/\ρ 11=iB j/\ρ 13= .int .u64 t.1/\ρ 14= .int .u64 t.2/\
     St w w' [(b1,141,Kr .u32 (pad ap (ap^k*Q) M)),(bv,141,Kr .u32 (pad ap D (n+1))),(bu,141,Kr .u32 (pad ap (lo+ap^j*U) (m+1)))]) (λt=>t.1) (top/bO ap D (n-1),top%bO ap D (n-1))
    ⟨by simp only;rw[Nat.mul_comm];exact Nat.div_add_mod _ _,by simp only;rw[htop];exact hkn.q_le_top,by simp only;have:=Nat.mod_lt top hd1;omega,⟨hF.h6,hF.h7,hF.h8,hF.h9,hF.h10⟩,h11',rfl,rfl,hS⟩ ?_
   clear hS hF h11';rintro⟨g,r⟩ ρ w3 ⟨hinv,hgq,hr,hF,h11,h13,h14,hS⟩;simp only at hinv hgq hr h13 h14 hS;have hgt:g<=top:=by
    have:g*1<=g*bO ap D (n-1):=Nat.mul_le_mul_left _ hd1;omega
   refine ja ?_;by_cases hgB:ap<=g
   ·refine ja ?_;refine bk [jo 0,jo 1,jo 2,jo 3,jo 4,jo 5,jo 6,jo 7,ju 8,jo 9,jo 10,jo 11,jo 12,jo 13,jo 14,jo 15,jo 16,jo 17,jo 18,ju 19,jo 20,jo 21,jo 22,jo 23] kR kR hS ?_;intro wz4 hS hBz4;refine J3 ?_;refine fD rfl (ak 95 kR rfl dT) (fD rfl (ak 95 kR rfl dT) (fD rfl (ak 95 kR rfl dT) (fD rfl (ak 95 kR rfl dT) (fD rfl (ak 95 kR rfl dT) (fD rfl (ak 95 kR rfl dT) (fD rfl (ak 95 kR rfl dT) (fD rfl (ak 95 kR rfl dT) (fD rfl (ak 95 kR rfl dT) (fD rfl (ak 95 kR rfl dT) (fD rfl (ak 95 kR rfl dT) (fD rfl (ak 95 kR rfl dT) (fD rfl (ak 95 kR rfl dT) (fD rfl (ak 95 kR rfl dT) ?_)))))))))))));refine fD rfl (ak 95 kR rfl dT) (fD rfl (ak 95 kR rfl dT) (fD rfl (ak 95 kR rfl dT) (fD rfl (ak 95 kR rfl dT) (fD rfl (ak 95 kR rfl dT) (fD rfl (ak 95 kR rfl dT) (jl rfl (aZ (vb rfl dT) rfl ?_)))))));refine ja ?_;refine bZ rfl (rfl) ?_;refine ja ?_;have hgq2:U/D<g:=oO;have hg0:0<g:=Nat.lt_of_le_of_lt (Nat.zero_le _) hgq2;have hg1:U/D<=g-1:=Nat.le_sub_one_of_lt hgq2;refine V3 ?_;have hgd:(g-1)*bO ap D (n-1)+(r+bO ap D (n-1))=top:=by
     obtain⟨g',rfl⟩:∃g',g=g'+1:=⟨g-1,oO⟩;rw[Nat.add_mul,Nat.one_mul]at hinv;rw[Nat.add_sub_cancel];omega
    refine J1 ?_;refine jp (aI hF.h9 (jp (aI hF.h6 ?_)));refine J1 ?_;refine jp (bn (i:=n-1) rfl rfl oO dO cV (jq (fz (k:=1) (i:=n-1) rfl bG hS rfl oO dO (jp (bF rfl Tryz.underlying99 ⟨_,Tryz.underlying141⟩ (r:=((bO ap D (n-1):Nat):Int)) (by rw[hgd1];exact bV _ ⟨rfl,oO,oO⟩) (jp (ia rfl rfl (r:=((r+bO ap D (n-1):Nat):Int)) (by exact bV _ ⟨by push_cast;rfl,oO,oO⟩) ?_)))))));refine V3 ?_;by_cases hbrk:ap<=r+bO ap D (n-1)
    ·refine J1 ?_;refine jt ?_;have hgB:g-1<ap:=by
      rcases Nat.lt_or_ge (g-1) ap with h|h
      ·exact h
      ·exfalso;have h1:ap*bO ap D (n-1)<=(g-1)*bO ap D (n-1):=Nat.mul_le_mul_right _ h;have h2:=hkn.top_le;rw[<-htop,Nat.mul_comm]at h2;omega
     have hgq:=hkn.rest (by rw[<-htop];exact hgd) oO hbrk;exact⟨_,rfl,g-1,hgB,hg1,oO,⟨hF.h6,hF.h7,hF.h8,hF.h9,hF.h10⟩,h11,vi rfl oO,hS⟩
    ·refine V1 ?_;refine⟨(g-1,r+bO ap D (n-1)),_,rfl,⟨hgd,hg1,by simp only;omega,⟨hF.h6,hF.h7,hF.h8,hF.h9,hF.h10⟩,h11,vi rfl (by simp only;omega),rfl,hS⟩,by simp only;omega⟩
   ·have hgd2':g*bO ap D (n-2)<=4294967295*4294967295:=Nat.mul_le_mul oO c2;have hor2:r*2^32|||bO ap U (n-2)=r*4294967296+bO ap U (n-2):=by rw[Nat.or_comm,nv _ _ _ oO,Nat.add_comm]
    refine ja ?_;refine bk [jo 0,jo 1,jo 2,jo 3,jo 4,jo 5,jo 6,jo 7,ju 8,jo 9,jo 10,jo 11,jo 12,jo 13,jo 14,jo 15,jo 16,jo 17,jo 18,ju 19,jo 20,jo 21,jo 22,jo 23] kR kR hS ?_;intro wz5 hS hBz5;refine J3 ?_;refine bP rfl (ai 95 kR rfl dF) (aI h13 (bP rfl (ai 95 kR rfl dF) (aI hF.h9 (bP rfl (ai 95 kR rfl dF) (aI hF.h6 (bP rfl (ai 95 kR rfl dF) (k9 rfl rfl (IntWalk.i64_in _ oO) (bP rfl (ai 95 kR rfl dF) (bn (i:=n-2) rfl rfl oO dO cV (eY rfl (ai 95 kR rfl dF) (fz (k:=1) (i:=n-2) rfl bG hS rfl oO dO (bP rfl (ai 95 kR rfl dF) (bF rfl Tryz.underlying99 ⟨_,Tryz.underlying141⟩ (r:=((bO ap D (n-2):Nat):Int)) (by rw[hgd2];exact bV _ ⟨rfl,oO,oO⟩) (bP rfl (ai 95 kR rfl dF) (oH rfl rfl (r:=((g*bO ap D (n-2):Nat):Int)) (by exact bV _ ⟨by push_cast;rfl,oO,oO⟩) (bP rfl (ai 95 kR rfl dF) (aI h14 (bP rfl (ai 95 kR rfl dF) (nL rfl rfl oO (r:=((r*2^32:Nat):Int)) (by exact nM _ 32 _ dD (bV _ ⟨rfl,oO,oO⟩)) (bP rfl (ai 95 kR rfl dF) (aI hF.h8 (bP rfl (ai 95 kR rfl dF) (aI h11 (bP rfl (ai 95 kR rfl dF) (aI hF.h6 (bP rfl (ai 95 kR rfl dF) (ia rfl rfl (IntWalk.i64_in _ oO) ?_)))))))))))))))))))))))))));refine bP rfl (ai 95 kR rfl dF) (k9 rfl rfl (IntWalk.i64_in _ oO) (bP rfl (ai 95 kR rfl dF) (bn (i:=j+n-2) rfl rfl oO dO cV (eY rfl (ai 95 kR rfl dF) (fz (k:=2) (i:=j+n-2) rfl bG hS rfl oO dO (bP rfl (ai 95 kR rfl dF) (bF rfl Tryz.underlying99 ⟨_,Tryz.underlying141⟩ (r:=((bO ap U (n-2):Nat):Int)) (by rw[hgn2];exact bV _ ⟨rfl,oO,oO⟩) (bP rfl (ai 95 kR rfl dF) (rV rfl rfl (r:=((r*4294967296+bO ap U (n-2):Nat):Int)) (by rw[<-hor2];exact km rfl _ _ (by show _<18446744073709551616;omega) (by show _<18446744073709551616;omega)) (bP rfl (ai 95 kR rfl dF) (mQ rfl rfl (jl rfl (aZ (vb rfl dF) rfl ?_)))))))))))));refine ja ?_;by_cases href:r*4294967296+bO ap U (n-2)<g*bO ap D (n-2)
    ·refine bZ rfl (decide_eq_true (by exact_mod_cast href)) ?_;refine ja ?_;have hgq2:U/D<g:=hkn.refuted (by rw[<-htop];exact hinv) hgq href;have hg0:0<g:=Nat.lt_of_le_of_lt (Nat.zero_le _) hgq2;have hg1:U/D<=g-1:=Nat.le_sub_one_of_lt hgq2;refine V3 ?_;have hgd:(g-1)*bO ap D (n-1)+(r+bO ap D (n-1))=top:=by
      obtain⟨g',rfl⟩:∃g',g=g'+1:=⟨g-1,oO⟩;rw[Nat.add_mul,Nat.one_mul]at hinv;rw[Nat.add_sub_cancel];omega
     refine J1 ?_;refine jp (aI hF.h9 (jp (aI hF.h6 ?_)));refine J1 ?_;refine jp (bn (i:=n-1) rfl rfl oO dO cV (jq (fz (k:=1) (i:=n-1) rfl bG hS rfl oO dO (jp (bF rfl Tryz.underlying99 ⟨_,Tryz.underlying141⟩ (r:=((bO ap D (n-1):Nat):Int)) (by rw[hgd1];exact bV _ ⟨rfl,oO,oO⟩) (jp (ia rfl rfl (r:=((r+bO ap D (n-1):Nat):Int)) (by exact bV _ ⟨by push_cast;rfl,oO,oO⟩) ?_)))))));refine V3 ?_;by_cases hbrk:ap<=r+bO ap D (n-1)
     ·refine J1 ?_;refine jt ?_;have hgB:g-1<ap:=by
       rcases Nat.lt_or_ge (g-1) ap with h|h
       ·exact h
       ·exfalso;have h1:ap*bO ap D (n-1)<=(g-1)*bO ap D (n-1):=Nat.mul_le_mul_right _ h;have h2:=hkn.top_le;rw[<-htop,Nat.mul_comm]at h2;omega
      have hgq:=hkn.rest (by rw[<-htop];exact hgd) oO hbrk;exact⟨_,rfl,g-1,hgB,hg1,oO,⟨hF.h6,hF.h7,hF.h8,hF.h9,hF.h10⟩,h11,vi rfl oO,hS⟩
     ·refine V1 ?_;refine⟨(g-1,r+bO ap D (n-1)),_,rfl,⟨hgd,hg1,by simp only;omega,⟨hF.h6,hF.h7,hF.h8,hF.h9,hF.h10⟩,h11,vi rfl (by simp only;omega),rfl,hS⟩,by simp only;omega⟩
    ·refine ct rfl (decide_eq_false (by exact_mod_cast href)) ?_;refine jt ?_;have hnear:=hkn.near (by rw[<-htop];exact hinv) oO (Nat.le_of_not_lt href);exact⟨_,rfl,g,oO,hgq,hnear,⟨hF.h6,hF.h7,hF.h8,hF.h9,hF.h10⟩,h11,h13,hS⟩
  clear hS a0 a1 a2 c1 c2 hor htl2 htop2 hF h11';rintro ρ w2 ⟨g,hgB,hq1,hq2,hF,h11,h13,hS⟩;clear htop hgn1 hgn2;refine J3 ?_;refine jb ?_;refine aW (λρ w'=>∃c bb Z,c<=4294967295/\bb<=1/\Z<ap^(n+1)/\Z+g*D=U+ap^n*(c+bb)/\LF ρ n s m M bu bv b1/\ρ 11=iB j/\ρ 13= .int .u64 g/\ρ 15= .int .u64 (c:Nat)/\ρ 16= .int .u64 (bb:Nat)/\
    St w w' [(b1,141,Kr .u32 (pad ap (ap^k*Q) M)),(bv,141,Kr .u32 (pad ap D (n+1))),(bu,141,Kr .u32 (pad ap (lo+ap^j*Z) (m+1)))]) ?_ ?_
  ·refine ja ?_;refine aQ (σ:=Nat×Nat×Nat×Nat) (λt ρ w'=>t.1<=n/\t.2.1<=4294967295/\t.2.2.1<=1/\t.2.2.2<ap^(n+1)/\t.2.2.2+g*(D%ap^t.1)=U+ap^t.1*(t.2.1+t.2.2.1)/\LF ρ n s m M bu bv b1/\ρ 11=iB j/\ρ 13= .int .u64 g/\ρ 15= .int .u64 t.2.1/\ρ 16= .int .u64 t.2.2.1/\ρ 17=iB t.1/\
     St w w' [(b1,141,Kr .u32 (pad ap (ap^k*Q) M)),(bv,141,Kr .u32 (pad ap D (n+1))),(bu,141,Kr .u32 (pad ap (lo+ap^j*t.2.2.2) (m+1)))]) (λt=>n-t.1) (0,0,0,U)
    ⟨Nat.zero_le _,Nat.zero_le _,Nat.zero_le _,hU1,by simp[Nat.mod_one],⟨hF.h6,hF.h7,hF.h8,hF.h9,hF.h10⟩,h11,h13,rfl,rfl,rfl,hS⟩ ?_
   clear hS hF h11 h13;rintro⟨i,c,bb,Z⟩ ρ w3 ⟨hi,hc,hbb,hZ,hinv,hF,h11,h13,h15,h16,h17,hS⟩;simp only at hi hc hbb hZ hinv h15 h16 h17 hS;refine J1 ?_;refine jp (aI hF.h6 ?_);refine V1 ?_;by_cases hlt:i<n
   ·refine V1 ?_;have x1:=dk Z i;have d1:=dk D i;have hgX:=hgU Z i hi;obtain⟨u1,u2⟩:=qV g (bO ap D i) 0 c oO d1 oO hc;obtain⟨t,ht⟩:=jz (g*bO ap D i+c);have htl:t<=18446744073709551615:=oO;refine J2 ?_;refine jp (aI hF.h9 ?_);refine J1 ?_;refine jp (bn (i:=i) rfl rfl oO dO cV (jq (fz (k:=1) (i:=i) rfl bG hS rfl oO dO (jp (bF rfl Tryz.underlying99 ⟨_,Tryz.underlying141⟩ (r:=((bO ap D i:Nat):Int)) (by rw[hgD i oO];exact bV _ ⟨rfl,oO,oO⟩) (jp (oH rfl rfl (r:=((g*bO ap D i:Nat):Int)) (by exact bV _ ⟨by push_cast;rfl,oO,oO⟩) (jp (ia rfl rfl (r:=((t:Nat):Int)) (by rw[ht];exact bV _ ⟨oO,oO,oO⟩) ?_)))))))));refine J2 ?_;refine jp (yT rfl rfl (LW t htl) ?_);refine J1 ?_;refine jp (ia rfl rfl (r:=((t%4294967296+bb:Nat):Int)) (by exact bV _ ⟨oO,oO,oO⟩) ?_);refine J2 ?_;refine jp (iU rfl rfl oO (r:=((t/4294967296:Nat):Int)) (by exact i5 _ 32 dD) ?_);refine Y1 ?_;refine jp (aI hF.h8 ?_);refine J3 ?_;refine jp (bn (i:=j+i) rfl rfl oO dO cV (jq (fz (k:=2) (i:=j+i) rfl bG hS rfl oO dO (jp (bF rfl Tryz.underlying99 ⟨_,Tryz.underlying141⟩ (r:=((bO ap Z i:Nat):Int)) (by rw[hgX];exact bV _ ⟨rfl,oO,oO⟩) ?_)))));refine V5 ?_;obtain⟨y,hy9⟩:=jz (t%4294967296+bb);have hyl:y<=4294967296:=oO;rw[<-hy9];obtain⟨xx,hxx⟩:=jz ((if bO ap Z i<y then bO ap Z i+4294967296 else bO ap Z i));obtain⟨b',hb'⟩:∃c',c'=(if bO ap Z i<y then 1 else 0):=⟨_,rfl⟩;have hub:xx=bO ap Z i+4294967296*b':=by rw[hxx,hb'];split<;>omega
    have hul:y<=xx/\xx-y<=4294967295:=by rw[hxx];split<;>omega
    have hb1:b'<=1:=by rw[hb'];split<;>omega
    refine aW (λρ w'=>LF ρ n s m M bu bv b1/\ρ 11=iB j/\ρ 13= .int .u64 g/\ρ 15= .int .u64 (t/4294967296:Nat)/\ρ 16= .int .u64 (b':Nat)/\ρ 17=iB i/\ρ 18= .int .u64 (y:Nat)/\ρ 19= .int .u64 (xx:Nat)/\w3=w') ?_ ?_
    ·refine ja ?_;by_cases hlt2:bO ap Z i<y
     ·rw[if_pos hlt2]at hxx hb';refine J2 ?_;refine jp (ia rfl rfl (r:=((xx:Nat):Int)) (by rw[hxx];exact bV _ ⟨oO,oO,oO⟩) ?_);refine V2 ?_;exact⟨_,rfl,⟨hF.h6,hF.h7,hF.h8,hF.h9,hF.h10⟩,h11,h13,rfl,vi rfl (by rw[hb'];rfl),h17,vi rfl (by rw[hy9]),rfl,rfl⟩
     ·rw[if_neg hlt2]at hxx hb';refine V1 ?_;exact⟨_,rfl,⟨hF.h6,hF.h7,hF.h8,hF.h9,hF.h10⟩,h11,h13,rfl,vi rfl (by rw[hb'];rfl),h17,vi rfl (by rw[hy9]),vi rfl (by rw[hxx]),rfl⟩
    clear hxx hb' hF h11 h13 h15 h16 h17;rintro ρ w' ⟨hF,h11,h13,h15,h16,h17,h18,h19,rfl⟩;refine jr ?_;refine jp (aI hF.h8 ?_);refine J5 ?_;refine jp (k9 rfl rfl (r:=((xx-y:Nat):Int)) (by exact bV _ ⟨oO,oO,oO⟩) (jp (bF rfl Tryz.underlying141 ⟨_,Tryz.underlying99⟩ (r:=((xx-y:Nat):Int)) (by exact ic _ ⟨rfl,oO,oO⟩) (jp (bn (i:=j+i) rfl rfl oO dO cV (jh (hJ (k:=2) (i:=j+i) (a:=_) rfl rfl rfl bG hS rfl oO dO ?_)))))));intro wz6 hS;refine ja ?_;obtain⟨Z',e1,e2,e3⟩:=ib (b:=ap) (lo:=lo) (X:=Z) (o:=j) (k:=i) (d:=xx-y) (n:=m+1) dD hlo (show _<4294967296 by omega) oO;rw[Ax,e1]at hS;refine V3 ?_;refine⟨(i+1,t/4294967296,b',Z'),_,rfl,⟨hlt,by simp only;omega,hb1,e3 _ oO hZ,?_,⟨hF.h6,hF.h7,hF.h8,hF.h9,hF.h10⟩,h11,h13,h15,h16,vi rfl (by simp),hS⟩,by simp only;omega⟩;simp only;have f1:g*(D%ap^(i+1))=g*(D%ap^i)+ap^i*(g*bO ap D i):=by rw[mod_pow_succ,Nat.mul_add];congr 1;ac_rfl
    have f2:ap^(i+1)*(t/4294967296+b')=ap^i*(4294967296*(t/4294967296)+4294967296*b'):=by rw[Nat.pow_succ,Nat.mul_assoc,<-Nat.mul_add]
    have f3:bO ap Z i+(4294967296*(t/4294967296)+4294967296*b')=(xx-y)+(g*bO ap D i+c)+bb:=oO;have f4:ap^i*bO ap Z i+ap^i*(4294967296*(t/4294967296)+4294967296*b')=ap^i*(xx-y)+ap^i*(g*bO ap D i)+ap^i*(c+bb):=by
     rw[<-Nat.mul_add,f3,<-Nat.mul_add,<-Nat.mul_add];congr 1;omega
    rw[f1,f2];omega
   ·refine J1 ?_;refine jt ?_;obtain rfl:i=n:=oO;rw[Nat.mod_eq_of_lt hD]at hinv;exact⟨_,rfl,c,bb,Z,hc,hbb,hZ,hinv,⟨hF.h6,hF.h7,hF.h8,hF.h9,hF.h10⟩,h11,h13,h15,h16,hS⟩
  clear hS hF h11 h13;rintro ρ w3 ⟨c,bb,Z,hc,hbb,hZ,hinv,hF,h11,h13,h15,h16,hS⟩;refine ja ?_;have x1:=dk Z n;have hgX:=hgU Z n (Nat.le_refl _);refine J2 ?_;refine jp (ia rfl rfl (r:=((c+bb:Nat):Int)) (by exact bV _ ⟨by push_cast;rfl,oO,oO⟩) ?_);refine Y1 ?_;refine jp (aI hF.h8 ?_);refine J1 ?_;refine jp (aI hF.h6 ?_);refine J1 ?_;refine jp (bn (i:=j+n) rfl rfl oO dO cV (jq (fz (k:=2) (i:=j+n) rfl bG hS rfl oO dO (jp (bF rfl Tryz.underlying99 ⟨_,Tryz.underlying141⟩ (r:=((bO ap Z n:Nat):Int)) (by rw[hgX];exact bV _ ⟨rfl,oO,oO⟩) ?_)))));refine V5 ?_;obtain⟨u',hu'⟩:∃u',u'=(bO ap Z n+4294967296-(c+bb))%4294967296:=⟨_,rfl⟩;obtain⟨b',hb'⟩:∃b',b'=if bO ap Z n<c+bb then 1 else 0:=⟨_,rfl⟩
  have hub:u'+(c+bb)=bO ap Z n+4294967296*b':=by rw[hu',hb'];exact Ew _ _ x1 oO
  have hb1:b'<=1:=by rw[hb'];split<;>omega
  have hbc:(b'=0↔¬bO ap Z n<c+bb):=by rw[hb'];split<;>omega
  have hul:u'<ap:=by rw[hu'];exact Nat.mod_lt _ dD
  refine jr ?_;refine jp (aI hF.h8 ?_);refine J1 ?_;refine jp (aI hF.h6 ?_);refine J3 ?_;refine jp (k9 rfl rfl rfl (jp (bF rfl Tryz.underlying141 ⟨_,Tryz.underlying99⟩ (r:=((u':Nat):Int)) (by rw[hu'];exact Mr _ _ x1 oO) (jp (bn (i:=j+n) rfl rfl oO dO cV (jh (hJ (k:=2) (i:=j+n) (a:=_) rfl rfl rfl bG hS rfl oO dO ?_)))))));intro wz7 hS;refine ja ?_;obtain⟨Y',e1,e2,e3⟩:=ib (b:=ap) (lo:=lo) (X:=Z) (o:=j) (k:=n) (d:=u') (n:=m+1) dD hlo hul oO;have hY':=e3 _ oO hZ;rw[Ax,e1]at hS;have hYU:Y'+g*D=U+ap^(n+1)*b':=by
   have f2:ap^(n+1)*b'=ap^n*(4294967296*b'):=by rw[Nat.pow_succ,Nat.mul_assoc]
   have f4:ap^n*bO ap Z n+ap^n*(4294967296*b')=ap^n*u'+ap^n*(c+bb):=by
    rw[<-Nat.mul_add,<-Nat.mul_add];congr 1;omega
   omega
  clear e1 e2 e3 hub hu' hb' hgX x1 hinv;refine V1 ?_;have hdm:=Nat.div_add_mod U D;have hDpos:0<D:=hkn.dpos;refine aW (λρ w'=>LF ρ n s m M bu bv b1/\ρ 11=iB j/\ρ 13= .int .u64 (U/D:Nat)/\
    St w w' [(b1,141,Kr .u32 (pad ap (ap^k*Q) M)),(bv,141,Kr .u32 (pad ap D (n+1))),(bu,141,Kr .u32 (pad ap (lo+ap^j*(U%D)) (m+1)))]) ?_ ?_
  ·refine ja ?_;by_cases hb0:b'=0
   ·refine ct rfl (decide_eq_false (by have:=hbc.1 hb0;omega)) ?_;refine ja ?_;rw[hb0,Nat.mul_zero,Nat.add_zero]at hYU;have hg1:g<=U/D:=(Nat.le_div_iff_mul_le hDpos).2 oO;have hgq:g=U/D:=oO;have hYm:Y'=U%D:=by rw[hgq,Nat.mul_comm]at hYU;omega
    rw[hYm]at hS;exact⟨_,rfl,⟨hF.h6,hF.h7,hF.h8,hF.h9,hF.h10⟩,h11,h13.trans (by rw[hgq]),hS⟩
   ·refine bZ rfl (decide_eq_true (by have:=λh=>hb0 (hbc.2 h);omega)) ?_;refine ja ?_;obtain rfl:b'=1:=oO;have hgq:g=U/D+1:=by
     rcases Nat.lt_or_ge (U/D) g with h|h
     ·omega
     ·exfalso;have:g*D<=U:=(Nat.le_div_iff_mul_le hDpos).1 h;omega
    have hYR:Y'+D=U%D+ap^(n+1):=by
     rw[hgq,Nat.add_mul,Nat.one_mul,Nat.mul_comm]at hYU;omega
    refine J1 ?_;refine jp (k9 rfl rfl (r:=((U/D:Nat):Int)) (by rw[hgq];exact bV _ ⟨by push_cast;omega,Int.natCast_nonneg _,by generalize U/D=z at hq0⊢;omega⟩) ?_);refine J3 ?_;refine jb ?_;refine aW (λρ w'=>∃c Z,c<=1/\Z<ap^(n+1)/\Z+ap^n*c=Y'+D/\LF ρ n s m M bu bv b1/\ρ 11=iB j/\ρ 13= .int .u64 (U/D:Nat)/\ρ 15= .int .u64 (c:Nat)/\
      St w w' [(b1,141,Kr .u32 (pad ap (ap^k*Q) M)),(bv,141,Kr .u32 (pad ap D (n+1))),(bu,141,Kr .u32 (pad ap (lo+ap^j*Z) (m+1)))]) ?_ ?_
    ·refine ja ?_;refine aQ (σ:=Nat×Nat×Nat) (λt ρ w'=>t.1<=n/\t.2.1<=1/\t.2.2<ap^(n+1)/\t.2.2+ap^t.1*t.2.1=Y'+D%ap^t.1/\LF ρ n s m M bu bv b1/\ρ 11=iB j/\ρ 13= .int .u64 (U/D:Nat)/\ρ 15= .int .u64 t.2.1/\ρ 23=iB t.1/\
       St w w' [(b1,141,Kr .u32 (pad ap (ap^k*Q) M)),(bv,141,Kr .u32 (pad ap D (n+1))),(bu,141,Kr .u32 (pad ap (lo+ap^j*t.2.2) (m+1)))]) (λt=>n-t.1) (0,0,Y')
      ⟨Nat.zero_le _,Nat.zero_le _,hY',by simp[Nat.mod_one],⟨hF.h6,hF.h7,hF.h8,hF.h9,hF.h10⟩,h11,rfl,rfl,rfl,hS⟩ ?_
     clear hS hF h11 h13 h15 h16;rintro⟨i,c,Z⟩ ρ w3 ⟨hi,hc,hZ,hinv,hF,h11,h13,h15,h23,hS⟩;simp only at hi hc hZ hinv h15 h23 hS;refine J1 ?_;refine jp (aI hF.h6 ?_);refine V1 ?_;by_cases hlt:i<n
     ·refine V1 ?_;have x1:=dk Z i;have d1:=dk D i;have hgX:=hgU Z i hi;obtain⟨t,ht⟩:=jz (bO ap Z i+bO ap D i+c);refine ja ?_;refine bk [jo 0,jo 1,jo 2,jo 3,jo 4,jo 5,ju 6,jo 7,jo 8,jo 9,jo 10,jo 11,ju 12,jo 13,jo 14,jo 15] kR kR hS ?_;intro wz8 hS hBz8;refine J1 ?_;refine jl rfl (aI hF.h8 ?_);refine J3 ?_;refine jl rfl (bn (i:=j+i) rfl rfl oO dO cV (jm rfl (fz (k:=2) (i:=j+i) rfl bG hS rfl oO dO (jl rfl (bF rfl Tryz.underlying99 ⟨_,Tryz.underlying141⟩ (r:=((bO ap Z i:Nat):Int)) (by rw[hgX];exact bV _ ⟨rfl,oO,oO⟩) (jl rfl (ia rfl rfl (r:=((c+bO ap Z i:Nat):Int)) (by exact bV _ ⟨by push_cast;rfl,oO,oO⟩) (jl rfl (aI hF.h9 ?_)))))))));refine J1 ?_;refine jl rfl (bn (i:=i) rfl rfl oO dO cV (jm rfl (fz (k:=1) (i:=i) rfl bG hS rfl oO dO (jl rfl (bF rfl Tryz.underlying99 ⟨_,Tryz.underlying141⟩ (r:=((bO ap D i:Nat):Int)) (by rw[hgD i oO];exact bV _ ⟨rfl,oO,oO⟩) (jl rfl (ia rfl rfl (r:=((t:Nat):Int)) (by rw[ht];exact bV _ ⟨oO,oO,oO⟩) ?_)))))));refine Y1 ?_;refine jp (aI hF.h8 ?_);refine J4 ?_;refine jp (bF rfl Tryz.underlying141 ⟨_,Tryz.underlying99⟩ (kN _) (jp (bn (i:=j+i) rfl rfl oO dO cV (jh (hJ (k:=2) (i:=j+i) (a:=_) rfl rfl rfl bG hS rfl oO dO ?_)))));intro wz9 hS;refine J1 ?_;refine jp (iU rfl rfl oO (r:=((t/4294967296:Nat):Int)) (by exact i5 _ 32 dD) ?_);refine V1 ?_;obtain⟨Z',e1,e2,e3⟩:=ib (b:=ap) (lo:=lo) (X:=Z) (o:=j) (k:=i) (d:=t%4294967296) (n:=m+1) dD hlo (Nat.mod_lt _ dD) oO;rw[Ax,e1]at hS;refine V3 ?_;refine⟨(i+1,t/4294967296,Z'),_,rfl,⟨hlt,by simp only;omega,e3 _ oO hZ,?_,⟨hF.h6,hF.h7,hF.h8,hF.h9,hF.h10⟩,h11,h13,rfl,vi rfl (by simp),hS⟩,by simp only;omega⟩;simp only;have f2:ap^(i+1)*(t/4294967296)=ap^i*(4294967296*(t/4294967296)):=by rw[Nat.pow_succ,Nat.mul_assoc]
      have f4:ap^i*(t%4294967296)+ap^i*(4294967296*(t/4294967296))=ap^i*bO ap Z i+ap^i*bO ap D i+ap^i*c:=by
       rw[<-Nat.mul_add,Nat.mod_add_div,ht,Nat.mul_add,Nat.mul_add]
      rw[mod_pow_succ,f2];omega
     ·refine J1 ?_;refine jt ?_;obtain rfl:i=n:=oO;rw[Nat.mod_eq_of_lt hD]at hinv;exact⟨_,rfl,c,Z,hc,hZ,hinv,⟨hF.h6,hF.h7,hF.h8,hF.h9,hF.h10⟩,h11,h13,h15,hS⟩
    clear hS hF h11 h13 h15 h16;rintro ρ w4 ⟨c,Z,hc,hZ,hinv,hF,h11,h13,h15,hS⟩;refine ja ?_;have x1:=dk Z n;have hgX:=hgU Z n (Nat.le_refl _);refine jr ?_;refine jp (aI hF.h8 ?_);refine J1 ?_;refine jp (aI hF.h6 ?_);refine J1 ?_;refine jp (aI hF.h8 ?_);refine J1 ?_;refine jp (aI hF.h6 ?_);refine J1 ?_;refine jp (bn (i:=j+n) rfl rfl oO dO cV (jq (fz (k:=2) (i:=j+n) rfl bG hS rfl oO dO ?_)));refine J1 ?_;refine jp (bF rfl Tryz.underlying141 ⟨_,Tryz.underlying99⟩ (r:=((c:Nat):Int)) (by exact ic _ ⟨rfl,oO,oO⟩) (jp (ia rfl rfl (r:=(((bO ap Z n+c)%4294967296:Nat):Int)) (by rw[hgX,me];omega) (jp (bn (i:=j+n) rfl rfl oO dO cV (jh (hJ (k:=2) (i:=j+n) (a:=_) rfl rfl rfl bG hS rfl oO dO ?_)))))));intro wz10 hS;refine ja ?_;obtain⟨W,e1,e2,e3⟩:=ib (b:=ap) (lo:=lo) (X:=Z) (o:=j) (k:=n) (d:=(bO ap Z n+c)%4294967296) (n:=m+1) dD hlo (Nat.mod_lt _ dD) oO;rw[Ax,e1]at hS;have hW:W=U%D:=by
     have hR:U%D<ap^n:=Nat.lt_trans (Nat.mod_lt _ hDpos) hD;have hpos:0<ap^n:=Nat.pow_pos dD;have htop:bO ap Z n=Z/ap^n:=j4 dD hZ;have hdz:=Nat.div_add_mod Z (ap^n);have hmz:=Nat.mod_lt Z hpos;have hsum:Z%ap^n+ap^n*(Z/ap^n+c)=U%D+ap^n*4294967296:=by
      have:ap^(n+1)=ap^n*4294967296:=Nat.pow_succ ..;rw[Nat.mul_add];omega
     have hy:Z/ap^n+c=4294967296:=by
      have h1:(Z%ap^n+ap^n*(Z/ap^n+c))/ap^n=(U%D+ap^n*4294967296)/ap^n:=by rw[hsum]
      rwa[Nat.add_mul_div_left _ _ hpos,Nat.add_mul_div_left _ _ hpos,Nat.div_eq_of_lt hmz,Nat.div_eq_of_lt hR,Nat.zero_add,Nat.zero_add]at h1
     rw[htop,hy]at e2;rw[hy]at hsum;simp only[Nat.mod_self,Nat.mul_zero,Nat.add_zero]at e2;omega
    rw[hW]at hS;exact⟨_,rfl,⟨hF.h6,hF.h7,hF.h8,hF.h9,hF.h10⟩,h11,h13,hS⟩
  clear hS hF h11 h13 h15 h16 hYU;rintro ρ w4 ⟨hF,h11,h13,hS⟩;refine jr ?_;refine jp (aI hF.h10 ?_);refine J2 ?_;refine jp (bF rfl Tryz.underlying141 ⟨_,Tryz.underlying99⟩ (r:=((U/D:Nat):Int)) (by exact ic _ ⟨rfl,Int.natCast_nonneg _,by generalize U/D=z at hq0⊢;omega⟩) (jp (bn (i:=j) rfl rfl oO dO cV (jh (hJ (k:=0) (i:=j) (a:=(U/D)) rfl rfl rfl bG hS rfl oO dO ?_)))));intro wz11 hS;refine ja ?_;rw[List.set_cons_zero,hj,eq1,<-hj]at hS;refine V3 ?_;exact⟨(j,ap*Q+U/D,lo+ap^j*(U%D)),_,rfl,⟨by simp only;omega,hinv2,hV2,⟨hF.h6,hF.h7,hF.h8,hF.h9,hF.h10⟩,rfl,hS⟩,by simp only;omega⟩
 ·refine J1 ?_;refine jt ?_;obtain rfl:k=0:=oO;rw[Nat.pow_zero,Nat.mul_one]at hinv hV;rw[Nat.pow_zero,Nat.one_mul]at hS;rw[hDe]at hinv hV;obtain⟨f1,f2,f3⟩:=qw hpc hinv hV;rw[<-hDe]at hinv hV;have hQM:Q<ap^M:=by
   rcases Nat.lt_or_ge Q (ap^M)with h|h
   ·exact h
   ·exfalso;have h3:D*ap^M<=D*Q:=Nat.mul_le_mul_left _ h;rw[Nat.mul_comm D Q]at h3;omega
  have hVn:V<ap^n:=oO;refine jr ?_;refine jp (aI hF.h6 (jh (iI (n:=n) rfl rfl cV oO oO oO oO hS ?_)));intro b12 wz13 hS hBz13;refine V2 ?_;rw[<-gD ap n,show 0=V/2^s%ap^0 by rw[Nat.pow_zero,Nat.mod_one]]at hS;refine aQ (σ:=Nat) (λi ρ w'=>i<=n/\ρ 6=iB n/\ρ 7= .int .u64 s/\ρ 8= .slice (some ⟨bu,0,none⟩) (m+1) (m+1)/\ρ 10= .slice (some ⟨b1,0,none⟩) M M/\ρ 24= .slice (some ⟨b12,0,none⟩) n n/\ρ 25=iB i/\
    St w w' [(b12,141,Kr .u32 (pad ap (V/2^s%ap^i) n)),(b1,141,Kr .u32 (pad ap Q M)),(bv,141,Kr .u32 (pad ap D (n+1))),(bu,141,Kr .u32 (pad ap V (m+1)))]) (λi=>n-i) 0
   ⟨Nat.zero_le _,hF.h6,hF.h7,hF.h8,hF.h10,rfl,rfl,hS⟩ ?_
  clear hS hF h11;rintro i ρ w7 ⟨hi,h6,h7,h8,h10,h24,h25,hS⟩;refine V3 ?_;by_cases hlt:i<n
  ·refine V1 ?_;have x1:=dk V i;have x2:=dk V (i+1);have hg1:(pad ap V (m+1)).getD i 0=bO ap V i:=fE _ _ oO;have hg2:(pad ap V (m+1)).getD (i+1) 0=bO ap V (i+1):=fE _ _ oO;have hor:bO ap V (i+1)*2^32|||bO ap V i=bO ap V i+bO ap V (i+1)*4294967296:=by rw[Nat.or_comm,nv _ _ 32 oO]
   refine ja ?_;refine bk [jo 0,jo 1,jo 2,jo 3,jo 4,jo 5,ju 6,jo 7,jo 8,jo 9,jo 10,jo 11,ju 12,jo 13,jo 14,jo 15,jo 16,jo 17,jo 18,jw 19] kR kR hS ?_;intro wz14 hS hBz14;refine J5 ?_;refine jl rfl (bn (i:=i+1) rfl rfl oO dO cV (jm rfl (fz (k:=3) (i:=i+1) rfl bG hS rfl oO dO (jl rfl (bF rfl Tryz.underlying99 ⟨_,Tryz.underlying141⟩ (r:=((bO ap V (i+1):Nat):Int)) (by rw[hg2];exact bV _ ⟨rfl,oO,oO⟩) (jl rfl (nL rfl rfl oO (r:=((bO ap V (i+1)*2^32:Nat):Int)) (by exact nM _ 32 _ dD (bV _ ⟨rfl,oO,oO⟩)) ?_)))))));refine J2 ?_;refine jl rfl (bn (i:=i) rfl rfl oO dO cV (jm rfl (fz (k:=3) (i:=i) rfl bG hS rfl oO dO (jl rfl (bF rfl Tryz.underlying99 ⟨_,Tryz.underlying141⟩ (r:=((bO ap V i:Nat):Int)) (by rw[hg1];exact bV _ ⟨rfl,oO,oO⟩) (jl rfl (rV rfl rfl (r:=((bO ap V i+bO ap V (i+1)*4294967296:Nat):Int)) (by rw[<-hor];exact km rfl _ _ (by show _<18446744073709551616;omega) (by show _<18446744073709551616;omega)) ?_)))))));refine J1 ?_;refine jl rfl (iU rfl rfl oO (i5 _ s (show s<=64 by omega)) (jl rfl (bF rfl Tryz.underlying141 ⟨_,Tryz.underlying99⟩ (kN _) (jl rfl (bn (i:=i) rfl rfl oO dO cV (jx rfl (hJ (k:=0) (i:=i) (a:=_) rfl rfl rfl bG hS rfl oO dO ?_)))))));intro wz15 hS;refine ja ?_;rw[List.set_cons_zero,ug V s i oO,xE dD]at hS;refine V3 ?_;exact⟨i+1,_,rfl,⟨hlt,h6,h7,h8,h10,h24,vi rfl oO,hS⟩,oO⟩
  ·refine J1 ?_;refine jt ?_;obtain rfl:i=n:=oO;have hlt3:V/2^s<ap^i:=Nat.lt_of_le_of_lt (Nat.div_le_self _ _) hVn;rw[Nat.mod_eq_of_lt hlt3]at hS;have hslr:=hS.C9 (k:=0) rfl (n:=i) (cap:=i) (by simp) (Nat.le_refl _) oO;rw[List.take_of_length_le (by simp)]at hslr;have hslq:=hS.C9 (k:=1) rfl (n:=M) (cap:=M) (by simp) (Nat.le_refl _) oO;rw[List.take_of_length_le (by simp)]at hslq;refine J1 ?_;refine jh (ah Tryz.call123 rfl (ny _ _ _ hslq (lE dD _ _)) ?_);rintro _ wq16 ⟨hq,hq16⟩;replace hq16:=hq16.symm;subst hq16;refine J1 ?_;refine jh (ah Tryz.call123 rfl (ny _ _ _ hslr (lE dD _ _)) ?_);rintro _ wq17 ⟨hr,hq17⟩;replace hq17:=hq17.symm;subst hq17;refine J2 ?_;refine jt ?_;refine j6 rfl rfl rfl ?_;rw[ef hQM,<-f1]at hq;rw[ef hlt3,f3]at hr;exact⟨⟨_,_,rfl,hq,hr⟩,hS.ab⟩
theorem qP (vx vy:Value) (X Y:Nat) (w:World) (hx:Sl (uk .u32) 1 w vx (bH X)) (hy:Sl (uk .u32) 1 w vy (bH Y)) (hY0:0<Y) (hmx:(bH X).length<=4398046511104):
  dj Tryz.prog 122 #[vx,vy] w λr w'=>(∃q s,r= .tuple #[q,s]/\Sl (uk .u32) 1 w' q (bH (X/Y))/\Sl (uk .u32) 1 w' s (bH (X%Y)))/\Below w.heap.size w w':=by
 have hB:ap=4294967296:=rfl;have hS:=St.init w;obtain⟨n,hn⟩:=jz ((bH Y).length);have hYn:Y<ap^n:=hn▸cW Y;obtain⟨hn0,_⟩:=rj hY0;rw[<-hn]at hn0;refine enter Tryz.func122 rfl Tryz.ntmps122 rfl ?_;refine J4 ?_;refine jh (ah Tryz.call162 rfl (GL _ _ _ _ _ (hx.ab hS.ab) (hy.ab hS.ab)) ?_);rintro _ wc1 ⟨rfl,hBc1⟩;replace hS:=hS.aG hBc1;refine V1 ?_;by_cases hlt:X<Y
 ·refine bZ rfl (decide_eq_true (by rw[ni hlt];decide)) ?_;refine J3 ?_;refine jt ?_;refine j6 rfl rfl rfl ?_;refine⟨⟨_,_,rfl,?_,?_⟩,hS.ab⟩
  ·rw[Nat.div_eq_of_lt hlt,bH,fq];exact Sl.nil _ _ _
  ·rw[Nat.mod_eq_of_lt hlt];exact hx.ab hS.ab
 ·have hge:Y<=X:=Nat.le_of_not_lt hlt;have hcmp:¬lx X Y<0:=by
   rcases Nat.lt_or_ge Y X with h|h
   ·rw[mZ h];decide
   ·rw[show X=Y by omega,pW];decide
  refine ct rfl (decide_eq_false hcmp) ?_;refine J1 ?_;refine jp (aF rfl (hy.ab hS.ab) ⟨_,Tryz.underlying138⟩ ?_);refine V1 ?_;by_cases h1:n=1
  ·refine V1 ?_;have hg:(bH Y).getD 0 0=Y:=by
    rw[dt,bO,Nat.pow_zero,Nat.div_one];rw[h1,Nat.pow_one]at hYn;exact Nat.mod_eq_of_lt hYn
   have hYl:Y<=4294967295:=by rw[h1,Nat.pow_one]at hYn;omega
   refine J2 ?_;refine jp (aH (i:=0) rfl rfl (hy.ab hS.ab) oO dO cV (jq (aO (i:=0) 0 rfl bG (hy.ab hS.ab) dO rfl rfl (.inr rfl) ?_)));rw[hg];refine jh (ah Tryz.call163 rfl (G0 _ _ _ _ (hx.ab hS.ab) hY0 hYl oO) ?_);rintro r w2 ⟨⟨q,rfl,hq⟩,hB2⟩;replace hS:=hS.aG hB2;refine V5 ?_;have hml:X%Y<=4294967295:=by have:=Nat.mod_lt X hY0;omega
   refine J2 ?_;refine jh (dI (vs:=[_]) rfl cV rfl dD dD dD (by simp[Value.cells]) rfl hS ?_);intro b2 wz3 hS hBz3;have hq1:=hq.ab hBz3;have hsl:=St.C9 (L:=[X%Y]) hS (k:=0) rfl (n:=1) (cap:=1) (by simp) oO oO;refine jh (ah Tryz.call123 rfl (ny _ _ _ hsl (by intro d hd;rw[List.take_of_length_le (by simp)]at hd;rw[List.mem_singleton.1 hd];omega)) ?_);rintro _ wq4 ⟨hv,hq4⟩;replace hq4:=hq4.symm;subst hq4;refine J2 ?_;refine jt ?_;refine j6 rfl rfl rfl ?_;refine⟨⟨_,_,rfl,hq1,?_⟩,hS.ab⟩;have e:cF ap ([X%Y].take 1)=X%Y:=by simp[cF]
   rwa[e]at hv
  ·refine J3 ?_;refine jh (ah Tryz.call164 rfl (Kl _ _ _ _ _ (hx.ab hS.ab) (hy.ab hS.ab) hge oO hmx) ?_);rintro r w2 ⟨⟨q,s,rfl,hq,hs⟩,hB2⟩;replace hS:=hS.aG hB2;refine J4 ?_;refine jt ?_;refine j6 rfl rfl rfl ?_;exact⟨⟨_,_,rfl,hq,hs⟩,hS.ab⟩
theorem Dn (vx vy:Value) (A B:Nat) (w:World) (hx:Sl (uk .u32) 1 w vx (bH A)) (hy:Sl (uk .u32) 1 w vy (bH B)) (hmx:(bH A).length<=4398046511104) (hmy:(bH B).length<=4398046511104):
  dj Tryz.prog 121 #[vx,vy] w λr w'=>Sl (uk .u32) 1 w' r (bH (Nat.gcd A B))/\Below w.heap.size w w':=by
 have hS:=St.init w;refine enter Tryz.func121 rfl Tryz.ntmps121 rfl ?_;refine V1 ?_;refine aQ (σ:=Nat×Nat) (λs ρ w'=>Nat.gcd s.1 s.2=Nat.gcd A B/\(bH s.1).length<=4398046511104/\(bH s.2).length<=4398046511104/\(∃vx vy,ρ 0=vx/\ρ 1=vy/\Sl (uk .u32) 1 w' vx (bH s.1)/\Sl (uk .u32) 1 w' vy (bH s.2))/\St w w' []) (λs=>s.2) (A,B)
  ⟨rfl,hmx,hmy,⟨_,_,rfl,rfl,hx,hy⟩,hS⟩ ?_
 clear hS hx hy;rintro⟨X,Y⟩ ρ w3 ⟨hg,hX,hY,⟨vx,vy,h0,h1,hx,hy⟩,hS⟩;simp only at hg hX hY hx hy;refine J1 ?_;refine jp (aF rfl hy ⟨_,Tryz.underlying138⟩ ?_);refine V1 ?_;have hyn:(bH Y).length=0↔Y=0:=j1;by_cases hY0:Y=0
 ·refine J3 ?_;refine jt ?_;refine bj rfl rfl ?_;rw[hY0,Nat.gcd_zero_right]at hg;rw[<-hg];exact⟨hx,hS.ab⟩
 ·refine V1 ?_;have hlt:X%Y<Y:=Nat.mod_lt _ oO;have hls:=gL (Nat.le_of_lt hlt);refine J2 ?_;refine jh (ah Tryz.call122 rfl (qP _ _ _ _ _ hx hy oO oO) ?_);rintro r w4 ⟨⟨q,s,rfl,hq,hs⟩,hB4⟩;refine V9 ?_;refine⟨(Y,X%Y),_,rfl,⟨?_,hY,by simp only;omega,⟨vy,s,rfl,rfl,hy.ab hB4,hs⟩,hS.aG hB4⟩,hlt⟩;simp only;rw[<-hg,Nat.gcd_comm Y,<-Nat.gcd_rec,Nat.gcd_comm]
theorem IZ:bH 1=[1]:=by unfold bH;rw[nB dD dD,show 1/ap=0 from rfl,fq];rfl
theorem yV {g:Nat} (h:¬1<(bH g).length) (hg:0<g):(bH g).length=1/\(bH g).getD 0 0=g:=by
 have h1:=(rj hg).1;have h2:(bH g).length=1:=oO;have h3:=cW g;rw[h2,Nat.pow_one]at h3;refine⟨h2,?_⟩;rw[dt,bO,Nat.pow_zero,Nat.div_one,Nat.mod_eq_of_lt h3]
theorem ue {g:Nat} (h:1<(bH g).length):g≠1:=by
 rintro rfl;rw[IZ]at h;exact absurd h dD
theorem xq (b:Bool) (s:ByteArray):Tryz.prog.built 32 [(0,.bool b),(1,.string s)]=some #[.bool b,.string s,.string ⟨#[]⟩]:=by kernel_rfl
theorem BR (b:Bool) (vn vd:Value) (n d:Nat) (w:World) (hvn:Sl (uk .u32) 1 w vn (bH n)) (hvd:Sl (uk .u32) 1 w vd (bH d)) (hn:(bH n).length<=4398046511104) (hd:(bH d).length<=4398046511104) (h0:d≠0):
  dj Tryz.prog 78 #[.bool b,vn,vd] w λv w'=>v=cw (aj (mkRat (sg b n) d))/\Below w.heap.size w w':=by
 have hS:=St.init w;refine enter Tryz.func78 rfl Tryz.ntmps78 rfl ?_;refine J1 ?_;intro b1 wz2 hS hBz2;refine J1 ?_;refine jp (aF rfl (hvn.ab hS.ab) ⟨_,Tryz.underlying138⟩ ?_);refine V1 ?_;have hzn:(bH n).length=0↔n=0:=j1;by_cases hz:n=0
 ·refine Y1 ?_;refine jp (bR rfl ix ?_);refine J1 ?_;intro wz3 hS;refine jt ?_;refine dx (k:=0) rfl rfl aB hS rfl rfl ?_;refine⟨?_,hS.ab⟩;have:mkRat (sg b 0) d=0:=by cases b<;>simp[sg]
  rw[hz,this,gm];rfl
 ·refine V1 ?_;obtain⟨g,hg⟩:=jz (Nat.gcd n d);have hgp:0<g:=by rw[hg];exact Nat.gcd_pos_of_pos_right _ oO
  have hgn:g<=n:=by rw[hg];exact Nat.gcd_le_left _ oO
  have hgd:g<=d:=by rw[hg];exact Nat.gcd_le_right _ oO
  have hgl:=gL hgn;refine J2 ?_;refine jh (ah Tryz.call121 rfl (Dn _ _ n d _ (hvn.ab hS.ab) (hvd.ab hS.ab) oO oO) ?_);rintro vg w2 ⟨hvg,hB2⟩;replace hS:=hS.aG hB2;rw[<-hg]at hvg;refine V1 ?_;refine aW (λρ w'=>ρ 0= .bool b/\ρ 1=vn/\ρ 2=vd/\ρ 6=pB b1/\ρ 7=vg/\ρ 24= .bool (decide (g≠1))/\w2=w') ?_ ?_
  ·by_cases hl1:1<(bH g).length
   ·refine J1 ?_;refine jp (aF rfl hvg ⟨_,Tryz.underlying138⟩ ?_);refine J2 ?_;refine bI (ak 19 kR rfl dT) (bI (ak 19 kR rfl dT) (bI (ak 19 kR rfl dT) (bI (ak 19 kR rfl dT) (jp (aZ (vb rfl dT) rfl ?_)))));refine ja ?_;exact⟨_,rfl,rfl,rfl,rfl,rfl,rfl,vb rfl (decide_eq_true (ue hl1)).symm,rfl⟩
   ·have hl2:=yV hl1 hgp;refine J1 ?_;refine jp (aF rfl hvg ⟨_,Tryz.underlying138⟩ ?_);refine J2 ?_;refine ax (ai 19 kR rfl dF) (aI rfl (ax (ai 19 kR rfl dF) (aH (i:=0) rfl rfl hvg oO dO cV (bW (ai 19 kR rfl dF) (aO (i:=0) 0 rfl bG hvg dO rfl rfl (.inr rfl) (ax (ai 19 kR rfl dF) (mQ rfl rfl (jp (aZ (vb rfl dF) rfl ?_)))))))));refine ja ?_;exact⟨_,rfl,rfl,rfl,rfl,rfl,rfl,vb rfl (by rw[hl2.2,decide_eq_decide];omega),rfl⟩
  rintro ρ w' ⟨k0,k1,k2,k6,k7,k24,rfl⟩;refine ja ?_;refine aW (λρ w'=>∃(n' d':Nat) (v1 v2:Value),0<n'/\d'≠0/\Nat.gcd n' d'=1/\mkRat (sg b n) d=mkRat (sg b n') d'/\(bH n').length<=4398046511104/\(bH d').length<=4398046511104/\ρ 0= .bool b/\ρ 1=v1/\ρ 2=v2/\ρ 6=pB b1/\
   Sl (uk .u32) 1 w' v1 (bH n')/\Sl (uk .u32) 1 w' v2 (bH d')/\St w w' [(b1,32,ae ⟨false,⟨#[]⟩,⟨#[]⟩⟩)]) ?_ ?_
  ·refine ja ?_;by_cases hg1:g=1
   ·refine ct k24 (decide_eq_false (not_not_intro hg1)) ?_;refine ja ?_;exact⟨_,rfl,n,d,_,_,oO,h0,by rw[<-hg,hg1],rfl,oO,oO,k0,k1,k2,k6,hvn.ab hS.ab,hvd.ab hS.ab,hS⟩
   ·refine bZ k24 (decide_eq_true hg1) ?_;refine ja ?_;have hnp:0<n/g:=Nat.div_pos hgn hgp;have hdp:0<d/g:=Nat.div_pos hgd hgp;have hln:=gL (Nat.div_le_self n g);have hld:=gL (Nat.div_le_self d g);refine jr ?_;refine jp (aI k1 (jp (aI k7 (jh (ah Tryz.call122 rfl (qP _ _ n g _ (hvn.ab hS.ab) hvg hgp oO) ?_)))));rintro r w3 ⟨⟨q1,s1,rfl,hq1,_⟩,hB3⟩;replace hS:=hS.aG hB3;refine Y4 ?_;refine jp (aI k2 (jp (aI k7 (jh (ah Tryz.call122 rfl (qP _ _ d g _ (hvd.ab hS.ab) (hvg.ab hB3) hgp oO) ?_)))));rintro r w4 ⟨⟨q2,s2,rfl,hq2,_⟩,hB4⟩;replace hS:=hS.aG hB4;refine V4 ?_;exact⟨_,rfl,n/g,d/g,q1,q2,hnp,oO,by rw[hg,Nat.gcd_div (Nat.gcd_dvd_left _ _) (Nat.gcd_dvd_right _ _),<-hg,Nat.div_self hgp],yS h0 hg,oO,oO,k0,rfl,rfl,k6,hq1.ab hB4,hq2,hS⟩
  clear k0 k1 k2 k6 k7 k24;clear hS hvn hvd;rintro ρ w' ⟨n',d',v1,v2,hn',hd',hc,he,hln',hld',k0,k1,k2,k6,hvn,hvd,hS⟩;rw[he,xV hn' hd' hc];refine jr ?_;refine jp (aI k0 (jp (aI k1 (jh (ah Tryz.call79 rfl (xC _ _ _ hvn (pI _) oO) ?_)))));rintro r w5 ⟨rfl,hB5⟩;replace hS:=hS.aG hB5;rw[jR];have hvd5:=hvd.ab hB5;have hS0:=hS;replace hS:=St.init w5;refine jp (bR rfl (xq _ _) ?_);refine J1 ?_;intro b4 wz5 hS hBz5;refine J1 ?_;intro wz6 hS;refine ja ?_;replace hS:St w5 _ [(_,32,ae ⟨b,bB n',⟨#[]⟩⟩)]:=hS;refine ja ?_;refine aW (λρ w'=>ρ 2=v2/\ρ 6=pB b1/\ρ 8=pB b4/\ρ 49= .bool (decide (d'≠1))/\wz6=w') ?_ ?_
  ·by_cases hl1:1<(bH d').length
   ·refine jr ?_;refine jp (aI k2 (jp (aF rfl (hvd5.ab hS.ab) ⟨_,Tryz.underlying138⟩ ?_)));refine J2 ?_;refine bI (ak 44 kR rfl dT) (bI (ak 44 kR rfl dT) (bI (ak 44 kR rfl dT) (bI (ak 44 kR rfl dT) (jp (aZ (vb rfl dT) rfl ?_)))));refine ja ?_;exact⟨_,rfl,k2,k6,rfl,vb rfl (decide_eq_true (ue hl1)).symm,rfl⟩
   ·have hl2:=yV hl1 oO;refine jr ?_;refine jp (aI k2 (jp (aF rfl (hvd5.ab hS.ab) ⟨_,Tryz.underlying138⟩ ?_)));refine J2 ?_;refine ax (ai 44 kR rfl dF) (aI k2 (ax (ai 44 kR rfl dF) (aH (i:=0) rfl rfl (hvd5.ab hS.ab) oO dO cV (bW (ai 44 kR rfl dF) (aO (i:=0) 0 rfl bG (hvd5.ab hS.ab) dO rfl rfl (.inr rfl) (ax (ai 44 kR rfl dF) (mQ rfl rfl (jp (aZ (vb rfl dF) rfl ?_)))))))));refine ja ?_;exact⟨_,rfl,k2,k6,rfl,vb rfl (by rw[hl2.2,decide_eq_decide];omega),rfl⟩
  clear k0 k1 k2 k6;rintro ρ w' ⟨k2,k6,k8,k49,rfl⟩;refine ja ?_;refine aW (λρ w'=>∃b8,ρ 6=pB b1/\ρ 8=pB b8/\St w w' [(b8,32,ae ⟨b,bB n',if d'=1 then⟨#[]⟩else bB d'⟩),(b1,32,ae ⟨false,⟨#[]⟩,⟨#[]⟩⟩)]) ?_ ?_
  ·refine ja ?_;by_cases hd1:d'=1
   ·refine ct k49 (decide_eq_false (not_not_intro hd1)) ?_;refine ja ?_;exact⟨_,rfl,_,k6,k8,by rw[if_pos hd1];exact hS0.join hS⟩
   ·refine bZ k49 (decide_eq_true hd1) ?_;refine jr ?_;refine jp (aI k2 (jh (ah Tryz.call79 rfl (xC _ _ _ (hvd5.ab hS.ab) (pI _) oO) ?_)));rintro r w6 ⟨rfl,hB6⟩;replace hS:=hS.aG hB6;rw[jR];refine jp (cx k8 kf (jh (gl (k:=0) rfl rfl mO hS rfl dM rfl ?_)));intro wz7 hS;refine ja ?_;exact⟨_,rfl,_,k6,k8,by rw[if_neg hd1];exact hS0.join hS⟩
  clear hS hS0 hvd5 hvn hvd;rintro ρ w' ⟨b8,k6,k8,hS⟩;refine jr ?_;refine jq (bT (k:=0) k8 aB hS rfl rfl rfl (.inl rfl) (jh (cO (k:=1) k6 rfl aB hS rfl rfl rfl dM rfl ?_)));intro wz8 hS;refine jt ?_;refine dx (k:=1) rfl k6 aB hS rfl rfl ?_;exact⟨rfl,hS.ab⟩
theorem xY (n:Int) (w:World) (h1: -9223372036854775808<=n) (h2:n<=9223372036854775807):
  dj Tryz.prog 43 #[.int .i64 n] w λv w'=>v= .int .u64 (n.natAbs:Nat)/\w'=w:=by
 refine enter Tryz.func43 rfl Tryz.ntmps43 rfl ?_;refine V3 ?_;by_cases h:n<0
 ·refine bZ rfl (decide_eq_true h) ?_;refine J2 ?_;refine jp (IQ rfl (r:=(-(n+1))) (by exact iR _ ⟨oO,oO,oO⟩) (jp (bF rfl Tryz.underlying99 ⟨_,Tryz.underlying2⟩ (r:=(-(n+1))) (by exact IntWalk.u64_in _ oO) (jp (ia rfl rfl (r:=((n.natAbs:Nat):Int)) (by exact bV _ ⟨oO,oO,oO⟩) ?_)))));refine J1 ?_;refine jt ?_;refine bj rfl rfl ?_;exact⟨rfl,rfl⟩
 ·refine ct rfl (decide_eq_false h) ?_;refine J1 ?_;refine jp (bF rfl Tryz.underlying99 ⟨_,Tryz.underlying2⟩ (r:=((n.natAbs:Nat):Int)) (by exact bV _ ⟨oO,oO,oO⟩) ?_);refine J1 ?_;refine jt ?_;refine bj rfl rfl ?_;exact⟨rfl,rfl⟩
theorem Lv (n:Int) (w:World) (h1: -9223372036854775808<=n) (h2:n<=9223372036854775807):
  dj Tryz.prog 76 #[.int .i64 n] w λv w'=>v=cw (aj (n:Rat))/\Below w.heap.size w w':=by
 have hS:=St.init w;refine enter Tryz.func76 rfl Tryz.ntmps76 rfl ?_;refine J1 ?_;intro b1 wz2 hS hBz2;refine J3 ?_;refine jh (ah Tryz.call43 rfl (xY n _ h1 h2) ?_);rintro _ wq3 ⟨rfl,hq3⟩;replace hq3:=hq3.symm;subst hq3;refine jh (ah Tryz.call42 rfl (oh n.natAbs _ oO) ?_);rintro _ wc4 ⟨rfl,hBc4⟩;replace hS:=hS.aG hBc4;refine jp (bR rfl (xq _ _) ?_);refine J1 ?_;intro wz5 hS;refine jt ?_;refine dx (k:=0) rfl rfl aB hS rfl rfl ?_;exact⟨rfl,hS.ab⟩
theorem If (b:Bool) (num den:ByteArray) (w:World) (hn:num.size<=4398046511104) (hd:den.size<=4398046511104) (h0:val den≠0):
  dj Tryz.prog 41 #[.bool b,.string num,.string den] w λv w'=>v= .tuple #[cw (aj (mkRat (sg b (val num)) (val den))),.bool true]/\Below w.heap.size w w':=by
 have hla:=en num;have hlb:=en den;have hne:(bH (val den)).length≠0:=λh=>h0 (j1.1 h);have hS:=St.init w;refine enter Tryz.func41 rfl Tryz.ntmps41 rfl ?_;refine J1 ?_;intro b1 wz2 hS hBz2;refine J2 ?_;refine jh (ah Tryz.call77 rfl (zf _ _ oO) ?_);rintro vd w2 ⟨hvd,hB2⟩;replace hS:=hS.aG hB2;refine J2 ?_;refine jp (aF rfl hvd ⟨_,Tryz.underlying138⟩ ?_);refine J4 ?_;refine jh (ah Tryz.call77 rfl (zf _ _ oO) ?_);rintro vn w3 ⟨hvn,hB3⟩;replace hS:=hS.aG hB3;refine J1 ?_;refine jh (ah Tryz.call78 rfl (BR b vn vd _ _ _ hvn (hvd.ab hB3) oO oO h0) ?_);rintro r w4 ⟨rfl,hB4⟩;replace hS:=hS.aG hB4;refine J1 ?_;intro wz3 hS;refine J1 ?_;refine jt ?_;refine eV (k:=0) rfl rfl rfl aB hS rfl rfl ?_;exact⟨rfl,hS.ab⟩
theorem MB (a:Int) (n:Nat):sg (decide (a<0)!=decide (((n:Nat):Int)<0)) a.natAbs=a:=by
 have h:decide (((n:Nat):Int)<0)=false:=by simp
 rw[h];unfold sg;by_cases ha:a<0<;>simp[ha]<;>omega
theorem zD (a:Int) (n:Nat) (w:World) (h1: -9223372036854775808<=a) (h2:a<=9223372036854775807) (hn0:0<n) (hn:n<=9223372036854775807):
  dj Tryz.prog 23 #[.int .i64 a,.int .i64 n] w λv w'=>v= .tuple #[cw (aj (mkRat a n)),.bool true]/\Below w.heap.size w w':=by
 have hS:=St.init w;have hs1:=wZ (n:=a.natAbs) oO;have hs2:=wZ (n:=n) oO;have hmk:=λw=>If (decide (a<0)!=decide (((n:Nat):Int)<0)) (bB a.natAbs) (bB n) w oO oO (by rw[bX];omega);rw[bX,bX,MB]at hmk;refine enter Tryz.func23 rfl Tryz.ntmps23 rfl ?_;refine J1 ?_;intro b1 wz2 hS hBz2;refine J5 ?_;refine jp (ub rfl rfl Tryz.underlying4 ?_);refine J1 ?_;refine jh (ah Tryz.call43 rfl (xY a _ h1 h2) ?_);rintro _ wq3 ⟨rfl,hq3⟩;replace hq3:=hq3.symm;subst hq3;refine jh (ah Tryz.call42 rfl (oh a.natAbs _ oO) ?_);rintro _ wc4 ⟨rfl,hBc4⟩;replace hS:=hS.aG hBc4;refine J1 ?_;refine jh (ah Tryz.call43 rfl (xY n _ oO oO) ?_);rintro _ wq5 ⟨rfl,hq5⟩;replace hq5:=hq5.symm;subst hq5;rw[Int.natAbs_natCast];refine jh (ah Tryz.call42 rfl (oh n _ oO) ?_);rintro _ wc6 ⟨rfl,hBc6⟩;replace hS:=hS.aG hBc6;refine jh (ah Tryz.call41 rfl (hmk _) ?_);rintro _ wc7 ⟨rfl,hBc7⟩;replace hS:=hS.aG hBc7;refine J3 ?_;intro wz8 hS;refine J1 ?_;refine jt ?_;refine eV (k:=0) rfl rfl rfl aB hS rfl rfl ?_;exact⟨rfl,hS.ab⟩
theorem Od (a b:ByteArray):a.toList=b.toList↔a=b:=by
 have:=I5 a b;rw[Bool.eq_iff_iff]at this;simpa using this
theorem ur (d:Nat) (r s:RR) (w:World):(Op.equalIn (d+2) 32 (cw r) (cw s)).run Tryz.prog w= .ok (decide (r=s)) w:=by
 unfold cw;rw[run_equalIn_agg (P:=Tryz.prog) w (d+1) 32 _ _ kR kR];have hb:Tryz.prog.underlying 4=some .bool:=by kernel_rfl
 have hs:Tryz.prog.underlying 9=some .string:=by kernel_rfl
 simp only[Program.fieldsOf,Tryz.underlying32];simp[Op.eqFields,part,run_equalIn_bool' (P:=Tryz.prog) w _ _ _ _ hb,run_equalIn_string (P:=Tryz.prog) w _ _ _ _ hs,Od];cases r;cases s
 rename_i a b c a' b' c';simp only[RR.mk.injEq];by_cases h1:a=a'<;>by_cases h2:b=b'<;>by_cases h3:c=c'<;>simp[h1,h2,h3]
section
variable {N : Nat} {ρ : Nat → Value} {d : Option Tmp} {ty : TypeId} {pos : String} {aft : Array Edge} {g : Option (Nat × Bool)} {x y : Operand} {t' : TypeId} {K : Value → Prop}
theorem JO {r s:RR} (hx:ev N ρ x=cw r) (hy:ev N ρ y=cw s) (h:K (.bool (decide (r=s)))):dp Tryz.prog N ρ ⟨d,.binOp .eql 32 x y t',ty,pos,aft,g⟩ K:=by
 refine⟨_,λw=> ?_,h⟩;have h1:(eqGuard .eql 32 x y (cw r) (cw s)).run Tryz.prog w= .ok () w:=run_eqGuard_agg (P:=Tryz.prog) w .eql 32 x y _ _ kR;have h2:(binOp .eql 32 (cw r) (cw s)).run Tryz.prog w= .ok (.bool (decide (r=s))) w:=by
  have:=run_eql_struct (P:=Tryz.prog) w 32 #[.bool r.neg,.string r.num,.string r.den] #[.bool s.neg,.string s.num,.string s.den];have h3:=ur 9998 r s w;unfold cw at*;rw[this,h3];rfl
 simp only[execOp,hx,hy,Sem.run_bind,h1,h2,Result.andThen_ok];rfl
theorem FH {r s:RR} (hx:ev N ρ x=cw r) (hy:ev N ρ y=cw s) (h:K (.bool (decide (r≠s)))):dp Tryz.prog N ρ ⟨d,.binOp .neq 32 x y t',ty,pos,aft,g⟩ K:=by
 refine⟨_,λw=> ?_,h⟩;have h1:(eqGuard .neq 32 x y (cw r) (cw s)).run Tryz.prog w= .ok () w:=run_eqGuard_agg (P:=Tryz.prog) w .neq 32 x y _ _ kR;have h2:(binOp .neq 32 (cw r) (cw s)).run Tryz.prog w= .ok (.bool (decide (r≠s))) w:=by
  have:=run_neq_struct (P:=Tryz.prog) w 32 #[.bool r.neg,.string r.num,.string r.den] #[.bool s.neg,.string s.num,.string s.den];have h3:=ur 9998 r s w;unfold cw at*;rw[this,h3];simp[Result.andThen]
 simp only[execOp,hx,hy,Sem.run_bind,h1,h2,Result.andThen_ok];rfl
end
theorem BM (va vb:Value) (A B:List RR) (w:World) (ha:Sl ae 3 w va A) (hb:Sl ae 3 w vb B):
  dj Tryz.prog 17 #[va,vb] w λv w'=>v= .bool (decide (A=B))/\Below w.heap.size w w':=by
 have hS:=St.init w;have hla:=ha.maxLen;have hlb:=hb.maxLen;refine enter Tryz.func17 rfl Tryz.ntmps17 rfl ?_;refine J2 ?_;refine jp (aF rfl (ha.ab hS.ab) ⟨_,Tryz.underlying34⟩ ?_);refine J1 ?_;refine jp (aF rfl (hb.ab hS.ab) ⟨_,Tryz.underlying34⟩ ?_);refine V1 ?_;by_cases hl:A.length=B.length
 ·refine V2 ?_;refine aQ (σ:=Nat) (λi ρ w'=>i<=A.length/\A.take i=B.take i/\ρ 0=va/\ρ 1=vb/\ρ 5=iB i/\St w w' []) (λi=>A.length-i) 0
   ⟨Nat.zero_le _,rfl,rfl,rfl,rfl,hS⟩ ?_
  clear hS;rintro i ρ w2 ⟨hi,hq,h0,h1,h5,hS⟩;refine J2 ?_;refine jp (aF rfl (ha.ab hS.ab) ⟨_,Tryz.underlying34⟩ ?_);refine V1 ?_;by_cases hlt:i<A.length
  ·refine V1 ?_;have hltb:i<B.length:=oO;refine ja ?_;refine bk [jo 0,jo 1,jo 2,ju 3,jo 4,jo 5,jo 6,ju 7,jo 8] kR kR hS ?_;intro wz1 hS hBz1;refine J2 ?_;refine jl rfl (aH (i:=i) rfl rfl (ha.ab hS.ab) oO dO bJ (jm rfl (aO (i:=i) bM rfl aB (ha.ab hS.ab) dO rfl rfl (.inl rfl) ?_)));refine J2 ?_;refine jl rfl (aH (i:=i) rfl rfl (hb.ab hS.ab) oO dO bJ (jm rfl (aO (i:=i) bM rfl aB (hb.ab hS.ab) dO rfl rfl (.inl rfl) (jl rfl (FH rfl rfl ?_)))));refine ja ?_;have ta:=cH A i bM hlt;have tb:=cH B i bM hltb;by_cases he:A.getD i bM=B.getD i bM
   ·refine ct rfl (decide_eq_false (not_not_intro he)) ?_;refine V3 ?_;exact⟨i+1,_,rfl,⟨hlt,by rw[ta,tb,hq,he],h0,h1,vi rfl oO,hS⟩,oO⟩
   ·refine bZ rfl (decide_eq_true he) ?_;refine J1 ?_;refine jt ?_;refine bj rfl rfl ?_;refine⟨congrArg Value.bool ?_,hS.ab⟩;symm;rw[decide_eq_false_iff_not]
    intro h;rw[h]at he;exact he rfl
  ·refine J1 ?_;refine jt ?_;obtain rfl:i=A.length:=oO;rw[List.take_length,hl,List.take_length]at hq;refine J1 ?_;refine jt ?_;refine bj rfl rfl ?_;exact⟨congrArg Value.bool (decide_eq_true hq).symm,hS.ab⟩
 ·refine J2 ?_;refine jt ?_;refine bj rfl rfl ?_;refine⟨congrArg Value.bool ?_,hS.ab⟩;symm;rw[decide_eq_false_iff_not]
  intro h;rw[h]at hl;exact hl rfl
end Go.Proofs.YtoeiejliehgopaaGreatDoor
namespace Go.Sx
open Go Go.RowKit
def RB (k:Nat) (l:List RR):Prop:=∀r∈l,Lr r<=k
end Go.Sx
namespace Go.Proofs.YtoeiejliehgopaaGreatDoor
open Go Go.RowKit Go.Sx
theorem Rt (p q:Rat):L (yu p q)<=max (L p) (L q):=by unfold yu;split<;>omega
theorem Qs (p q:Rat):L (r6 p q)<=max (L p) (L q):=by unfold r6;split<;>omega
section
variable {P : Program} {N : Nat} {ρ : Nat → Value} {w : World}
  {d : Option Tmp} {ty : TypeId} {pos : String} {aft : Array Edge} {g : Option (Nat × Bool)} {x y : Operand} {t e : TypeId} {K : Value → Prop}
theorem nb {b n i sz:Nat} {zz:List Value} {kk:IntKind} {m:Int} (hx:ev N ρ x= .pointer (some ⟨b,0,none⟩)) (hy:ev N ρ y= .int kk m) (hm:m=(i:Int)) (hi:i<n)
  (ht:P.underlying t=some (.array n e)) (he:da P e=some (sz,false,zz)) (h:K (.pointer (some ⟨b,i*sz,none⟩))):
  dp P N ρ ⟨d,.indexAddr t x y,ty,pos,aft,g⟩ K:=by
 obtain⟨ii,dd,zv,hi1,hu,_,hsz,_⟩:=jV he;subst hm hsz;refine⟨_,λw=> ?_,h⟩;simp[execOp,hx,hy,Instr.indexAt,asIntOf,run_underlying ht,hi,sizeOf,typeInfo,hi1,add_lit,Instr.sureAddr]
end
theorem pd (xs:List RR):∀u∈xs.flatMap ae,u.oneCell'=true:=by
 intro u hu;obtain⟨x,_,hx⟩:=List.mem_flatMap.1 hu;simp only[ae,List.mem_cons,List.not_mem_nil,or_false]at hx;rcases hx with rfl|rfl|rfl<;>rfl
theorem KT:toQ bM=0:=by rw[<-toQ_ofQ 0,gm];rfl
end Go.Proofs.YtoeiejliehgopaaGreatDoor
namespace Go.Sx
open Go Go.RowKit Go.Proofs.YtoeiejliehgopaaGreatDoor
def aS {α:Type} (n:Nat) (f:Nat->α):List α:=(List.range n).map f
theorem ao {α:Type} (n:Nat) (f:Nat->α):(aS n f).length=n:=by simp[aS]
theorem aV {α:Type} {n:Nat} (f:Nat->α) (d:α) {i:Nat} (h:i<n):(aS n f).getD i d=f i:=by
 simp[aS,List.getD_eq_getElem?_getD,h]
theorem bA {α:Type} {n:Nat} {f g:Nat->α} (h:∀i,i<n->f i=g i):aS n f=aS n g:=by
 unfold aS;exact List.map_congr_left λi hi=>h i (List.mem_range.1 hi)
theorem mW {α:Type} (n:Nat) (d:α):List.replicate n d=aS n λ_=>d:=by
 refine List.ext_getElem (by simp[aS]) λi h1 h2=> ?_;simp[aS]
theorem eP {α:Type} {n:Nat} (f:Nat->α) (i:Nat) (v:α):(aS n f).set i v=aS n λj=>if j=i then v else f j:=by
 refine List.ext_getElem (by simp[aS]) λj h1 h2=> ?_;rw[List.getElem_set];simp only[aS,List.getElem_map,List.getElem_range];by_cases h:i=j
 ·subst h;simp
 ·rw[if_neg h,if_neg (λe=>h e.symm)]
theorem D1 {α:Type} (l:List α) (d:α):l=aS l.length λi=>l.getD i d:=by
 refine List.ext_getElem (by simp[aS]) λi h1 h2=> ?_;simp[aS,List.getD_eq_getElem?_getD,h1]
theorem lR {α:Type} {n:Nat} {f:Nat->α} {x:α} (h:x∈aS n f):∃i,i<n/\f i=x:=by
 obtain⟨i,hi,e⟩:=List.mem_map.1 h;exact⟨i,List.mem_range.1 hi,e⟩
theorem gU {α:Type} (n:Nat) (f:Nat->α):aS (n+1) f=aS n f++[f n]:=by
 simp[aS,List.range_succ]
theorem FI (m n:Nat) (hm:m<2^63) (hn:n<2^63):iF .and .i64 m n=((m&&&n:Nat):Int):=by
 have hlt:m&&&n<2^63:=Nat.lt_of_le_of_lt Nat.and_le_left hm;show IntKind.wrap .i64 (((BitVec.ofInt 64 (m:Int)&&&BitVec.ofInt 64 (n:Int)).toNat:Nat):Int)=_;rw[BitVec.ofInt_natCast,BitVec.ofInt_natCast,BitVec.toNat_and,BitVec.toNat_ofNat,BitVec.toNat_ofNat,Nat.mod_eq_of_lt oO,Nat.mod_eq_of_lt oO];exact iR _ ⟨rfl,oO,oO⟩
open Go Go.RowKit
section
variable {P : Program} {N : Nat} {ρ : Nat → Value} {w w0 : World} {H : List bQ}
  {d : Option Tmp} {ty : TypeId} {pos : String} {aft : Array Edge} {g : Option (Nat × Bool)} {x y : Operand} {t e : TypeId} {v vs : Value} {K2 : Value → World → Prop}
theorem mD {α:Type} {enc:α->List Value} {size:Nat} {X:List α} {L:List bQ} {i:Nat} {zz:List Value} {agg:Bool} (u:α) (hu:∀x,(enc x).length=size) (hx:ev N ρ x= .pointer (some ((mx vs).add (i*size)))) (hy:ev N ρ y=v) (ht:da P t=some (size,agg,zz)) (hG:Gl enc e size vs X L) (hS:St w0 w (H++L))
  (hi:i<X.length) (hv:v.cells.toList=enc u) (h1:(enc u).all (·.oneCell')=true)
  (h:∀w',(∃L',Gl enc e size vs (X.set i u) L'/\St w0 w' (H++L'))->K2 undef w'):gZ P N ρ w ⟨d,.store t x y,ty,pos,aft,g⟩ K2:=by
 obtain⟨hX,⟨rfl,h0,_⟩|⟨b,cap,spare,rfl,rfl,h2,h3,h4⟩⟩:=hG
 ·omega
 have hx':ev N ρ x= .pointer (some ⟨b,i*size,none⟩):=by
  rw[hx];show Value.pointer (some ((⟨b,0,none⟩:Addr).add (i*size)))=_;rw[add_lit,Nat.zero_add]
 have hk:(H++[(b,e,X.flatMap enc++spare)])[H.length]?=some (b,e,X.flatMap enc++spare):=by simp
 have hfit:i*size+size<=(X.flatMap enc).length:=by
  rw[hX];have:(i+1)*size<=X.length*size:=Nat.mul_le_mul_right _ hi;rw[Nat.add_mul]at this;omega
 refine cO hx' hy ht hS hk hv (hu u) (by rw[List.length_append];omega) h1 (λw' hS'=> ?_);have hsp:splice (X.flatMap enc++spare) (i*size) (enc u)=(X.set i u).flatMap enc++spare:=by
  rw[<-py hu X u hi];unfold splice;rw[List.take_append_of_le_length oO,List.drop_append_of_le_length (by rw[hu];exact hfit)];simp only[List.append_assoc]
 rw[hsp]at hS';refine h w' ⟨[(b,e,(X.set i u).flatMap enc++spare)],⟨?_,.inr ⟨b,cap,spare,by rw[List.length_set],rfl,by rw[List.length_set];exact h2,h3,?_⟩⟩,hS'.cast (by simp)⟩
 ·rw[List.length_set,<-hX,<-py hu X u hi];unfold splice;simp only[List.length_append,List.length_take,List.length_drop,hu];omega
 ·rw[<-h4,List.length_append,List.length_append,<-py hu X u hi];unfold splice;simp only[List.length_append,List.length_take,List.length_drop,hu];omega
end
end Go.Sx
namespace Go.Proofs.YtoeiejliehgopaaGreatDoor
open Go Go.RowKit Go.Sx
def lD (c:Int):List Value:=[.int .i64 c]
end Go.Proofs.YtoeiejliehgopaaGreatDoor
