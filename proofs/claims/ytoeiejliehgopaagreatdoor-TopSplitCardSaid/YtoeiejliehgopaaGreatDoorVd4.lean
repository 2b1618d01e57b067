/-
  Part 4 of the proof of TopSplit: framework, walks, plain laws.
-/
import Derived.Test.YtoeiejliehgopaaGreatDoorVd3
import Derived.ProofKit
import Derived.OpenShut
import Derived.LaidMore
import Derived.Lay
import Derived.ChangeSlices
import Derived.Carry
import Derived.WideShapes
import Derived.Test.YtoeiejliehgopaaGreatDoorTie
import Derived.SevenTiedAt
import Derived.Stop.Joined
set_option maxRecDepth 20000
set_option maxHeartbeats 8000000
namespace Go.Proofs.YtoeiejliehgopaaGreatDoor
open Go Go.RowKit Go.Sx
theorem CB (n:Int) (w:World) (h1: -9223372036854775808<=n) (h2:n<=9223372036854775807):
  mb Tryz.prog 43 #[.int .i64 n] w λv w'=>v= .int .u64 (n.natAbs:Nat)/\w'=w:=by
 refine enter Tryz.func43 rfl Tryz.ntmps43 rfl ?_;refine V3 ?_;by_cases h:n<0
 ·refine lu rfl (ai h) ?_;refine J2 ?_;refine jp (Ot rfl (r:=(-(n+1))) (by exact o8 _ ⟨oO,oO,oO⟩) (jp (kT rfl Tryz.underlying99 ⟨_,Tryz.underlying2⟩ (r:=(-(n+1))) (by exact fv _ oO) (jp (py rfl rfl (r:=((n.natAbs:Nat):Int)) (by exact lE _ ⟨oO,oO,oO⟩) ?_)))));refine J1 ?_;refine jt ?_;refine kJ rfl rfl ?_;exact⟨rfl,rfl⟩
 ·refine lH rfl (ae h) ?_;refine J1 ?_;refine jp (kT rfl Tryz.underlying99 ⟨_,Tryz.underlying2⟩ (r:=((n.natAbs:Nat):Int)) (by exact lE _ ⟨oO,oO,oO⟩) ?_);refine J1 ?_;refine jt ?_;refine kJ rfl rfl ?_;exact⟨rfl,rfl⟩
theorem Rk (n:Int) (w:World) (h1: -9223372036854775808<=n) (h2:n<=9223372036854775807):
  mb Tryz.prog 76 #[.int .i64 n] w λv w'=>v=lC (ki (n:Rat))/\Below w.heap.size w w':=by
 have hS:=St.init w;refine enter Tryz.func76 rfl Tryz.ntmps76 rfl ?_;refine J1 ?_;intro b1 wz2 hS hBz2;refine J3 ?_;refine jh (kf Tryz.call43 rfl (CB n _ h1 h2) ?_);rintro _ wq3 ⟨rfl,hq3⟩;replace hq3:=hq3.symm;subst hq3;refine jh (kf Tryz.call42 rfl (wq n.natAbs _ oO) ?_);rintro _ wc4 ⟨rfl,hBc4⟩;replace hS:=hS.kx hBc4;refine jp (lr rfl (Dr _ _) ?_);refine J1 ?_;intro wz5 hS;refine jt ?_;refine mA (k:=0) rfl rfl kt hS rfl rfl ?_;exact⟨rfl,hS.kb⟩
theorem O6 (b:Bool) (num den:ByteArray) (w:World) (hn:num.size<=4398046511104) (hd:den.size<=4398046511104) (h0:val den≠0):
  mb Tryz.prog 41 #[.bool b,.string num,.string den] w λv w'=>v= .tuple #[lC (ki (mkRat (sg b (val num)) (val den))),.bool true]/\Below w.heap.size w w':=by
 have hla:=mP num;have hlb:=mP den;have hne:(kY (val den)).length≠0:=λh=>h0 (sa.1 h);have hS:=St.init w;refine enter Tryz.func41 rfl Tryz.ntmps41 rfl ?_;refine J1 ?_;intro b1 wz2 hS hBz2;refine J2 ?_;refine jh (kf Tryz.call77 rfl (xT _ _ oO) ?_);rintro vd w2 ⟨hvd,hB2⟩;replace hS:=hS.kx hB2;refine J2 ?_;refine jp (ky rfl hvd ⟨_,Tryz.underlying138⟩ ?_);refine J4 ?_;refine jh (kf Tryz.call77 rfl (xT _ _ oO) ?_);rintro vn w3 ⟨hvn,hB3⟩;replace hS:=hS.kx hB3;refine J1 ?_;refine jh (kf Tryz.call78 rfl (Iy b vn vd _ _ _ hvn (hvd.kb hB3) oO oO h0) ?_);rintro r w4 ⟨rfl,hB4⟩;replace hS:=hS.kx hB4;refine J1 ?_;intro wz3 hS;refine J1 ?_;refine jt ?_;refine nG (k:=0) rfl rfl rfl kt hS rfl rfl ?_;exact⟨rfl,hS.kb⟩
theorem Sw (a:Int) (n:Nat):sg (decide (a<0)!=decide (((n:Nat):Int)<0)) a.natAbs=a:=by
 have h:decide (((n:Nat):Int)<0)=false:=by simp
 rw[h];unfold sg;by_cases ha:a<0<;>simp[ha]<;>omega
theorem FH (a:Int) (n:Nat) (w:World) (h1: -9223372036854775808<=a) (h2:a<=9223372036854775807) (hn0:0<n) (hn:n<=9223372036854775807):
  mb Tryz.prog 23 #[.int .i64 a,.int .i64 n] w λv w'=>v= .tuple #[lC (ki (mkRat a n)),.bool true]/\Below w.heap.size w w':=by
 have hS:=St.init w;have hs1:=C8 (n:=a.natAbs) oO;have hs2:=C8 (n:=n) oO;have hmk:=λw=>O6 (decide (a<0)!=decide (((n:Nat):Int)<0)) (kQ a.natAbs) (kQ n) w oO oO (by rw[lF];omega);rw[lF,lF,Sw]at hmk;refine enter Tryz.func23 rfl Tryz.ntmps23 rfl ?_;refine J1 ?_;intro b1 wz2 hS hBz2;refine J5 ?_;refine jp (Dg rfl rfl Tryz.underlying4 ?_);refine J1 ?_;refine jh (kf Tryz.call43 rfl (CB a _ h1 h2) ?_);rintro _ wq3 ⟨rfl,hq3⟩;replace hq3:=hq3.symm;subst hq3;refine jh (kf Tryz.call42 rfl (wq a.natAbs _ oO) ?_);rintro _ wc4 ⟨rfl,hBc4⟩;replace hS:=hS.kx hBc4;refine J1 ?_;refine jh (kf Tryz.call43 rfl (CB n _ oO oO) ?_);rintro _ wq5 ⟨rfl,hq5⟩;replace hq5:=hq5.symm;subst hq5;rw[fN];refine jh (kf Tryz.call42 rfl (wq n _ oO) ?_);rintro _ wc6 ⟨rfl,hBc6⟩;replace hS:=hS.kx hBc6;refine jh (kf Tryz.call41 rfl (hmk _) ?_);rintro _ wc7 ⟨rfl,hBc7⟩;replace hS:=hS.kx hBc7;refine J3 ?_;intro wz8 hS;refine J1 ?_;refine jt ?_;refine nG (k:=0) rfl rfl rfl kt hS rfl rfl ?_;exact⟨rfl,hS.kb⟩
theorem JZ (q:Rat) (w:World):
  mb Tryz.prog 158 #[lC (ki q)] w λv w'=>v= .int .i64 (qW q)/\Below w.heap.size w w':=by
 have hS:=St.init w;refine enter Tryz.func158 rfl Tryz.ntmps158 rfl ?_;refine jr ?_;refine jh (lx (new:=ke (ki q)) rfl rfl hS ?_);intro b1 wz2 hS hBz2;refine J3 ?_;refine jp (qk rfl rfl ?_);refine V1 ?_;by_cases h:q=0
 ·refine lu rfl (ai (qo.2 h)) ?_;refine J1 ?_;refine jt ?_;refine kJ rfl rfl ?_;exact⟨vi rfl (ve.2 h).symm,hS.kb⟩
 ·refine lH rfl (ae (λg=>h (qo.1 g))) ?_;refine V3 ?_;have hn:q.num≠0:=λg=>h (fy.1 g);by_cases h2:q.num<0
  ·refine lu rfl (ai h2) ?_;refine J1 ?_;refine jt ?_;refine kJ rfl rfl ?_;exact⟨vi rfl (by unfold qW;rw[ah hn,aj h2]),hS.kb⟩
  ·refine lH rfl (ae h2) ?_;refine J1 ?_;refine jt ?_;refine kJ rfl rfl ?_;exact⟨vi rfl (by unfold qW;rw[ah hn,ah h2]),hS.kb⟩
theorem CV (r:RR) (w:World) (hr:Lr r<=MX):
  mb Tryz.prog 114 #[lC r] w λv w'=>v= .int .i64 (qW (toQ r))/\Below w.heap.size w w':=by
 have hS:=St.init w;refine enter Tryz.func114 rfl Tryz.ntmps114 rfl ?_;refine jr ?_;refine jh (lx (new:=ke r) rfl rfl hS ?_);intro b1 wz2 hS hBz2;refine J2 ?_;refine jh (kf Tryz.call159 rfl (QR r _ hr) ?_);rintro _ wc3 ⟨rfl,hBc3⟩;replace hS:=hS.kx hBc3;refine jh (kf Tryz.call158 rfl (JZ (toQ r) _) ?_);rintro _ wc4 ⟨rfl,hBc4⟩;replace hS:=hS.kx hBc4;refine J1 ?_;refine jt ?_;refine kJ rfl rfl ?_;exact⟨rfl,hS.kb⟩
theorem TH (a b:ByteArray):a.toList=b.toList↔a=b:=by
 have:=PN a b;rw[gj]at this;simpa using this
theorem A7 (d:Nat) (r s:RR) (w:World):(Op.equalIn (d+2) 32 (lC r) (lC s)).run Tryz.prog w= .ok (decide (r=s)) w:=by
 unfold lC;rw[run_equalIn_agg (P:=Tryz.prog) w (d+1) 32 _ _ kR kR];have hb:Tryz.prog.underlying 4=some .bool:=by kernel_rfl
 have hs:Tryz.prog.underlying 9=some .string:=by kernel_rfl
 simp only[Program.fieldsOf,Tryz.underlying32];simp[Op.eqFields,part,run_equalIn_bool' (P:=Tryz.prog) w _ _ _ _ hb,run_equalIn_string (P:=Tryz.prog) w _ _ _ _ hs,TH];cases r;cases s
 rename_i a b c a' b' c';simp only[RR.mk.injEq];by_cases h1:a=a'<;>by_cases h2:b=b'<;>by_cases h3:c=c'<;>simp[h1,h2,h3]
section
variable {N : Nat} {ρ : Nat → Value} {d : Option Tmp} {ty : TypeId} {pos : String} {aft : Array Edge} {g : Option (Nat × Bool)} {x y : Operand} {t' : TypeId} {K : Value → Prop}
theorem OD {r s:RR} (hx:ev N ρ x=lC r) (hy:ev N ρ y=lC s) (h:K (.bool (decide (r=s)))):mx Tryz.prog N ρ ⟨d,.binOp .eql 32 x y t',ty,pos,aft,g⟩ K:=by
 refine⟨_,λw=> ?_,h⟩;have h1:(eqGuard .eql 32 x y (lC r) (lC s)).run Tryz.prog w= .ok () w:=run_eqGuard_agg (P:=Tryz.prog) w .eql 32 x y _ _ kR;have h2:(binOp .eql 32 (lC r) (lC s)).run Tryz.prog w= .ok (.bool (decide (r=s))) w:=by
  have:=run_eql_struct (P:=Tryz.prog) w 32 #[.bool r.neg,.string r.num,.string r.den] #[.bool s.neg,.string s.num,.string s.den];have h3:=A7 9998 r s w;unfold lC at*;rw[this,h3];rfl
 simp only[execOp,hx,hy,dI,h1,h2,dk];rfl
theorem Mg {r s:RR} (hx:ev N ρ x=lC r) (hy:ev N ρ y=lC s) (h:K (.bool (decide (r≠s)))):mx Tryz.prog N ρ ⟨d,.binOp .neq 32 x y t',ty,pos,aft,g⟩ K:=by
 refine⟨_,λw=> ?_,h⟩;have h1:(eqGuard .neq 32 x y (lC r) (lC s)).run Tryz.prog w= .ok () w:=run_eqGuard_agg (P:=Tryz.prog) w .neq 32 x y _ _ kR;have h2:(binOp .neq 32 (lC r) (lC s)).run Tryz.prog w= .ok (.bool (decide (r≠s))) w:=by
  have:=run_neq_struct (P:=Tryz.prog) w 32 #[.bool r.neg,.string r.num,.string r.den] #[.bool s.neg,.string s.num,.string s.den];have h3:=A7 9998 r s w;unfold lC at*;rw[this,h3];simp[Result.andThen]
 simp only[execOp,hx,hy,dI,h1,h2,dk];rfl
end
theorem A1 (va vb:Value) (A B:List RR) (w:World) (ha:Sl ke 3 w va A) (hb:Sl ke 3 w vb B):
  mb Tryz.prog 17 #[va,vb] w λv w'=>v= .bool (decide (A=B))/\Below w.heap.size w w':=by
 have hS:=St.init w;have hla:=ha.maxLen;have hlb:=hb.maxLen;refine enter Tryz.func17 rfl Tryz.ntmps17 rfl ?_;refine J2 ?_;refine jp (ky rfl (ha.kb hS.kb) ⟨_,Tryz.underlying34⟩ ?_);refine J1 ?_;refine jp (ky rfl (hb.kb hS.kb) ⟨_,Tryz.underlying34⟩ ?_);refine V1 ?_;by_cases hl:A.length=B.length
 ·refine V2 ?_;refine kF (σ:=Nat) (λi ρ w'=>i<=A.length/\A.take i=B.take i/\ρ 0=va/\ρ 1=vb/\ρ 5=iB i/\St w w' []) (λi=>A.length-i) 0
   ⟨aw _,rfl,rfl,rfl,rfl,hS⟩ ?_
  clear hS;rintro i ρ w2 ⟨hi,hq,h0,h1,h5,hS⟩;refine J2 ?_;refine jp (ky rfl (ha.kb hS.kb) ⟨_,Tryz.underlying34⟩ ?_);refine V1 ?_;by_cases hlt:i<A.length
  ·refine V1 ?_;have hltb:i<B.length:=oO;refine ja ?_;refine kK [jo 0,jo 1,jo 2,ju 3,jo 4,jo 5,jo 6,ju 7,jo 8] kR kR hS ?_;intro wz1 hS hBz1;refine J2 ?_;refine jl rfl (ks (i:=i) rfl rfl (ha.kb hS.kb) oO dO kW (jm rfl (kC (i:=i) kZ rfl kt (ha.kb hS.kb) dO rfl rfl (.inl rfl) ?_)));refine J2 ?_;refine jl rfl (ks (i:=i) rfl rfl (hb.kb hS.kb) oO dO kW (jm rfl (kC (i:=i) kZ rfl kt (hb.kb hS.kb) dO rfl rfl (.inl rfl) (jl rfl (Mg rfl rfl ?_)))));refine ja ?_;have ta:=lT A i kZ hlt;have tb:=lT B i kZ hltb;by_cases he:A.getD i kZ=B.getD i kZ
   ·refine lH rfl (ae (aQ he)) ?_;refine V3 ?_;exact⟨i+1,_,rfl,⟨hlt,by rw[ta,tb,hq,he],h0,h1,vi rfl oO,hS⟩,oO⟩
   ·refine lu rfl (ai he) ?_;refine J1 ?_;refine jt ?_;refine kJ rfl rfl ?_;refine⟨bB Value.bool ?_,hS.kb⟩;symm;rw[dh]
    intro h;rw[h]at he;exact he rfl
  ·refine J1 ?_;refine jt ?_;obtain rfl:i=A.length:=oO;rw[bO,hl,bO]at hq;refine J1 ?_;refine jt ?_;refine kJ rfl rfl ?_;exact⟨bB Value.bool (ai hq).symm,hS.kb⟩
 ·refine J2 ?_;refine jt ?_;refine kJ rfl rfl ?_;refine⟨bB Value.bool ?_,hS.kb⟩;symm;rw[dh]
  intro h;rw[h]at hl;exact hl rfl
end Go.Proofs.YtoeiejliehgopaaGreatDoor
namespace Go.Sx
open Go Go.RowKit
def RB (k:Nat) (l:List RR):Prop:=∀r∈l,Lr r<=k
end Go.Sx
namespace Go.Proofs.YtoeiejliehgopaaGreatDoor
open Go Go.RowKit Go.Sx
theorem Xf (p q:Rat):L (DO p q)<=max (L p) (L q):=by unfold DO;split<;>omega
theorem Wc (p q:Rat):L (z6 p q)<=max (L p) (L q):=by unfold z6;split<;>omega
section
variable {P : Program} {N : Nat} {ρ : Nat → Value} {w : World}
  {d : Option Tmp} {ty : TypeId} {pos : String} {aft : Array Edge} {g : Option (Nat × Bool)} {x y : Operand} {t e : TypeId} {K : Value → Prop}
theorem uu {b n i sz:Nat} {zz:List Value} {kk:IntKind} {m:Int} (hx:ev N ρ x= .pointer (some ⟨b,0,none⟩)) (hy:ev N ρ y= .int kk m) (hm:m=(i:Int)) (hi:i<n)
  (ht:P.underlying t=some (.array n e)) (he:mf P e=some (sz,false,zz)) (h:K (.pointer (some ⟨b,i*sz,none⟩))):
  mx P N ρ ⟨d,.indexAddr t x y,ty,pos,aft,g⟩ K:=by
 obtain⟨ii,dd,zv,hi1,hu,_,hsz,_⟩:=rE he;subst hm hsz;refine⟨_,λw=> ?_,h⟩;simp[execOp,hx,hy,Instr.indexAt,asIntOf,cS ht,hi,sizeOf,typeInfo,hi1,add_lit,Instr.sureAddr]
end
theorem uZ (xs:List RR):∀u∈xs.flatMap ke,u.oneCell'=true:=by
 intro u hu;obtain⟨x,_,hx⟩:=dK.1 hu;simp only[ke,bM,cG,fS]at hx;rcases hx with rfl|rfl|rfl<;>rfl
theorem Sk:toQ kZ=0:=by rw[<-toQ_ofQ 0,oD];rfl
end Go.Proofs.YtoeiejliehgopaaGreatDoor
namespace Go.Sx
open Go Go.RowKit Go.Proofs.YtoeiejliehgopaaGreatDoor
def kD {α:Type} (n:Nat) (f:Nat->α):List α:=(List.range n).map f
theorem kj {α:Type} (n:Nat) (f:Nat->α):(kD n f).length=n:=by simp[kD]
theorem kB {α:Type} {n:Nat} (f:Nat->α) (d:α) {i:Nat} (h:i<n):(kD n f).getD i d=f i:=by
 simp[kD,ak,h]
theorem kN {α:Type} {n:Nat} {f g:Nat->α} (h:∀i,i<n->f i=g i):kD n f=kD n g:=by
 unfold kD;exact fX λi hi=>h i (cZ.1 hi)
theorem ur {α:Type} (n:Nat) (d:α):List.replicate n d=kD n λ_=>d:=by
 refine fm (by simp[kD]) λi h1 h2=> ?_;simp[kD]
theorem mZ {α:Type} {n:Nat} (f:Nat->α) (i:Nat) (v:α):(kD n f).set i v=kD n λj=>if j=i then v else f j:=by
 refine fm (by simp[kD]) λj h1 h2=> ?_;rw[List.getElem_set];simp only[kD,ew,jH];by_cases h:i=j
 ·subst h;simp
 ·rw[ah h,ah (λe=>h e.symm)]
theorem Ju {α:Type} (l:List α) (d:α):l=kD l.length λi=>l.getD i d:=by
 refine fm (by simp[kD]) λi h1 h2=> ?_;simp[kD,ak,h1]
theorem tG {α:Type} {n:Nat} {f:Nat->α} {x:α} (h:x∈kD n f):∃i,i<n/\f i=x:=by
 obtain⟨i,hi,e⟩:=ca.1 h;exact⟨i,cZ.1 hi,e⟩
theorem pg {α:Type} (n:Nat) (f:Nat->α):kD (n+1) f=kD n f++[f n]:=by
 simp[kD,iV]
theorem Mh (m n:Nat) (hm:m<2^63) (hn:n<2^63):qg .and .i64 m n=((m&&&n:Nat):Int):=by
 have hlt:m&&&n<2^63:=bZ Nat.and_le_left hm;show IntKind.wrap .i64 (((BitVec.ofInt 64 (m:Int)&&&BitVec.ofInt 64 (n:Int)).toNat:Nat):Int)=_;rw[fT,fT,BitVec.toNat_and,gn,gn,aW oO,aW oO];exact o8 _ ⟨rfl,oO,oO⟩
open Go Go.RowKit
section
variable {P : Program} {N : Nat} {ρ : Nat → Value} {w w0 : World} {H : List lj}
  {d : Option Tmp} {ty : TypeId} {pos : String} {aft : Array Edge} {g : Option (Nat × Bool)} {x y : Operand} {t e : TypeId} {v vs : Value} {K2 : Value → World → Prop}
theorem ug {α:Type} {enc:α->List Value} {size:Nat} {X:List α} {L:List lj} {i:Nat} {zz:List Value} {agg:Bool} (u:α) (hu:∀x,(enc x).length=size) (hx:ev N ρ x= .pointer (some ((t6 vs).add (i*size)))) (hy:ev N ρ y=v) (ht:mf P t=some (size,agg,zz)) (hG:Gl enc e size vs X L) (hS:St w0 w (H++L))
  (hi:i<X.length) (hv:v.cells.toList=enc u) (h1:(enc u).all (·.oneCell')=true)
  (h:∀w',(∃L',Gl enc e size vs (X.set i u) L'/\St w0 w' (H++L'))->K2 undef w'):pL P N ρ w ⟨d,.store t x y,ty,pos,aft,g⟩ K2:=by
 obtain⟨hX,⟨rfl,h0,_⟩|⟨b,cap,spare,rfl,rfl,h2,h3,h4⟩⟩:=hG
 ·omega
 have hx':ev N ρ x= .pointer (some ⟨b,i*size,none⟩):=by
  rw[hx];show Value.pointer (some ((⟨b,0,none⟩:Addr).add (i*size)))=_;rw[add_lit,bX]
 have hk:(H++[(b,e,X.flatMap enc++spare)])[H.length]?=some (b,e,X.flatMap enc++spare):=by simp
 have hfit:i*size+size<=(X.flatMap enc).length:=by
  rw[hX];have:(i+1)*size<=X.length*size:=aI _ hi;rw[bn]at this;omega
 refine lX hx' hy ht hS hk hv (hu u) (by rw[ax];omega) h1 (λw' hS'=> ?_);have hsp:splice (X.flatMap enc++spare) (i*size) (enc u)=(X.set i u).flatMap enc++spare:=by
  rw[<-xa hu X u hi];unfold splice;rw[eZ oO,fM (by rw[hu];exact hfit)];simp only[aG]
 rw[hsp]at hS';refine h w' ⟨[(b,e,(X.set i u).flatMap enc++spare)],⟨?_,.inr ⟨b,cap,spare,by rw[bG],rfl,by rw[bG];exact h2,h3,?_⟩⟩,hS'.cast (by simp)⟩
 ·rw[bG,<-hX,<-xa hu X u hi];unfold splice;simp only[ax,dm,fk,hu];omega
 ·rw[<-h4,ax,ax,<-xa hu X u hi];unfold splice;simp only[ax,dm,fk,hu];omega
end
end Go.Sx
namespace Go.Proofs.YtoeiejliehgopaaGreatDoor
open Go Go.RowKit Go.Sx
def tv (c:Int):List Value:=[.int .i64 c]
end Go.Proofs.YtoeiejliehgopaaGreatDoor
namespace Go.Sx
open Go Go.RowKit
section
variable {P : Program} {ops : Array Oper} {Kend : Act → World → Prop} {n x : Nat} {ox : Oper}
def FQ (P:Program) (ops:Array Oper) (Kend:Act->World->Prop) (n x:Nat) (ox:Oper):List (Nat×Md)->Act->World->Prop
 | [],a,w=>mF P ops .kx ox a w Kend
 |(y,m)::σ,a,w=>mF P ops .kx ox a w (wr P ops Kend ((y,m)::σ))/\(rT ops n y x=false->match ops[y]?with
  |some oy=>mF P ops m oy a w (FQ P ops Kend n x ox σ)
  |none=>False)
theorem Ia {σ:List (Nat×Md)} {a:Act} {w:World} (h:FQ P ops Kend n x ox σ a w):mF P ops .kx ox a w (wr P ops Kend σ):=by
 cases σ with
 |nil=>exact nb (λa w h=>h) h
 |cons y σ=>exact h.1
theorem AC {y:Nat} {m:Md} {oy:Oper} {σ:List (Nat×Md)} {a:Act} {w:World} (hs:wG ops) (hx:ops[x]?=some ox) (hy:ops[y]?=some oy) (hsw:oc ops (y,m) (x,.kx)=true)
  (h:mF P ops m oy a w (FQ P ops Kend n x ox σ)):FQ P ops Kend n x ox ((y,m)::σ) a w:=by
 refine⟨?_,λ_=>by rw[hy];exact h⟩;have h1:mF P ops m oy a w (λa w=>mF P ops .kx ox a w (wr P ops Kend σ)):=nb (λa w g=>Ia g) h;refine nb (λa w g=> ?_) (Hp hy hx (λcs b=>hs y oy cs b hy) (λcs b=>hs x ox cs b hx) hsw h1);simp only[wr,hy];exact g
theorem Jl {o:Oper} {a:Act} {w:World} {K K':Act->World->Prop} (h:mF P ops .pure o a w K) (h':mF P ops .pure o a w K'):mF P ops .pure o a w (λa w=>K a w/\K' a w):=by
 by_cases hw:Region.wanted o (yielded ops a.tmps)=true
 ·rw[ob hw]at h h'⊢;obtain⟨v,g1,g2⟩:=h;obtain⟨v',g1',g2'⟩:=h';have e1:=g1 w;have e2:=g1' w;rw[e1]at e2;obtain rfl:v=v':=by simpa using e2
  exact⟨v,g1,g2,g2'⟩
 ·rw[qy hw]at h h'⊢;exact⟨h,h'⟩
theorem EW (hs:wG ops) (hx:ops[x]?=some ox) {i:Nat} {m:Md} {oi:Oper} (hi:ops[i]?=some oi) (hix:rT ops n i x=false) {post:List (Nat×Md)}:
  ∀(pre:List (Nat×Md)) (a:Act) (w:World),(∀y∈pre,oc ops y (i,m)=true)->(∀y∈pre,(m= .pure/\oc ops (x,.kx) (i,m)=true)\/(rT ops n y.1 x=false/\oc ops y (x,.kx)=true))->
   FQ P ops Kend n x ox (pre++(i,m)::post) a w->mF P ops m oi a w (FQ P ops Kend n x ox (pre++post))
 | [],a,w,_,_,h=>by
  have:=h.2 hix;rw[hi]at this;exact this
 |(y,my)::pre,a,w,hp,hf,h=>by
  obtain⟨h1,h2⟩:=h;have hp':∀z∈pre,oc ops z (i,m)=true:=λz hz=>hp z (aJ _ hz);have hf':=λz hz=>hf z (aJ _ hz);have hyi:=hp (y,my) (aH ..);cases hy:ops[y]?with
  |none=>
   unfold oc at hyi;simp only[hy]at hyi;cases hyi
  |some oy=>
   have hB:rT ops n y x=false->mF P ops m oi a w (λa w=>mF P ops my oy a w (FQ P ops Kend n x ox (pre++post))):=λhd=>by
    have g:=h2 hd;rw[hy]at g;exact Hp hy hi (λcs b=>hs y oy cs b hy) (λcs b=>hs i oi cs b hi) hyi (nb (λa w g=>EW hs hx hi hix pre a w hp' hf' g) g)
   rcases hf (y,my) (aH ..)with⟨rfl,hsx⟩|⟨hd,hsy⟩
   ·have hA:mF P ops .pure oi a w (λa w=>mF P ops .kx ox a w (wr P ops Kend ((y,my)::(pre++post)))):=
     Hp hx hi (λcs b=>hs x ox cs b hx) (λcs b=>hs i oi cs b hi) hsx (nb (λa w g=>Db hs hi ((y,my)::pre) a w hp g) h1)
    by_cases hd:rT ops n y x=false
    ·refine nb (λa w g=> ?_) (Jl hA (hB hd));exact⟨g.1,λ_=>by rw[hy];exact g.2⟩
    ·exact nb (λa w g=>⟨g,λq=>absurd q hd⟩) hA
   ·exact nb (λa w g=>AC hs hx hy hsy g) (hB hd)
def r8 (ops:Array Oper) (n x:Nat):List (Nat×Md)->Bool
 | []=>true
 |y::σ=> !Nat.beq y.1 x&&(σ.all λi=>rT ops n i.1 x||rT ops n i.1 y.1||((match i.2 with| .pure=>true|_=>false)&&oc ops (x,.kx) i)||(!rT ops n y.1 x&&oc ops y (x,.kx)))&&r8 ops n x σ
theorem yj {z:Nat×Md}:∀ {σ τ:List (Nat×Md)},r8 ops n x (σ++z::τ)=true->r8 ops n x (σ++τ)=true
 | [],τ,h=>by simp only[ce,r8,bf]at h⊢;exact h.2
 |y::σ,τ,h=>by
  simp only[bY,r8,bf,fP,f9]at h⊢;exact⟨⟨h.1.1,h.1.2.1,h.1.2.2.2⟩,yj h.2⟩
theorem Br {i:Nat} {m:Md}:∀ {pre post:List (Nat×Md)},r8 ops n x (pre++(i,m)::post)=true->∀y∈pre,y.1≠x/\(rT ops n i x=true\/rT ops n i y.1=true\/(m= .pure/\oc ops (x,.kx) (i,m)=true)\/(rT ops n y.1 x=false/\oc ops y (x,.kx)=true))
 | [],_,_,y,hy=>by cases hy
 |z::pre,post,h,y,hy=>by
  simp only[bY,r8,bf,fP,f9]at h;rcases bM.1 hy with rfl|hy
  ·refine⟨xr h.1.1,?_⟩;have h1:=h.1.2.2.1;simp only[dp,bf,fR]at h1;rcases h1 with((h1|h1)|h1)|h1
   ·exact .inl h1
   ·exact .inr (.inl h1)
   ·refine .inr (.inr (.inl ⟨?_,h1.2⟩));cases m<;>first|rfl|(exfalso;exact absurd h1.1 dD)
   ·exact .inr (.inr (.inr h1))
  ·exact Br h.2 y hy
theorem CG:∀ {σ:List (Nat×Md)},r8 ops n x σ=true->∀y∈σ,y.1≠x
 | [],_,y,hy=>by cases hy
 |z::σ,h,y,hy=>by
  simp only[r8,bf]at h;rcases bM.1 hy with rfl|hy
  ·exact xr h.1.1
  ·exact CG h.2 y hy
theorem Fl {Q:Exit->Act->World->Prop} (hs:wG ops) (hQ:∀a w,Kend a w->Q .normal a w) (hx:ops[x]?=some ox) (hxd:∀e∈ox.after,Region.binds .any e=false):
  ∀(fuel:Nat) (σ:List (Nat×Md)) (listed:Array Bool) (a:Act) (w:World),σ.length+1<=fuel->listed.size=ops.size->closed ops listed->
   (∀i,listed.getD i true=false↔i=x\/∃m,(i,m)∈σ)->pf ops n σ=true->tp ops ((x,.kx)::σ)=true->r8 ops n x σ=true->FQ P ops Kend n x ox σ a w->wpAny P .any ops Q fuel listed a w:=by
 intro fuel;induction fuel with
 |zero=>intro σ listed a w hlen;omega
 |succ fuel ih=>
  intro σ listed a w hlen hsz hc hl hp ht hf h;have hxun:listed.getD x true=false:=(hl x).2 (.inl rfl);refine⟨λhr=> ?_,λi hi=> ?_⟩
  ·exfalso;have hxr:x∈Region.ready .any ops listed:=iw.2 ⟨hxun,ox,hx,λe he hb=>by rw[hxd e he]at hb;cases hb⟩;rw[hr]at hxr;cases hxr
  ·obtain⟨hun,oi,hoi,hdeps⟩:=iw.1 hi;have hilt:i<listed.size:=by
    rcases bH i listed.size with h2|h2
    ·exact h2
    ·simp[Array.getD,gm.2 h2]at hun
   have hclosed:closed ops (listed.setIfInBounds i true):=by
    intro j o hj hjl e he hb;by_cases hji:j=i
    ·subst hji;rw[hoi]at hj;obtain rfl:=bK hj;exact jO (hdeps e he hb)
    ·rw[iI true (jQ hji)]at hjl;exact jO (hc j o hj hjl e he hb)
   have hself:∀ {p:Prop},¬p->((listed.setIfInBounds i true).getD i true=false↔p):=λhnp=>
    ⟨λhf=>by simp[Array.getD,hilt]at hf,λq=>absurd q hnp⟩
   have hne:=CG hf;by_cases hix:i=x
   ·subst hix;rw[hx]at hoi;obtain rfl:=bK hoi;refine sN hx (nb (λa w hh=> ?_) (Ia h));simp only[tp,bf]at ht;refine Bb hs hQ n fuel σ (listed.setIfInBounds i true) a w oO (by simpa using hsz) hclosed ?_ hp ht.2 hh;intro j;by_cases hji:j=i
    ·subst hji;exact hself λ⟨m,hm⟩=>hne _ hm rfl
    ·rw[iI true (jQ hji),hl j];exact⟨λq=>q.resolve_left hji,.inr⟩
   ·obtain⟨m,hm⟩:=((hl i).1 hun).resolve_left hix;obtain⟨pre,post,rfl⟩:=List.append_of_mem hm;have hlst:∀k,listed.getD k true=false->rT ops n i k=true->False:=λk hk hd=>by
     have h2:=A8 hc n i k (λo ho e he hb=>by rw[hoi]at ho;obtain rfl:=bK ho;exact hdeps e he hb) hd;rcases bH k listed.size with hlt|hlt
     ·simp only[Array.getD,hlt,gq]at h2 hk;rw[h2]at hk;cases hk
     ·simp[Array.getD,gm.2 hlt]at h2
    have hnd:∀y∈pre,y.1≠i/\(rT ops n i y.1=true\/oc ops y (i,m)=true):=by
     clear ih h hl hlen ht hm hlst hf hne;induction pre with
     |nil=>intro y hy;cases hy
     |cons z pre ihp=>
      simp only[bY,pf,bf,fP,f9]at hp;intro y hy;rcases bM.1 hy with rfl|hy
      ·have h1:=hp.1.2.1;rw[dp]at h1;exact⟨xr h1.1,h1.2⟩
      ·exact ihp hp.2 y hy
    have hpost:∀y∈post,i≠y.1:=by
     clear ih h hl hlen ht hm hnd hlst hf hne;induction pre with
     |nil=>
      simp only[ce,pf,bf]at hp;intro y hy;have:=cO.1 hp.1 y hy;simp only[bf]at this;exact xr this.1
     |cons z pre ihp=>
      simp only[bY,pf,bf]at hp;exact ihp hp.2
    have hyun:∀y∈pre,listed.getD y.1 true=false:=λy hy=>(hl y.1).2 (.inr ⟨y.2,by simp[hy]⟩);have hsw:∀y∈pre,oc ops y (i,m)=true:=λy hy=>(hnd y hy).2.resolve_left λq=>hlst _ (hyun y hy) q;have hixd:rT ops n i x=false:=by
     cases hd:rT ops n i x with
     |false=>rfl
     |true=>exact(hlst x hxun hd).elim
    have hfl:∀y∈pre,(m= .pure/\oc ops (x,.kx) (i,m)=true)\/(rT ops n y.1 x=false/\oc ops y (x,.kx)=true):=λy hy=>by
     rcases(Br hf y hy).2 with q|q|q
     ·rw[hixd]at q;cases q
     ·exact(hlst _ (hyun y hy) q).elim
     ·exact q
    refine sN hoi (nb (λa w hh=> ?_) (EW hs hx hoi hixd pre a w hsw hfl h));refine ih (pre++post) (listed.setIfInBounds i true) a w (by simp at hlen⊢;omega) (by simpa using hsz) hclosed ?_ (uJ hp) (vJ (σ:=(x,.kx)::pre) ht) (yj hf) hh;intro j;by_cases hji:j=i
    ·subst hji;refine hself ?_;rintro(q|⟨m',hm'⟩)
     ·exact hix q
     ·rcases bN.1 hm' with h1|h1
      ·exact absurd rfl (hnd _ h1).1
      ·exact absurd rfl (hpost _ h1)
    ·rw[iI true (jQ hji),hl j];constructor
     ·rintro(q|⟨m',hm'⟩)
      ·exact .inl q
      ·refine .inr ⟨m',?_⟩;rcases bN.1 hm' with h1|h1
       ·simp[h1]
       ·rcases bM.1 h1 with h2|h2
        ·exact absurd (bB Prod.fst h2) hji
        ·simp[h2]
     ·rintro(q|⟨m',hm'⟩)
      ·exact .inl q
      ·refine .inr ⟨m',?_⟩;rcases bN.1 hm' with h1|h1
       ·simp[h1]
       ·simp[h1]
def KO (ops:Array Oper) (x:Nat) (σ:List (Nat×Md)):Bool:=
 Nat.ble (σ.length+1) ops.size&&(List.range ops.size).all (λi=>Nat.beq x i||σ.any λx=>Nat.beq x.1 i)&&σ.all (λx=>Nat.blt x.1 ops.size)&&pf ops ops.size σ&&tp ops ((x,.kx)::σ)&&r8 ops ops.size x σ&&
 (match ops[x]?with|some o=>o.after.all λe=> !Region.binds .any e|none=>false)&&
 ops.all λo=>match o.op with| .select .. =>false|_=>true
end
structure Wx (P:Program) (ops:Array Oper) (Kend:Act->World->Prop) (x:Nat) (σ:List (Nat×Md)) (N:Nat) (ρ:Nat->Value) (w:World):Prop where
 out:wG ops->∀ox,ops[x]?=some ox->FQ P ops Kend ops.size x ox σ (act N ρ) w
section
variable {P : Program} {N : Nat} {ρ : Nat → Value} {w0 w : World} {Q : Exit → Act → World → Prop} {ops : Array Oper} {H : List lj} {Kend : Act → World → Prop} {i x : Nat} {o : Oper} {σ : List (Nat × Md)}
theorem vV {id:Nat} {l:List Oper} (x:Nat) (σ:List (Nat×Md)) (hm:P.follows .mixedOrders=true) (hchk:KO l.toArray x σ=true) (hS:St w0 w H)
  (h:∀w',St w0 w' H->Below w.heap.size w w'->Wx P l.toArray (Q .normal) x σ N ρ w'):(Code.region id l.toArray true).wp P Q (act N ρ) w:=by
 simp only[KO,bf]at hchk;obtain⟨⟨⟨⟨⟨⟨⟨h1,h2⟩,h3⟩,h4⟩,h5⟩,h7⟩,h8⟩,h6⟩:=hchk;have hs:wG l.toArray:=by
  intro i o cs b hi hsel;have:=dz.1 h6 o (gK hi);rw[hsel]at this;cases this
 cases hx:l.toArray[x]?with
 |none=>rw[hx]at h8;cases h8
 |some ox=>
  rw[hx]at h8;have hxd:∀e∈ox.after,Region.binds .any e=false:=λe he=>by
   have:=dz.1 h8 e he;simpa using this
  have hbd:Below w.heap.size w {w with drawn:=w.drawn+1}:=(Below.refl _ w).drew;have hxlt:x<l.toArray.size:=by
   rcases bH x l.toArray.size with q|q
   ·exact q
   ·rw[gG q]at hx;cases hx
  refine wp_region_any hm (Fl (n:=l.toArray.size) hs (λ_ _ h=>h) hx hxd l.toArray.size σ _ _ _ (eP h1) (by simp) ?_ ?_ h4 h5 h7 ((h _ (hS.kx hbd) hbd).out hs ox hx))
  ·intro j o _ hl;by_cases hj:j<l.toArray.size
   ·rw[Array.getD,dif_pos (by simpa using hj)]at hl;simp at hl
   ·rename_i hjo;rw[gG oO]at hjo;cases hjo
  ·intro j;constructor
   ·intro hf;have hj:j<l.toArray.size:=by
     rcases bH j l.toArray.size with hlt|hlt
     ·exact hlt
     ·simp at hlt;simp[Array.getD,gm.2 hlt]at hf
    have:=cO.1 h2 j (by simpa using hj);rw[dp]at this;rcases this with q|q
    ·exact .inl (cF q).symm
    ·obtain⟨y,hy,hb⟩:=dB.1 q;exact .inr ⟨y.2,by rw[<-cF hb];exact hy⟩
   ·rintro(rfl|⟨m,hm'⟩)
    ·simp at hxlt;simp[Array.getD,hxlt]
    ·have:=cO.1 h3 _ hm';rw[gL]at this;simp at this;simp[Array.getD,this]
theorem mG {d:Option Tmp} {p:Op} {ty:TypeId} {pos:String} {aft:Array Edge} {g:Option (Nat×Bool)} (hsw:oc ops (i,.pure) (x,.kx)=true) (ho:ops[i]?=some ⟨d,p,ty,pos,aft,g⟩) (hg:gd ops N ρ g=true) (h:mx P N ρ ⟨d,p,ty,pos,aft,g⟩ λv=>Wx P ops Kend x σ N (tm ρ d v) w):Wx P ops Kend x ((i,.pure)::σ) N ρ w:=by
 refine⟨λhs ox hx=>AC hs hx ho hsw ?_⟩;rw[ob (pb ops N ρ ⟨d,p,ty,pos,aft,g⟩ hg),oV];obtain⟨v,h1,h2⟩:=h;exact⟨v,h1,by rw[px];exact h2.out hs ox hx⟩
theorem qI {d:Option Tmp} {p:Op} {ty:TypeId} {pos:String} {aft:Array Edge} {g:Option (Nat×Bool)} (hsw:oc ops (i,.read) (x,.kx)=true) (ho:ops[i]?=some ⟨d,p,ty,pos,aft,g⟩) (hg:gd ops N ρ g=true) (h:rD P N ρ w ⟨d,p,ty,pos,aft,g⟩ λv=>Wx P ops Kend x σ N (tm ρ d v) w):Wx P ops Kend x ((i,.read)::σ) N ρ w:=by
 refine⟨λhs ox hx=>AC hs hx ho hsw ?_⟩;rw[sx (pb ops N ρ ⟨d,p,ty,pos,aft,g⟩ hg),oV];obtain⟨v,h1,h2⟩:=h;exact⟨v,h1,by rw[px];exact h2.out hs ox hx⟩
theorem rW {d:Option Tmp} {p:Op} {ty:TypeId} {pos:String} {aft:Array Edge} {g:Option (Nat×Bool)} (ho:ops[i]?=some ⟨d,p,ty,pos,aft,g⟩) (hg:gd ops N ρ g=true) (hnow:Wr P ops Kend ((x,.kx)::(i,.kx)::σ) N ρ w)
  (h:pL P N ρ w ⟨d,p,ty,pos,aft,g⟩ λv w'=>Below w.heap.size w w'/\Wx P ops Kend x σ N (tm ρ d v) w'):Wx P ops Kend x ((i,.kx)::σ) N ρ w:=by
 refine⟨λhs ox hx=>⟨?_,λ_=> ?_⟩⟩
 ·have:=hnow.out;simp only[wr,hx]at this;exact this
 ·rw[ho];show mF _ _ _ _ _ _ _;rw[rz (pb ops N ρ ⟨d,p,ty,pos,aft,g⟩ hg),oV];simp only[px];exact oU (λv w h=>⟨h.1,h.2.out hs ox hx⟩) h.out
theorem yy {m:Md} (hd:rT ops ops.size i x=true) (hnow:Wr P ops Kend ((x,.kx)::(i,m)::σ) N ρ w):Wx P ops Kend x ((i,m)::σ) N ρ w:=by
 refine⟨λhs ox hx=>⟨?_,λq=>by rw[hd]at q;cases q⟩⟩;have:=hnow.out;simp only[wr,hx]at this;exact this
end
end Go.Sx
namespace Go.Proofs.YtoeiejliehgopaaGreatDoor
open Go Go.RowKit Go.Sx
theorem zg (n:Int) (w:World) (h1: -9223372036854775808<=n) (h2:n<=9223372036854775807):
  mb Tryz.prog 38 #[.int .i64 n] w λv w'=>v=lC (ki (n:Rat))/\Below w.heap.size w w':=by
 have hS:=St.init w;refine enter Tryz.func38 rfl Tryz.ntmps38 rfl ?_;refine J1 ?_;intro b1 wz2 hS hBz2;refine J1 ?_;refine jh (kf Tryz.call76 rfl (Rk n _ h1 h2) ?_);rintro _ wc3 ⟨rfl,hBc3⟩;replace hS:=hS.kx hBc3;refine J1 ?_;intro wz4 hS;refine jt ?_;refine mA (k:=0) rfl rfl kt hS rfl rfl ?_;exact⟨rfl,hS.kb⟩
theorem H4 (a:Int) (n:Nat) (w:World) (h1: -9223372036854775808<=a) (h2:a<=9223372036854775807) (hn0:0<n) (hn:n<=9223372036854775807):
  mb Tryz.prog 8 #[.int .i64 a,.int .i64 n] w λv w'=>v=lC (ki (mkRat a n))/\Below w.heap.size w w':=by
 have hS:=St.init w;refine enter Tryz.func8 rfl Tryz.ntmps8 rfl ?_;refine J1 ?_;intro b4 wz1 hS hBz1;refine J2 ?_;refine jh (kf Tryz.call23 rfl (FH a n _ h1 h2 hn0 hn) ?_);rintro _ wc2 ⟨rfl,hBc2⟩;replace hS:=hS.kx hBc2;refine J4 ?_;intro b3 wz4 hS hBz4;refine J1 ?_;intro wz5 hS;refine J3 ?_;intro wz6 hS;refine jt ?_;refine mA (k:=1) rfl rfl kt hS rfl rfl ?_;exact⟨rfl,hS.kb⟩
theorem o6 (m n:Nat):(m:Int).tmod n=((m%n:Nat):Int):=by rw[dQ oO];omega
theorem Kv (m n:Nat):(m:Int).tdiv n=((m/n:Nat):Int):=by rw[Int.tdiv_eq_ediv_of_nonneg oO];omega
theorem BK (m n:Nat) (h:m<65536):IntKind.u16.wrap ((m:Int).tdiv n)=((m/n:Nat):Int):=by
 have:=dx m n;rw[Kv,MY];generalize m/n=q at*;omega
def o9 (x:Nat):Rat:=if x%5=0 then mkRat ((x/5%23:Nat):Int) (1+x/115%6)else if x%5=1 then(((10*(x/5%4):Nat):Int):Rat)else(((x/5%13:Nat):Int):Rat)
theorem FG {n:Nat} (h:n<256):L ((n:Int):Rat)<=1:=by
 unfold L;have h1:(kQ n).size<=1:=lK oO;have h2:(kQ 1).size<=1:=lK oO;exact Nat.max_le.2 ⟨h1,h2⟩
theorem x7 (x:Nat) (w:World) (hx:x<65536):
  mb Tryz.prog 20 #[.int .u16 x] w λv w'=>v=lC (ki (o9 x))/\Below w.heap.size w w':=by
 have hS:=St.init w;refine enter Tryz.func20 rfl Tryz.ntmps20 rfl ?_;refine J1 ?_;intro b2 wz1 hS hBz1;refine J1 ?_;refine jp (pF rfl rfl oO (r:=((x%5:Nat):Int)) (by exact o6 x 5) ?_);refine V2 ?_;by_cases h0:x%5=0
 ·refine V1 ?_;have e:o9 x=mkRat ((x/5%23:Nat):Int) (1+x/115%6):=aj h0;rw[e];refine J1 ?_;refine jp (sf rfl rfl oO (BK x 5 hx) (jp (pF rfl rfl oO (o6 (x/5) 23) (jp (kT rfl Tryz.underlying3 ⟨_,Tryz.underlying25⟩ (r:=((x/5%23:Nat):Int)) (by exact o8 _ ⟨rfl,oO,oO⟩) ?_)))));refine J1 ?_;refine jp (sf rfl rfl oO (BK x 115 hx) (jp (pF rfl rfl oO (o6 (x/115) 6) (jp (kT rfl Tryz.underlying3 ⟨_,Tryz.underlying25⟩ (r:=((x/115%6:Nat):Int)) (by exact o8 _ ⟨rfl,oO,oO⟩) (jp (py rfl rfl (r:=((1+x/115%6:Nat):Int)) (by exact o8 _ ⟨oO,oO,oO⟩) (jh (kf Tryz.call8 rfl (H4 ((x/5%23:Nat):Int) (1+x/115%6) _ oO oO oO oO) ?_)))))))));rintro _ wc2 ⟨rfl,hBc2⟩;replace hS:=hS.kx hBc2;refine J1 ?_;intro wz3 hS;refine jt ?_;refine mA (k:=0) rfl rfl kt hS rfl rfl ?_;exact⟨rfl,hS.kb⟩
 ·refine V3 ?_;by_cases h1:x%5=1
  ·refine V1 ?_;have e:o9 x=(((10*(x/5%4):Nat):Int):Rat):=by unfold o9;rw[ah h0,aj h1]
   rw[e];refine J1 ?_;refine jp (sf rfl rfl oO (BK x 5 hx) (jp (pF rfl rfl oO (o6 (x/5) 4) (jp (kT rfl Tryz.underlying3 ⟨_,Tryz.underlying25⟩ (r:=((x/5%4:Nat):Int)) (by exact o8 _ ⟨rfl,oO,oO⟩) (jp (wF rfl rfl (r:=((10*(x/5%4):Nat):Int)) (by exact o8 _ ⟨oO,oO,oO⟩) (jh (kf Tryz.call38 rfl (zg ((10*(x/5%4):Nat):Int) _ oO oO) ?_)))))))));rintro _ wc4 ⟨rfl,hBc4⟩;replace hS:=hS.kx hBc4;refine J1 ?_;intro wz5 hS;refine jt ?_;refine mA (k:=0) rfl rfl kt hS rfl rfl ?_;exact⟨rfl,hS.kb⟩
  ·refine V1 ?_;have e:o9 x=(((x/5%13:Nat):Int):Rat):=by unfold o9;rw[ah h0,ah h1]
   rw[e];refine J1 ?_;refine jp (sf rfl rfl oO (BK x 5 hx) (jp (pF rfl rfl oO (o6 (x/5) 13) (jp (kT rfl Tryz.underlying3 ⟨_,Tryz.underlying25⟩ (r:=((x/5%13:Nat):Int)) (by exact o8 _ ⟨rfl,oO,oO⟩) (jh (kf Tryz.call38 rfl (zg ((x/5%13:Nat):Int) _ oO oO) ?_)))))));rintro _ wc6 ⟨rfl,hBc6⟩;replace hS:=hS.kx hBc6;refine J1 ?_;intro wz7 hS;refine jt ?_;refine mA (k:=0) rfl rfl kt hS rfl rfl ?_;exact⟨rfl,hS.kb⟩
theorem tD:∀x,(tv x).length=1:=λ_=>rfl
end Go.Proofs.YtoeiejliehgopaaGreatDoor
namespace Go.Sx
open Go Go.RowKit
section
variable {P : Program} {ops : Array Oper}
def yQ (M:List Nat):List Edge->Nat
 | []=>0
 |e::l=>bif Region.binds .any e then(2^e.on|||M.getD e.on 0)|||yQ M l else yQ M l
def xe (i:Nat):List Edge->Bool
 | []=>true
 |e::l=>(!Region.binds .any e||Nat.blt e.on i)&&xe i l
def xL (M:List Nat):List Oper->Nat->Bool
 | [],_=>true
 |o::l,i=>xe i o.after.toList&&Nat.beq (M.getD i 0) (yQ M o.after.toList)&&xL M l (i+1)
theorem EN:∀n i h,rT ops n i h=true->rT ops (n+1) i h=true
 |0,i,h,ht=>by cases ht
 |n+1,i,h,ht=>by
  unfold rT at ht⊢;cases ho:ops[i]?with
  |none=>rw[ho]at ht;cases ht
  |some o=>
   rw[ho]at ht;simp only[iq,bf,dp]at ht⊢;obtain⟨e,he,hb,h1⟩:=ht;exact⟨e,he,hb,h1.imp id (EN n e.on h)⟩
theorem EU {n m i h:Nat} (hnm:n<=m) (ht:rT ops n i h=true):rT ops m i h=true:=by
 induction hnm with
 |refl=>exact ht
 |step _ ih=>exact EN _ _ _ ih
theorem yx {M:List Nat} {h:Nat}:∀ {l:List Edge},(yQ M l).testBit h=true->∃e∈l,Region.binds .any e=true/\(e.on=h\/(M.getD e.on 0).testBit h=true)
 | [],hb=>by simp[yQ]at hb
 |e::l,hb=>by
  unfold yQ at hb;cases hbi:Region.binds .any e with
  |false=>
   rw[hbi]at hb;obtain⟨e',he',h'⟩:=yx hb;exact⟨e',aJ _ he',h'⟩
  |true=>
   rw[hbi]at hb;simp only[cond_true,Nat.testBit_or,dp]at hb;rcases hb with(hb|hb)|hb
   ·rw[Nat.testBit_two_pow]at hb;exact⟨e,aH ..,hbi,.inl (gB hb)⟩
   ·exact⟨e,aH ..,hbi,.inr hb⟩
   ·obtain⟨e',he',h'⟩:=yx hb;exact⟨e',aJ _ he',h'⟩
theorem Ba {i:Nat}:∀ {l:List Edge},xe i l=true->∀e∈l,Region.binds .any e=true->e.on<i
 | [],_,e,he,_=>by cases he
 |x::l,h,e,he,hb=>by
  simp only[xe,bf,dp]at h;rcases bM.1 he with rfl|he
  ·rcases h.1 with q|q
   ·rw[hb]at q;cases q
   ·rwa[gL]at q
  ·exact Ba h.2 e he hb
theorem CC {M:List Nat}:∀ {l:List Oper} {k:Nat},xL M l k=true->∀j o,l[j]?=some o->xe (k+j) o.after.toList=true/\M.getD (k+j) 0=yQ M o.after.toList
 | [],k,_,j,o,ho=>by simp at ho
 |x::l,k,h,j,o,ho=>by
  simp only[xL,bf]at h;cases j with
  |zero=>
   simp only[List.getElem?_cons_zero,gD]at ho;subst ho;exact⟨h.1.1,cF h.1.2⟩
  |succ j=>
   have:=CC h.2 j o (by simpa using ho);rw[show k+(j+1)=k+1+j by omega];exact this
theorem IB {l:List Oper} {M:List Nat} (hM:xL M l 0=true) (hML:M.length=l.length):∀i h,(M.getD i 0).testBit h=true->rT l.toArray (i+1) i h=true:=by
 intro i;induction i using Nat.strongRecOn with
 |_ i ih=>
  intro h hb;have hil:i<l.length:=by
   rcases bH i l.length with q|q
   ·exact q
   ·rw[ak,dj oO]at hb;simp at hb
  have ho:l[i]?=some l[i]:=aF hil;have hat:=CC hM i _ ho;rw[bX]at hat;rw[hat.2]at hb;obtain⟨e,he,hbi,h1⟩:=yx hb;have hlt:=Ba hat.1 e he hbi;unfold rT;rw[i5,ho];simp only[iq,bf,dp];refine⟨e,by simpa using he,hbi,?_⟩;rcases h1 with q|q
  ·exact .inl (by rw[q];exact Nat.beq_refl h)
  ·exact .inr (EU oO (ih e.on hlt h q))
def zx (ops:Array Oper) (M:List Nat):List (Nat×Md)->Bool
 | []=>true
 |i::σ=>(σ.all λj=> !Nat.beq i.1 j.1&&((M.getD j.1 0).testBit i.1||oc ops i j))&&zx ops M σ
theorem y6 {l:List Oper} {M:List Nat} (hM:xL M l 0=true) (hML:M.length=l.length):∀ {σ:List (Nat×Md)},(∀x∈σ,x.1<l.length)->zx l.toArray M σ=true->pf l.toArray l.length σ=true
 | [],_,_=>rfl
 |i::σ,hlt,h=>by
  simp only[zx,bf,cO,dp]at h;simp only[pf,bf,cO,dp];refine⟨λj hj=>⟨(h.1 j hj).1,(h.1 j hj).2.imp (λq=> ?_) id⟩,y6 hM hML (λx hx=>hlt x (aJ _ hx)) h.2⟩;have:=hlt j (aJ _ hj);exact EU oO (IB hM hML _ _ q)
def F2 (l:List Oper) (M:List Nat) (σ:List (Nat×Md)):Bool:=
 Nat.ble σ.length l.length&&(List.range l.length).all (λi=>σ.any λx=>Nat.beq x.1 i)&&σ.all (λx=>Nat.blt x.1 l.length)&&(Nat.beq M.length l.length&&xL M l 0&&zx l.toArray M σ)&&tp l.toArray σ&&
 l.all λo=>match o.op with| .select .. =>false|_=>true
theorem G6 {l:List Oper} {M:List Nat} {σ:List (Nat×Md)} (h:F2 l M σ=true):FY l.toArray σ=true:=by
 simp only[F2,bf]at h;obtain⟨⟨⟨⟨⟨h1,h2⟩,h3⟩,⟨⟨h4,h5⟩,h6⟩⟩,h7⟩,h8⟩:=h;have hs:l.toArray.size=l.length:=by simp
 simp only[FY,bf,hs];refine⟨⟨⟨⟨⟨h1,h2⟩,h3⟩,y6 h5 (cF h4) (λx hx=> ?_) h6⟩,h7⟩,?_⟩
 ·have:=cO.1 h3 x hx;rwa[gL]at this
 ·rw[<-hs,dz];intro x hx;have hx:=cO.1 h8 x (by simpa using hx);cases hop:x.op<;>first|rfl|(rw[hop]at hx;cases hx)
end
section
variable {P : Program} {N : Nat} {ρ : Nat → Value} {w0 w : World} {Q : Exit → Act → World → Prop} {H : List lj}
theorem nk {C:Code} {ρ:Nat->Value} {w:World} (M:(Nat->Value)->Prop) (h0:M ρ) (h:∀ρ,M ρ->C.wp P Q (act N ρ) w):C.wp P Q (act N ρ) w:=h ρ h0
theorem K6 {id:Nat} {l:List Oper} (M:List Nat) (σ:List (Nat×Md)) (hm:P.follows .mixedOrders=true) (hchk:F2 l M σ=true) (hS:St w0 w H)
  (h:∀w',St w0 w' H->Below w.heap.size w w'->Wr P l.toArray (Q .normal) σ N ρ w'):(Code.region id l.toArray true).wp P Q (act N ρ) w:=
 kK σ hm (G6 hchk) hS h
end
open Go Go.RowKit Go.ChangeShapes Go.WideShapes Go.Proofs.YtoeiejliehgopaaGreatDoor
section
variable {H : Type} {enc : TypeId × Value → H} {P : Program} {w : World}
theorem add_add (a:Addr) (m n:Nat):(a.add m).add n=a.add (m+n):=by
 obtain⟨b,o,s⟩:=a;unfold Addr.add;by_cases hn:n=0
 ·subst hn;simp
 ·by_cases hm:m=0
  ·subst hm;simp[hn]
  ·simp[hn,hm,dR]
theorem at_one {a:Addr} {u:Value} (h:w.cell? a=some u):At w a [u]:=At.one h
theorem MU {t e:TypeId} {v:Value} {d:DataW H} {ps:List MemPlace} {b0:Nat} (ht:P.underlying t=some (.slice e)) (he:P.underlying e=some (.int .u16)) (hc:P.cellsOf e=1)
  (hval:Value.okWide P w .any b0 t v) (h:DataW.Trod enc P w 0 (λ_=>true) true t v d ps):∃l:List Nat,Sl (uk .u16) 1 w v l/\∀x∈l,x<65536:=by
 obtain⟨a0,len0,cap0,rfl⟩:=okWide_slice ht hval;obtain⟨fuel,hf⟩:=h;rcases open_ints ht he hc hf with⟨h1,_⟩|⟨a,len,cap,zs,h1,_,hlc,hm,hz,_,hcell,hw⟩
 ·simp only[Value.cells,gi,and_true]at h1;rw[h1];exact⟨[],Sl.nil _ _ _,λx hx=>by cases hx⟩
 ·simp only[Value.cells,gi,and_true]at h1;rw[h1];have hzl:zs.length=cap:=by simpa using hz
  have hb:∀n∈zs,0<=n/\n<=65535:=λn hn=>bounds_u16 (hw n hn);have hl:((zs.take len).map Int.toNat).length=len:=by rw[bj,dm];omega
  refine⟨(zs.take len).map Int.toNat,⟨⟨some a,cap,by rw[hl],by rw[hl];exact hlc,hm,λq=>by cases q⟩,λi hi=> ?_⟩,λx hx=> ?_⟩
  ·rw[hl]at hi;have hi2:i<zs.length:=oO;have h2:=hcell i hi2;have h3:zs.getD i 0=zs[i]:=by rw[ak,aF hi2];rfl
   have h4:=hb _ (fJ hi2);rw[eN];refine at_one ?_;show w.cell? (a.add i)=_;rw[h2,h3,ew,iz,fG h4.1]
  ·obtain⟨z,hz2,rfl⟩:=ca.1 hx;have:=hb z (gT hz2);omega
theorem E1 (hl:laidOutB P=true) {w':World} (hb:Below w.heap.size w w'):∀ {ts:List TypeId} {vs:List Value} {ds:List (DataW H)} {ps:List MemPlace},(∀t∈ts,P.readableRec t=true/\t<P.types.size)->(∀x∈ps,x.block<w.heap.size)->
  DataW.TrodAll enc P w 0 (λ_=>true) true ts vs ds ps->DataW.TrodAll enc P w' 0 (λb=>decide (b<w.heap.size)) true ts vs ds ps
 | [],[],[],_,_,_,h=>h
 |t::ts,v::vs,d::ds,ps,hT,hlt,⟨p,q,h1,h2,e⟩=>by
  subst e;exact⟨p,q,Below.trod hl (hT t (aH ..)).1 (hT t (aH ..)).2 h1 hb (λx hx=>hlt x (gU _ hx)),
   E1 hl hb (λt ht=>hT t (aJ _ ht)) (λx hx=>hlt x (i3 _ hx)) h2,rfl⟩
 | [],[],_::_,_,_,_,h=>h.elim
 | [],_::_,[],_,_,_,h=>h.elim
 | [],_::_,_::_,_,_,_,h=>h.elim
 |_::_,[],[],_,_,_,h=>h.elim
 |_::_,[],_::_,_,_,_,h=>h.elim
 |_::_,_::_,[],_,_,_,h=>h.elim
theorem O9 {f:Func} {s:ChangeSpec} {w':World} {args:Array Value} {v:Value} {ds gs:List (DataW H)} {before:List MemPlace} (hl:laidOutB P=true)
  (hW:DataW.Whole enc P f.params.toList s.vars false w args.toList ds gs before) (hT:∀t∈f.params.toList,P.readableRec t=true/\t<P.types.size) (hv:s.vars=[]) (hb:Below w.heap.size w w')
  (hres:DataW.TrodAll enc P w' w.heap.size (λ_=>false) false f.resultTypes.toList (v.resultList f.resultTypes.size) (s.fn H (ds++gs)).results []) (hargs:(s.fn H (ds++gs)).args=ds) (hvars:(s.fn H (ds++gs)).vars=[]):
  s.post enc P f false true false false w args v w':=by
 have hlt:∀x∈before,x.block<w.heap.size:=λx hx=>hW.lt x hx;have hW2:=hW;obtain⟨p,q,h1,h2,rfl,_,_⟩:=hW;rw[hv]at h2;obtain⟨rfl,rfl⟩:=trodVars_none h2;rw[aK]at hlt;refine⟨ds,[],_,[],p,[],hW2,hres,?_,?_,hb.frame _,λq=>by cases q⟩
 ·rw[hargs];exact E1 hl hb hT hlt h1
 ·rw[hvars,hv];exact rfl
end
end Go.Sx
namespace Go.Proofs.YtoeiejliehgopaaGreatDoor
open Go Go.RowKit Go.Sx Go.ChangeShapes Go.WideShapes Go.ChangeAt
theorem Ry:ownKnob Tryz.prog.godebug=none:=by kernel_rfl
theorem laidOut:laidOutB Tryz.prog=true:=by kernel_rfl
end Go.Proofs.YtoeiejliehgopaaGreatDoor
namespace Go.Sx
open Go Go.RowKit
section
variable {P : Program} {N : Nat} {ρ : Nat → Value} {w0 w w' : World}
  {d : Option Tmp} {ty : TypeId} {pos : String} {aft : Array Edge} {g : Option (Nat × Bool)} {x y z : Operand} {t t' e : TypeId} {H : List lj} {k b o : Nat} {v : Value} {K : Value → Prop} {K2 : Value → World → Prop}
theorem JI {α:Type} {enc:α->List Value} {size:Nat} (hu:∀x,(enc x).length=size) (L:List α) (sp:List Value) (d:α) {i:Nat} (hi:i<L.length):((L.flatMap enc++sp).drop (i*size)).take size=enc (L.getD i d):=by
 have h1:(i+1)*size<=L.length*size:=aI _ hi;rw[bn]at h1;have h2:=lO hu L;rw[fM oO,eZ (by rw[fk];omega)];exact EH hu L d hi
theorem M4 {α:Type} {enc:α->List Value} {size:Nat} (hu:∀x,(enc x).length=size) (L:List α) (sp:List Value) (x:α) {i:Nat} (hi:i<L.length):splice (L.flatMap enc++sp) (i*size) (enc x)=(L.set i x).flatMap enc++sp:=by
 have h1:(i+1)*size<=L.length*size:=aI _ hi;rw[bn]at h1;have h2:=lO hu L;rw[<-xa hu L x hi];unfold splice;rw[eZ oO,fM (by rw[hu];omega)];simp
theorem Df {α:Type} {enc:α->List Value} {size:Nat} {L:List α} {sp:List Value} {i:Nat} {zz:List Value} {agg:Bool} (dd:α) (hu:∀x,(enc x).length=size) (hx:ev N ρ x= .pointer (some ⟨b,o,none⟩)) (ht:mf P t=some (size,agg,zz)) (hS:St w0 w H) (hk:H[k]?=some (b,t',L.flatMap enc++sp))
  (ho:o=i*size) (hi:i<L.length) (hv:QW agg (enc (L.getD i dd))=v) (hagg:agg=true\/size=1) (h:K v):rD P N ρ w ⟨d,.load t x,ty,pos,aft,g⟩ K:=by
 subst ho;have hat:=hS.at hk (i*size) size;rw[JI hu L sp dd hi]at hat;exact oW hx ht hat (hu _) hv hagg h
theorem CA {α:Type} {enc:α->List Value} {size:Nat} {L:List α} {sp:List Value} {i:Nat} {zz:List Value} {agg:Bool} (u:α) (hu:∀x,(enc x).length=size) (hx:ev N ρ x= .pointer (some ⟨b,o,none⟩)) (hy:ev N ρ y=v) (ht:mf P t=some (size,agg,zz)) (hS:St w0 w H) (hk:H[k]?=some (b,t',L.flatMap enc++sp))
  (ho:o=i*size) (hi:i<L.length) (hv:v.cells.toList=enc u) (h1:(enc u).all (·.oneCell')=true)
  (h:∀w',St w0 w' (H.set k (b,t',(L.set i u).flatMap enc++sp))->K2 undef w'):pL P N ρ w ⟨d,.store t x y,ty,pos,aft,g⟩ K2:=by
 subst ho;refine lX hx hy ht hS hk hv (hu u) ?_ h1 (λw' hS'=> ?_)
 ·rw[ax,lO hu];have:(i+1)*size<=L.length*size:=aI _ hi;rw[bn]at this;omega
 ·rw[M4 hu L sp u hi]at hS';exact h w' hS'
theorem nc {a:Addr} (hx:ev N ρ x= .pointer (some a)) (h:K (.pointer (some a))):mx P N ρ ⟨d,.nilCheck x,ty,pos,aft,g⟩ K:=
 ⟨_,λw=>(by simp[execOp,hx]),h⟩
theorem Qj {fn:Fn} (hx:ev N ρ x=v) (h:K (.func fn #[] #[v])):mx P N ρ ⟨d,.makeFunc fn #[] #[x],ty,pos,aft,g⟩ K:=
 ⟨_,λw=>(by simp[execOp,hx,Instr.makeFunc]),h⟩
theorem St.Xa {α:Type} {enc:α->List Value} {size:Nat} {L:List α} {sp:List Value} (h:St w0 w H) (hk:H[k]?=some (b,t,L.flatMap enc++sp)) (hu:∀x,(enc x).length=size) {n cap:Nat} (hn:n<=L.length) (h1:n<=cap) (h2:cap<=9223372036854775807):
  Sl enc size w (.slice (some ⟨b,0,none⟩) n cap) (L.take n):=by
 have hl:(L.take n).length=n:=by rw[dm];omega
 have e:L.flatMap enc++sp=(L.take n).flatMap enc++((L.drop n).flatMap enc++sp):=by
  rw[<-aG,<-du,dc]
 rw[e]at hk;have:=h.sl (enc:=enc) (size:=size) (L:=L.take n) (spare:=(L.drop n).flatMap enc++sp) (cap:=cap) hk rfl hu (by rw[hl];exact h1) (by unfold Go.maxLen;omega);rwa[hl]at this
end
section
variable {α : Type}
def Ab (lt:α->α->Bool) (S:List α) (x:α):List α:=(S.reverse.dropWhile (lt x)).reverse++x::(S.reverse.takeWhile (lt x)).reverse
def tf (lt:α->α->Bool) (L:List α):List α:=L.foldl (Ab lt) []
theorem Hj {lt:α->α->Bool} {A B:List α} {x:α} (hB:∀y∈B,lt x y=true) (hA:∀y,A.getLast?=some y->lt x y=false):Ab lt (A++B) x=A++x::B:=by
 have h1:A.reverse.takeWhile (lt x)=[]/\A.reverse.dropWhile (lt x)=A.reverse:=by
  cases h:A.reverse with
  |nil=>exact⟨rfl,rfl⟩
  |cons y t=>
   have hy:A.getLast?=some y:=by rw[<-List.head?_reverse,h];rfl
   have:=hA y hy;simp[this]
 unfold Ab;rw[jD,List.takeWhile_append_of_pos (λy hy=>hB y (dW.1 hy)),List.dropWhile_append_of_pos (λy hy=>hB y (dW.1 hy)),h1.1,h1.2];simp
theorem JH (lt:α->α->Bool) (L:List α) (x:α):tf lt (L++[x])=Ab lt (tf lt L) x:=by unfold tf;rw[eI];rfl
theorem H6 (lt:α->α->Bool) (S:List α) (x:α):∃A B,S=A++B/\Ab lt S x=A++x::B/\(∀y∈B,lt x y=true)/\∀y,A.getLast?=some y->lt x y=false:=by
 refine⟨(S.reverse.dropWhile (lt x)).reverse,(S.reverse.takeWhile (lt x)).reverse,?_,rfl,λy hy=> ?_,λy hy=> ?_⟩
 ·rw[<-jD,List.takeWhile_append_dropWhile,gS]
 ·rw[dW]at hy;generalize S.reverse=T at hy;induction T with
  |nil=>cases hy
  |cons z T ih=>
   rw[List.takeWhile_cons]at hy;split at hy
   ·next h=>
    rcases bM.1 hy with rfl|hy
    ·exact h
    ·exact ih hy
   ·cases hy
 ·rw[List.getLast?_reverse]at hy;generalize S.reverse=T at hy;induction T with
  |nil=>cases hy
  |cons z T ih=>
   rw[List.dropWhile_cons]at hy;split at hy
   ·exact ih hy
   ·next h=>
    obtain rfl:z=y:=bK hy;exact Bool.eq_false_iff.2 h
theorem Jn (lt:α->α->Bool) (S:List α) (x:α):(Ab lt S x).Perm (x::S):=by
 obtain⟨A,B,rfl,e,_⟩:=H6 lt S x;rw[e];exact List.perm_middle
theorem re (lt:α->α->Bool) (L:List α):(tf lt L).Perm L:=by
 have key:∀(L S:List α),(L.foldl (Ab lt) S).Perm (S++L):=by
  intro L;induction L with
  |nil=>intro S;simp
  |cons x L ih=>
   intro S;rw[List.foldl_cons];refine(ih _).trans ?_;refine((Jn lt S x).append_right L).trans ?_;exact List.perm_middle.symm
 have:=key L [];rwa[ce]at this
theorem AW (lt:α->α->Bool) (L:List α):(tf lt L).length=L.length:=(re lt L).length_eq
end
end Go.Sx
namespace Go.Proofs.YtoeiejliehgopaaGreatDoor
open Go Go.RowKit Go.Sx
theorem N1 (p q:Rat) (X Y:Nat):mkRat (sg (decide (p.num<0)!=decide (q.num<0)) X) Y=mkRat (sg (decide (p.num<0)) 1*sg (decide (q.num<0)) 1*X) Y:=by
 congr 1;by_cases h1:p.num<0<;>by_cases h2:q.num<0<;>simp[h1,h2,sg]
theorem Gf (n:Int):sg (decide (n<0)) 1*(n.natAbs:Int)=n:=by
 by_cases h:n<0
 ·simp[h,sg];omega
 ·simp[h,sg];omega
theorem Rp (p q:Rat):mkRat (sg (decide (p.num<0)!=decide (q.num<0)) (p.num.natAbs*q.num.natAbs)) (p.den*q.den)=p*q:=by
 rw[N1];have e:sg (decide (p.num<0)) 1*sg (decide (q.num<0)) 1*((p.num.natAbs*q.num.natAbs:Nat):Int)=p.num*q.num:=by
  have h1:=Gf p.num;have h2:=Gf q.num;calc _=(sg (decide (p.num<0)) 1*(p.num.natAbs:Int))*(sg (decide (q.num<0)) 1*(q.num.natAbs:Int)):=by push_cast;grind
   _=_:=by rw[h1,h2]
 rw[e];conv=>rhs;rw[<-eE p,<-eE q]
 exact(Rat.mkRat_mul_mkRat _ _ _ _).symm
theorem Q1 (p q:Rat):mkRat (sg (decide (p.num<0)!=decide (q.num<0)) (p.num.natAbs*q.den)) (p.den*q.num.natAbs)=p/q:=by
 by_cases hq:q=0
 ·subst hq;simp[Rat.mkRat_zero,bT]
 have hqn:q.num.natAbs≠0:=λh=>hq (fy.1 (jK.1 h));have key:mkRat (sg (decide (p.num<0)!=decide (q.num<0)) (p.num.natAbs*q.den)) (p.den*q.num.natAbs)*q=p:=by
  rw[N1];conv=>lhs;rhs;rw[<-eE q]
  rw[Rat.mkRat_mul_mkRat];have h1:=Gf p.num;have h2:=Gf q.num;have hs:sg (decide (q.num<0)) 1*sg (decide (q.num<0)) 1=1:=by
   by_cases h:q.num<0<;>simp[h,sg]
  have e:sg (decide (p.num<0)) 1*sg (decide (q.num<0)) 1*((p.num.natAbs*q.den:Nat):Int)*q.num=p.num*((q.num.natAbs*q.den:Nat):Int):=by
   calc _=(sg (decide (p.num<0)) 1*(p.num.natAbs:Int))*(sg (decide (q.num<0)) 1*q.num*(q.den:Int)):=by push_cast;grind
    _=p.num*(sg (decide (q.num<0)) 1*(sg (decide (q.num<0)) 1*(q.num.natAbs:Int))*(q.den:Int)):=by rw[h1,h2]
    _=p.num*((sg (decide (q.num<0)) 1*sg (decide (q.num<0)) 1)*(q.num.natAbs:Int)*(q.den:Int)):=by grind
    _=_:=by rw[hs];push_cast;grind
  rw[e,ba];have:=jA (n:=p.num) (d:=p.den) (a:=q.num.natAbs*q.den) (gf hqn q.den_nz);rw[this,eE]
 rw[<-key,bT,iD,bW _ hq,fg,key]
theorem qF (r s:RR) (w:World) (hr:Lr r+Lr s<=MX):
  mb Tryz.prog 11 #[lC r,lC s] w λv w'=>v=lC (ki (toQ r*toQ s))/\Below w.heap.size w w':=by
 have hM:MX=1099511627776:=rfl;have hL1:=uM r;have hL2:=uM s;obtain⟨p,hp⟩:=jz (toQ r);obtain⟨q,hq⟩:=jz (toQ s);have hc1:=λw=>om r w (show Lr r<=MX by omega);have hc2:=λw=>om s w (show Lr s<=MX by omega);unfold fx at hc1 hc2;rw[<-hp]at hL1 hc1⊢;rw[<-hq]at hL2 hc2⊢;have hn1:=uf p;have hn2:=uf q;have hd1:=tB p;have hd2:=tB q;have hm1:=lY p.num.natAbs q.num.natAbs;have hm2:=lY p.den q.den;have hD2:val (kQ (p.den*q.den))≠0:=by rw[lF];exact gf p.den_nz q.den_nz
 have hred:=λw=>sF (decide (p.num<0)!=decide (q.num<0)) (kQ (p.num.natAbs*q.num.natAbs)) (kQ (p.den*q.den)) w oO oO hD2;rw[lF,lF,Rp]at hred;have hS:=St.init w;refine enter Tryz.func11 rfl Tryz.ntmps11 rfl ?_;refine jr ?_;refine jh (lx (new:=ke r) rfl rfl hS ?_);intro b1 wz2 hS hBz2;refine jh (lx (new:=ke s) rfl rfl hS ?_);intro b3 wz4 hS hBz4;refine J1 ?_;intro b5 wz6 hS hBz6;refine ja ?_;refine kK [ju 0,ju 2,jv 1,jv 3,jw 4,jw 5] kR kR hS ?_;intro wz7 hS hBz7;refine J2 ?_;refine jn rfl (kf Tryz.call28 rfl (hc1 _) ?_);rintro _ wc8 ⟨rfl,hBc8⟩;replace hS:=hS.kx hBc8;refine⟨hBc8,?_⟩;refine jn rfl (kf Tryz.call28 rfl (hc2 _) ?_);rintro _ wc9 ⟨rfl,hBc9⟩;replace hS:=hS.kx hBc9;refine⟨hBc9,?_⟩;refine J1 ?_;intro wz10 hS;refine J1 ?_;intro wz11 hS;refine ja ?_;refine kK [jo 0,ju 1,jo 2,ju 3,jo 4,jo 5,ju 6,jo 7,ju 8,ju 10,ju 12,jv 9,jv 11,jv 13,jv 14,jv 15,jw 16] kR kR hS ?_;intro wz12 hS hBz12;refine J4 ?_;refine jl rfl (Dg rfl rfl Tryz.underlying4 ?_);refine J6 ?_;refine jn rfl (kf Tryz.call30 rfl (wK p.num.natAbs q.num.natAbs _ oO oO) ?_);rintro _ wc13 ⟨rfl,hBc13⟩;replace hS:=hS.kx hBc13;refine⟨hBc13,?_⟩;refine jn rfl (kf Tryz.call31 rfl (t7 p _) ?_);rintro _ wc14 ⟨rfl,hBc14⟩;replace hS:=hS.kx hBc14;refine⟨hBc14,?_⟩;refine jn rfl (kf Tryz.call31 rfl (t7 q _) ?_);rintro _ wc15 ⟨rfl,hBc15⟩;replace hS:=hS.kx hBc15;refine⟨hBc15,?_⟩;refine jn rfl (kf Tryz.call30 rfl (wK p.den q.den _ oO oO) ?_);rintro _ wc16 ⟨rfl,hBc16⟩;replace hS:=hS.kx hBc16;refine⟨hBc16,?_⟩;refine jn rfl (kf Tryz.call29 rfl (hred _) ?_);rintro _ wc17 ⟨rfl,hBc17⟩;replace hS:=hS.kx hBc17;refine⟨hBc17,?_⟩;refine J1 ?_;intro wz18 hS;refine jt ?_;refine mA (k:=0) rfl rfl kt hS rfl rfl ?_;exact⟨rfl,hS.kb⟩
theorem Iv (b:Bool) (num den:ByteArray) (w:World) (hn:num.size<=2*MX) (hd:den.size<=2*MX) (h0:val den≠0):
  mb Tryz.prog 146 #[.bool b,.string num,.string den] w λv w'=>v= .tuple #[lC (ki (mkRat (sg b (val num)) (val den))),.bool true]/\Below w.heap.size w w':=by
 have hM:MX=1099511627776:=rfl;have hS:=St.init w;refine enter Tryz.func146 rfl Tryz.ntmps146 rfl ?_;refine J1 ?_;intro b1 wz2 hS hBz2;refine J2 ?_;refine jh (kf Tryz.call66 rfl (nH _ _ (show den.size<=_ by omega)) ?_);rintro _ wq3 ⟨rfl,hq3⟩;replace hq3:=hq3.symm;subst hq3;refine jp (qk rfl rfl ?_);refine ja ?_;refine lH rfl (ae (λh=>h0 (oA.1 h))) ?_;refine J3 ?_;refine jh (kf Tryz.call29 rfl (sF b num den _ hn hd h0) ?_);rintro _ wc4 ⟨rfl,hBc4⟩;replace hS:=hS.kx hBc4;refine J1 ?_;intro wz5 hS;refine J1 ?_;refine jt ?_;refine nG (k:=0) rfl rfl rfl kt hS rfl rfl ?_;exact⟨rfl,hS.kb⟩
theorem we (r s:RR) (w:World) (hr:Lr r+Lr s<=MX) (hs:toQ s≠0):
  mb Tryz.prog 108 #[lC r,lC s] w λv w'=>v= .tuple #[lC (ki (toQ r/toQ s)),.bool true]/\Below w.heap.size w w':=by
 have hM:MX=1099511627776:=rfl;have hL1:=uM r;have hL2:=uM s;obtain⟨p,hp⟩:=jz (toQ r);obtain⟨q,hq⟩:=jz (toQ s);have hc1:=λw=>om r w (show Lr r<=MX by omega);have hc2:=λw=>om s w (show Lr s<=MX by omega);unfold fx at hc1 hc2;rw[<-hp]at hL1 hc1⊢;rw[<-hq]at hL2 hc2 hs⊢;have hn1:=uf p;have hn2:=uf q;have hd1:=tB p;have hd2:=tB q;have hm1:=lY p.num.natAbs q.den;have hm2:=lY p.den q.num.natAbs;have hqn:q.num.natAbs≠0:=λh=>hs (fy.1 (jK.1 h));have hD2:val (kQ (p.den*q.num.natAbs))≠0:=by rw[lF];exact gf p.den_nz hqn
 have hred:=λw=>Iv (decide (p.num<0)!=decide (q.num<0)) (kQ (p.num.natAbs*q.den)) (kQ (p.den*q.num.natAbs)) w oO oO hD2;rw[lF,lF,Q1]at hred;have hS:=St.init w;refine enter Tryz.func108 rfl Tryz.ntmps108 rfl ?_;refine jr ?_;refine jh (lx (new:=ke r) rfl rfl hS ?_);intro b1 wz2 hS hBz2;refine jh (lx (new:=ke s) rfl rfl hS ?_);intro b3 wz4 hS hBz4;refine J1 ?_;intro b5 wz6 hS hBz6;refine V1 ?_;refine kK [ju 0,ju 2,jv 1,jv 3,jw 4,jw 5] kR kR hS ?_;intro wz7 hS hBz7;refine J2 ?_;refine jn rfl (kf Tryz.call28 rfl (hc1 _) ?_);rintro _ wc8 ⟨rfl,hBc8⟩;replace hS:=hS.kx hBc8;refine⟨hBc8,?_⟩;refine jn rfl (kf Tryz.call28 rfl (hc2 _) ?_);rintro _ wc9 ⟨rfl,hBc9⟩;replace hS:=hS.kx hBc9;refine⟨hBc9,?_⟩;refine J1 ?_;intro wz10 hS;refine J1 ?_;intro wz11 hS;refine ja ?_;refine kK [jo 0,ju 1,jo 2,ju 3,jo 4,jo 5,ju 6,ju 7,ju 10,jo 12,ju 13,jv 8,jv 9,jv 11,jv 14,jv 15,jo 16,jo 17,jw 18,jo 19] kR kR hS ?_;intro wz12 hS hBz12;refine J4 ?_;refine jl rfl (Dg rfl rfl Tryz.underlying4 ?_);refine J6 ?_;refine jn rfl (kf Tryz.call31 rfl (t7 q _) ?_);rintro _ wc13 ⟨rfl,hBc13⟩;replace hS:=hS.kx hBc13;refine⟨hBc13,?_⟩;refine jn rfl (kf Tryz.call30 rfl (wK p.num.natAbs q.den _ oO oO) ?_);rintro _ wc14 ⟨rfl,hBc14⟩;replace hS:=hS.kx hBc14;refine⟨hBc14,?_⟩;refine jn rfl (kf Tryz.call31 rfl (t7 p _) ?_);rintro _ wc15 ⟨rfl,hBc15⟩;replace hS:=hS.kx hBc15;refine⟨hBc15,?_⟩;refine jn rfl (kf Tryz.call30 rfl (wK p.den q.num.natAbs _ oO oO) ?_);rintro _ wc16 ⟨rfl,hBc16⟩;replace hS:=hS.kx hBc16;refine⟨hBc16,?_⟩;refine jn rfl (kf Tryz.call146 rfl (hred _) ?_);rintro _ wc17 ⟨rfl,hBc17⟩;replace hS:=hS.kx hBc17;refine⟨hBc17,?_⟩;refine J3 ?_;intro wz18 hS;refine J1 ?_;refine jt ?_;refine nG (k:=0) rfl rfl rfl kt hS rfl rfl ?_;exact⟨rfl,hS.kb⟩
theorem yz (r:RR) (w:World) (hr:Lr r<=MX):
  mb Tryz.prog 105 #[lC r] w λv w'=>v=lC (ki (-toQ r))/\Below w.heap.size w w':=by
 have hc1:=λw=>om r w hr;unfold fx at hc1;have hS:=St.init w;refine enter Tryz.func105 rfl Tryz.ntmps105 rfl ?_;refine jr ?_;refine jh (lx (new:=ke r) rfl rfl hS ?_);intro b1 wz2 hS hBz2;refine J1 ?_;intro b3 wz4 hS hBz4;refine J1 ?_;refine jh (kf Tryz.call28 rfl (hc1 _) ?_);rintro _ wc5 ⟨rfl,hBc5⟩;replace hS:=hS.kx hBc5;refine jh (kf Tryz.call37 rfl (ES (toQ r) _) ?_);rintro _ wc6 ⟨rfl,hBc6⟩;replace hS:=hS.kx hBc6;refine J1 ?_;intro wz7 hS;refine jt ?_;refine mA (k:=0) rfl rfl kt hS rfl rfl ?_;exact⟨rfl,hS.kb⟩
end Go.Proofs.YtoeiejliehgopaaGreatDoor
namespace Go.Sx
open Go Go.RowKit
theorem Sl.flat {w:World} {α:Type} {enc:α->List Value} {size:Nat} {v:Value} {L:List α} (h:Sl enc size w v L) (hu:∀x,(enc x).length=size) (hs:0<size):At w (t6 v) (L.flatMap enc):=by
 intro j u hj;have hlt:j<L.length*size:=by
  have:=(dw.1 hj).1;rwa[lO hu]at this
 have hi:j/size<L.length:=(iY hs).2 hlt;have hr:j%size<size:=bl _ hs;have e:j/size*size+j%size=j:=by rw[bF];exact cI _ _
 have h2:=flat_get hu L (j/size) (j%size) hi hr;rw[e,hj]at h2;have h3:=h.elt (j/size) hi (j%size) u h2.symm;rwa[zp _ _ _ (h.spot hu hs (bZ (aw _) hi)),e]at h3
section
variable {P : Program} {N : Nat} {ρ : Nat → Value} {w0 w w' : World} {d : Option Tmp} {ty : TypeId} {pos : String} {aft : Array Edge} {g : Option (Nat × Bool)} {x y z : Operand} {t t' e : TypeId} {H L : List lj} {b : Nat} {cs : List Value} {v : Value} {K : Value → Prop} {K2 : Value → World → Prop}
theorem BY {a:Option Addr} {n c:Nat} (hx:ev N ρ x= .slice a n c) (hy:ev N ρ y= .slice none 0 0) (ht:∃e,P.underlying t=some (.slice e)) (h:K (.bool a.isNone)):mx P N ρ ⟨d,.binOp .eql t x y t',ty,pos,aft,g⟩ K:=by
 obtain⟨e,ht⟩:=ht;refine⟨.bool a.isNone,λw=> ?_,h⟩;have h2:(binOp .eql t (.slice a n c) (.slice none 0 0)).run P w= .ok (.bool a.isNone) w:=by
  have h4:∀k,(Op.equalIn (k+1) t (.slice a n c) (.slice none 0 0)).run P w= .ok a.isNone w:=λk=>by cases a<;>simp[Op.equalIn,cS ht]
  have h3:=h4 9999;simp only[binOp];simp[Op.equal,Op.maxDepth,h3]
 simp only[execOp,hx,hy,dI];have h1:(eqGuard .eql t x y (.slice a n c) (.slice none 0 0)).run P w= .ok () w:=rfl;rw[h1,dk,h2,dk];rfl
theorem Ow {sz by_:Nat} {zz:List Value} (ht:sinfo P t=some (e,sz,by_,zz)) (hS:St w0 w H)
  (h:∀b w',St w0 w' ((b,e,[])::H)->Below w.heap.size w w'->K2 (.slice (some ⟨b,0,none⟩) 0 0) w'):
  pL P N ρ w ⟨d,.buildSlice t 0 #[],ty,pos,aft,g⟩ K2:=by
 obtain⟨hu,ii,zv,hi1,hz,hsz,hby,hcz,hzl⟩:=mU ht;have hr:(Instr.buildSlice t 0 #[]).run P w= .ok (.slice (some ⟨w.heap.size,0,none⟩) 0 0) (w.alloc (.cells #[] e)):=by
  simp[Instr.buildSlice,cS hu,sizeOf,typeInfo,hi1,newRow,Instr.fill];rw[show Array.range 0= #[]from Array.eq_empty_of_size_eq_zero (by simp)];simp
 refine ow ?_ (h w.heap.size _ (hS.alloc [] e) (qt w _));have hp:((#[]:Array (Nat×Operand)).map λ(i,x)=>(i,ev N ρ x))= #[]:=by simp
 simp only[execOp,hp,dI,hr,dk];rfl
theorem FL {α:Type} {enc:α->List Value} {size bytes:Nat} {zz:List Value} {X Y:List α} {xv:Value} (hx:ev N ρ x=v) (hy:ev N ρ y=xv) (ht:sinfo P t=some (e,size,bytes,zz)) (hsz:0<size)
  (hG:Gl enc e size v X L) (hS:St w0 w (H++L)) (hY:Sl enc size w xv Y) (hu:∀x,(enc x).length=size) (h1:∀u∈Y.flatMap enc,u.oneCell'=true)
  (h63:X.length+Y.length<=9223372036854775807) (hb:(X.length+Y.length)*bytes<=140737488355328)
  (h:∀v' L' w',Gl enc e size v' (X++Y) L'->St w0 w' (H++L')->w.heap.size<=w'.heap.size->((∀i,i<w.heap.size->v.ownBlock≠some i->w'.heap[i]?=w.heap[i]?))->K2 v' w'):
  pL P N ρ w ⟨d,.call ⟨.builtin .append,#[x,y],#[t,t]⟩,ty,pos,aft,g⟩ K2:=by
 obtain⟨ad,c,hxv,hc1,hc2,hn⟩:=hY.form;cases ad with
 |some ad=>
  have hat:=hY.flat hu hsz;rw[hxv]at hat;refine Tg (H:=H) hx hy ht hsz hG (hS.perm ay) hxv (by rw[lO hu]) hat h1 h63 hb (λv' L' w' hG' hS' hun hge=> ?_);refine h v' L' w' ?_ (hS'.perm ay) hge hun;unfold Gl;rw[ax,du];exact hG'
 |none=>
  have hc0:=hn rfl;obtain rfl:Y=[]:=cB oO;subst hc0;obtain⟨hus,ii,zv,hi1,hz,hsize,hby,hcz,hzl⟩:=mU ht;have hr:(Builtin.append_ #[t,t] ty #[v,.slice none 0 0]).run P w= .ok v w:=by
   obtain⟨_,⟨rfl,_,_⟩|⟨b',cap',sp',rfl,_,g1,_,_⟩⟩:=hG
   ·simp[Builtin.append_,cS hus,sizeOf,typeInfo,hi1,Builtin.lenOf,Builtin.firstCells]
   ·simp[Builtin.append_,cS hus,sizeOf,typeInfo,hi1,Builtin.lenOf,Builtin.firstCells,g1,storeCells]
  refine ow ?_ (h v L w (by rw[aK];exact hG) hS (aB _) (λ_ _ _=>rfl));rw[hxv]at hy;have hy':ev N ρ y= .slice none 0 0:=hy;simp[execOp,resolve,invoke,builtin,hx,hy',hr]
theorem Cg {α:Type} {enc:α->List Value} {size bytes:Nat} {zz:List Value} {Y:List α} {xv:Value} (hx:ev N ρ x= .slice none 0 0) (hy:ev N ρ y=xv) (ht:sinfo P t=some (e,size,bytes,zz)) (hsz:0<size)
  (hS:St w0 w H) (hY:Sl enc size w xv Y) (hu:∀x,(enc x).length=size) (h1:∀u∈Y.flatMap enc,u.oneCell'=true)
  (h63:Y.length<=9223372036854775807) (hb:Y.length*bytes<=140737488355328)
  (h:∀v' L' w',Gl enc e size v' Y L'->St w0 w' (H++L')->Below w.heap.size w w'->K2 v' w'):
  pL P N ρ w ⟨d,.call ⟨.builtin .append,#[x,y],#[t,t]⟩,ty,pos,aft,g⟩ K2:=by
 refine FL (H:=H) (L:=[]) (X:=[]) hx hy ht hsz (Gl.nil enc e size) (by rw[aK];exact hS) hY hu h1 (by rw[gh];omega) (by rw[gh,bX];exact hb) (λv' L' w' hG' hS' hge hun=> ?_);rw[ce]at hG';exact h v' L' w' hG' hS' ⟨hS'.kb.os.trans hS.kb.os.symm,hS'.kb.tape.trans hS.kb.tape.symm,hS'.kb.output.trans hS.kb.output.symm,hge,λk hk=>hun k hk (by simp[Value.ownBlock])⟩
end
section
variable {P : Program} {N : Nat} {ρ : Nat → Value} {w0 w : World} {H : List lj} {k b : Nat} {t : TypeId} {cs : List Value}
theorem Aq {fn:Func} {p u:Tmp} {ty:TypeId} (h:fn.results= #[.tmp u,.cell p ty]) (tmps:Array Value) (P:Program) (w:World):
  (results fn tmps).run P w=
   ((asAddr (tmps.getD p undef)).run P w).andThen λa w₁=>((loadVar ty a).run P w₁).andThen λv w₂=> .ok (.tuple #[tmps.getD u undef,v]) w₂:=by
 simp only[results,h];simp[dI,Result.andThen]
theorem tY {fn:Func} {p u n:Nat} {ty:TypeId} {zz:List Value} {y:Value} {R:Value->World->Prop} (hr:fn.results= #[.tmp u,.cell p ty]) (hp:ev N ρ (.tmp p)= .pointer (some ⟨b,0,none⟩)) (hy:ev N ρ (.tmp u)=y) (ht:mf P ty=some (n,true,zz))
  (hS:St w0 w H) (hk:H[k]?=some (b,t,cs)) (hn:cs.length=n) (h:R (.tuple #[y,.agg cs.toArray]) w):
  bodyPost P fn (λe w'=>∃v,e= .returned v/\R v w') .ret (act N ρ) w:=by
 refine gH (v:= .tuple #[y,.agg cs.toArray]) ?_ rfl ⟨_,rfl,h⟩;rw[Aq hr,ot,ot,hp,hy];have hl:=hS.loadVar hk ht hn;simp only[asAddr,iu,dk];rw[hl];simp[Result.andThen]
end
section
variable {P : Program} {ops : Array Oper} {Kend : Act → World → Prop}
def uY (ops:Array Oper) (U:List (Nat×Md)) (i:Nat):Bool:=match ops[i]?with
 |some o=>o.after.all λe=> !Region.binds .any e|| !(U.any λy=>Nat.beq y.1 e.on)
 |none=>false
def del (U:List (Nat×Md)) (i:Nat):List (Nat×Md):=U.filter λy=> !Nat.beq y.1 i
theorem qY {U:List (Nat×Md)} {i:Nat} {y:Nat×Md}:y∈del U i↔y∈U/\y.1≠i:=by
 unfold del;rw[dS];constructor
 ·rintro⟨h1,h2⟩;refine⟨h1,λe=> ?_⟩;rw[e]at h2;simp at h2
 ·rintro⟨h1,h2⟩;refine⟨h1,?_⟩;rw[fR];cases hb:Nat.beq y.1 i with
  |false=>rfl
  |true=>exact absurd (cF hb) h2
theorem PQ (U:List (Nat×Md)) (i j:Nat):del (del U i) j=del (del U j) i:=by
 unfold del;rw[List.filter_filter,List.filter_filter];congr 1;funext y;exact Bool.and_comm _ _
theorem GU {U V:List (Nat×Md)} (h:∀y∈V,y∈U) {i:Nat} (hr:uY ops U i=true):uY ops V i=true:=by
 unfold uY at*;cases ho:ops[i]?with
 |none=>rw[ho]at hr;cases hr
 |some o=>
  rw[ho]at hr;simp only at hr⊢;rw[dz]at hr⊢;intro e he;have:=hr e he;rw[dp]at this⊢;rcases this with q|q
  ·exact .inl q
  ·right;rw[fR]at q⊢;rw[gF]at q⊢;exact λy hy=>q y (h y hy)
theorem Dv {U:List (Nat×Md)} {i:Nat} (hr:uY ops U i=true):∃o,ops[i]?=some o/\∀e∈o.after,Region.binds .any e=true->∀y∈U,y.1≠e.on:=by
 unfold uY at hr;cases ho:ops[i]?with
 |none=>rw[ho]at hr;cases hr
 |some o=>
  rw[ho]at hr;simp only at hr;rw[dz]at hr;refine⟨o,rfl,λe he hb y hy q=> ?_⟩;have:=hr e he;rw[hb,iG,iH,fR,gF]at this;exact this y hy (by rw[q];simp)
def IW (P:Program) (ops:Array Oper) (Kend:Act->World->Prop):Nat->List (Nat×Md)->Act->World->Prop
 |0,U,a,w=>U=[]/\Kend a w
 |n+1,U,a,w=>(U=[]->Kend a w)/\∀x∈U,uY ops U x.1=true->∃o,ops[x.1]?=some o/\mF P ops x.2 o a w (IW P ops Kend n (del U x.1))
def K9 (ops:Array Oper):Bool:=(List.range ops.size).all λi=>match ops[i]?with
 |some o=>o.after.all λe=> !Region.binds .any e||Nat.blt e.on i
 |none=>true
theorem Po (h:K9 ops=true) {i:Nat} {o:Oper} (hi:ops[i]?=some o):∀e∈o.after,Region.binds .any e=true->e.on<i:=by
 intro e he hb;have hlt:i<ops.size:=by
  rcases bH i ops.size with q|q
  ·exact q
  ·rw[gG q]at hi;cases hi
 have:=cO.1 h i (cZ.2 hlt);rw[hi]at this;have:=dz.1 this e he;rw[hb,iG,iH,gL]at this;exact this
theorem Uv (hlow:K9 ops=true) {U:List (Nat×Md)} (hU:∀y∈U,y.1<ops.size):∀k m,(k,m)∈U->∃x∈U,uY ops U x.1=true:=by
 intro k;induction k using Nat.strongRecOn with
 |_ k ih=>
  intro m hm;by_cases hr:uY ops U k=true
  ·exact⟨_,hm,hr⟩
  ·have hk:=hU _ hm;have ho:ops[k]?=some ops[k]:=Array.getElem?_eq_getElem hk;unfold uY at hr;rw[ho]at hr;simp only at hr;rw[dz]at hr;have:∃e∈ops[k].after,¬(!Region.binds .any e|| !(U.any λy=>Nat.beq y.1 e.on))=true:=by
    refine Classical.byContradiction λhc=>hr λe he=> ?_;exact Classical.byContradiction λhn=>hc ⟨e,he,hn⟩
   obtain⟨e,he,hn⟩:=this;rw[dp,not_or]at hn;obtain⟨h1,h2⟩:=hn;have hb:Region.binds .any e=true:=by simpa using h1
   have h3:(U.any λy=>Nat.beq y.1 e.on)=true:=by simpa using h2
   obtain⟨y,hy,hyb⟩:=dB.1 h3;have hye:=cF hyb;obtain⟨y1,y2⟩:=y;simp only at hye;exact ih y1 (by rw[hye];exact Po hlow ho e he hb) y2 hy
theorem DR {Q:Exit->Act->World->Prop} (hQ:∀a w,Kend a w->Q .normal a w) (hlow:K9 ops=true):
  ∀(n:Nat) (U:List (Nat×Md)) (listed:Array Bool) (a:Act) (w:World),listed.size=ops.size->(∀i,listed.getD i true=false↔∃m,(i,m)∈U)->(∀y∈U,y.1<ops.size)->IW P ops Kend n U a w->wpAny P .any ops Q n listed a w:=by
 intro n;induction n with
 |zero=>
  intro U listed a w _ hl _ h;obtain⟨rfl,h⟩:=h;refine⟨gQ.2 λi hi=> ?_,hQ _ _ h⟩;obtain⟨m,hm⟩:=(hl i).1 (iw.1 hi).1;cases hm
 |succ n ih=>
  intro U listed a w hsz hl hU h;obtain⟨h1,h2⟩:=h;have hrd:∀i,listed.getD i true=false->(∀(o:Oper),ops[i]?=some o->∀e∈o.after,Region.binds .any e=true->listed.getD e.on false=true)->(∃o,ops[i]?=some o)->uY ops U i=true:=by
   rintro i _ hd ⟨o,ho⟩;unfold uY;rw[ho];simp only;rw[dz];intro e he;cases hb:Region.binds .any e with
   |false=>rfl
   |true=>
    rw[iG,iH,fR,gF];intro y hy hyb;have hye:=cF hyb;have h3:=hd o ho e he hb;have h4:=(hl y.1).2 ⟨y.2,hy⟩;rw[hye]at h4;rcases bH e.on listed.size with q|q
    ·simp only[Array.getD,q,gq]at h3 h4;rw[h3]at h4;cases h4
    ·simp[Array.getD,gm.2 q]at h3
  refine⟨λhr=> ?_,λi hi=> ?_⟩
  ·refine hQ _ _ (h1 (gQ.2 λx hx=> ?_));obtain⟨y,hy,hyr⟩:=Uv hlow hU x.1 x.2 hx;obtain⟨o,ho,hd⟩:=Dv hyr;have:y.1∈Region.ready .any ops listed:=iw.2 ⟨(hl y.1).2 ⟨y.2,hy⟩,o,ho,λe he hb=>by
    have hne:=hd e he hb;have hlt:e.on<listed.size:=by
     have:=Po hlow ho e he hb;have:=hU y hy;omega
    have h5:¬listed.getD e.on true=false:=λg=>by
     obtain⟨m,hm⟩:=(hl e.on).1 g;exact hne _ hm rfl
    simp only[Array.getD,hlt,gq]at h5⊢;simpa using h5⟩
   rw[hr]at this;cases this
  ·obtain⟨hun,oi,hoi,hdeps⟩:=iw.1 hi;obtain⟨m,hm⟩:=(hl i).1 hun;have hr:=hrd i hun (λo ho=>by rw[hoi]at ho;obtain rfl:=bK ho;exact hdeps) ⟨oi,hoi⟩;obtain⟨o,ho,hst⟩:=h2 (i,m) hm hr;have hilt:i<listed.size:=by rw[hsz];exact hU _ hm
   refine sN ho (nb (λa w hh=> ?_) hst);refine ih (del U i) (listed.setIfInBounds i true) a w (by simpa using hsz) ?_ (λy hy=>hU y (qY.1 hy).1) hh;intro j;by_cases hji:j=i
   ·subst hji;constructor
    ·intro hf;simp[Array.getD,hilt]at hf
    ·rintro⟨m',hm'⟩;exact absurd rfl (qY.1 hm').2
   ·rw[iI true (jQ hji),hl j];constructor
    ·rintro⟨m',hm'⟩;exact⟨m',qY.2 ⟨hm',hji⟩⟩
    ·rintro⟨m',hm'⟩;exact⟨m',(qY.1 hm').1⟩
theorem OT {m:Md} {o:Oper} {a:Act} {w:World} {K:Act->World->Prop} (h:mF P ops m o a w K):∃a' w',K a' w':=by
 unfold mF at h;split at h
 ·cases m with
  |pure=>obtain⟨v,_,h⟩:=h;exact⟨_,_,h⟩
  |read=>obtain⟨v,_,h⟩:=h;exact⟨_,_,h⟩
  |kx=>obtain⟨v,w',h⟩:=zV h;exact⟨_,_,h.2⟩
  |free=>obtain⟨v,w',h⟩:=zV h;exact⟨_,_,h⟩
 ·exact⟨_,_,h⟩
inductive Bl (ops:Array Oper) (U:List (Nat×Md)) (i:Nat):Nat->Prop
 |one {y:Nat} {o:Oper} {e:Edge}:ops[y]?=some o->e∈o.after->Region.binds .any e=true->e.on=i->Bl ops U i y
 |far {y:Nat} {o:Oper} {e:Edge} {z:Nat×Md}:ops[y]?=some o->e∈o.after->Region.binds .any e=true->e.on=z.1->z∈U->Bl ops U i z.1->Bl ops U i y
theorem Bl.Xj {i:Nat} {m:Md} {U:List (Nat×Md)} (hm:(i,m)∈U) {y:Nat} (h:Bl ops U i y):uY ops U y≠true:=by
 intro hr;obtain⟨o,ho,hd⟩:=Dv hr;cases h with
 |one h1 h2 h3 h4=>
  rw[ho]at h1;obtain rfl:=bK h1;exact hd _ h2 h3 _ hm h4.symm
 |far h1 h2 h3 h4 h5 _=>
  rw[ho]at h1;obtain rfl:=bK h1;exact hd _ h2 h3 _ h5 h4.symm
theorem Bl.del {i:Nat} {m:Md} {U:List (Nat×Md)} (hm:(i,m)∈U) {x:Nat} (hx:uY ops U x=true) {y:Nat} (h:Bl ops U i y):Bl ops (del U x) i y:=by
 induction h with
 |one h1 h2 h3 h4=>exact .one h1 h2 h3 h4
 |far h1 h2 h3 h4 h5 h6 ih=>exact .far h1 h2 h3 h4 (qY.2 ⟨h5,λe=>h6.Xj hm (by rw[e];exact hx)⟩) ih
def WF (ops:Array Oper) (U:List (Nat×Md)) (i:Nat):Nat->Nat->Bool
 |0,_=>false
 |n+1,y=>match ops[y]?with
  |some o=>o.after.any λe=>Region.binds .any e&&(Nat.beq e.on i||((U.any λz=>Nat.beq z.1 e.on)&&WF ops U i n e.on))
  |none=>false
theorem MV {U:List (Nat×Md)} {i:Nat}:∀(n y:Nat),WF ops U i n y=true->Bl ops U i y:=by
 intro n;induction n with
 |zero=>intro y h;cases h
 |succ n ih=>
  intro y h;unfold WF at h;cases ho:ops[y]?with
  |none=>rw[ho]at h;cases h
  |some o=>
   rw[ho]at h;simp only at h;rw[iq]at h;obtain⟨e,he,hq⟩:=h;rw[bf,dp,bf]at hq;obtain⟨hb,q|⟨q,r⟩⟩:=hq
   ·exact .one ho he hb (cF q)
   ·obtain⟨z,hz,hzb⟩:=dB.1 q;have e2:=cF hzb;exact .far ho he hb e2.symm hz (by rw[e2];exact ih _ r)
def F9 (ops:Array Oper) (x:Nat×Md) (U:List (Nat×Md)):Bool:=
 uY ops U x.1&&(U.any λy=>Nat.beq y.1 x.1)&&U.all λy=>(Nat.beq y.1 x.1&&decide (y.2=x.2))||(!Nat.beq y.1 x.1&&(WF ops U x.1 6 y.1||oc ops x y))
theorem CW (hs:wG ops) {i:Nat} {m:Md} {oi:Oper} (hi:ops[i]?=some oi):
  ∀(n:Nat) (U:List (Nat×Md)) (a:Act) (w:World),(i,m)∈U->uY ops U i=true->(∀y∈U,y.1=i->y.2=m)->
   (∀y∈U,y.1≠i->Bl ops U i y.1\/oc ops (i,m) y=true)->
   mF P ops m oi a w (IW P ops Kend n (del U i))->IW P ops Kend (n+1) U a w:=by
 intro n;induction n with
 |zero=>
  intro U a w hm hr hu hsw h;refine⟨λe=>(by rw[e]at hm;cases hm),λx hx hxr=> ?_⟩;by_cases hxi:x.1=i
  ·obtain⟨x1,x2⟩:=x;simp only at hxi;subst hxi;obtain rfl:=hu _ hx rfl;exact⟨oi,hi,h⟩
  ·exfalso;obtain⟨_,_,h3,_⟩:=OT h;have:=qY.2 ⟨hx,hxi⟩;rw[h3]at this;cases this
 |succ n ih=>
  intro U a w hm hr hu hsw h;refine⟨λe=>(by rw[e]at hm;cases hm),λx hx hxr=> ?_⟩;by_cases hxi:x.1=i
  ·obtain⟨x1,x2⟩:=x;simp only at hxi;subst hxi;obtain rfl:=hu _ hx rfl;exact⟨oi,hi,h⟩
  ·obtain⟨ox,hox,hxd⟩:=Dv hxr;have hsx:oc ops (i,m) x=true:=by
    rcases hsw x hx hxi with q|q
    ·exact absurd hxr (q.Xj hm)
    ·exact q
   refine⟨ox,hox,?_⟩;have h1:mF P ops m oi a w (λa w=>mF P ops x.2 ox a w (IW P ops Kend n (del (del U i) x.1))):=nb (λa w g=>by
    obtain⟨o,ho,g⟩:=g.2 x (qY.2 ⟨hx,hxi⟩) (GU (λy hy=>(qY.1 hy).1) hxr);rw[hox]at ho;obtain rfl:=bK ho;exact g) h
   obtain⟨x1,x2⟩:=x;have h2:=Hp hi hox (λcs b=>hs i oi cs b hi) (λcs b=>hs x1 ox cs b hox) hsx h1;refine nb (λa w g=> ?_) h2;rw[PQ]at g;exact ih (del U x1) a w (qY.2 ⟨hm,jQ hxi⟩) (GU (λy hy=>(qY.1 hy).1) hr) (λy hy=>hu y (qY.1 hy).1) (λy hy hne=>(hsw y (qY.1 hy).1 hne).imp (λq=>q.del hm hxr) id) g
end
structure Wz (P:Program) (ops:Array Oper) (Kend:Act->World->Prop) (n:Nat) (U:List (Nat×Md)) (N:Nat) (ρ:Nat->Value) (w:World):Prop where
 out:wG ops->IW P ops Kend n U (act N ρ) w
def wJ (P:Program) (ops:Array Oper) (Kend:Act->World->Prop) (n:Nat) (U':List (Nat×Md)) (x:Nat×Md) (N:Nat) (ρ:Nat->Value) (w:World):Prop:=
 wG ops->∃o,ops[x.1]?=some o/\mF P ops x.2 o (act N ρ) w (IW P ops Kend n U')
def Qx (ops:Array Oper) (n:Nat) (U:List (Nat×Md)):Bool:=
 Nat.beq ops.size n&&decide (U.map (·.1)=List.range n)&&K9 ops&&ops.all λo=>match o.op with| .select .. =>false|_=>true
section
variable {P : Program} {N : Nat} {ρ : Nat → Value} {w0 w : World} {Q : Exit → Act → World → Prop} {ops : Array Oper} {H : List lj} {Kend : Act → World → Prop} {i n : Nat} {o : Oper} {U U' : List (Nat × Md)}
theorem A0 {id:Nat} {l:List Oper} (n:Nat) (U:List (Nat×Md)) (hm:P.follows .mixedOrders=true) (hchk:Qx l.toArray n U=true) (hS:St w0 w H)
  (h:∀w',St w0 w' H->Below w.heap.size w w'->Wz P l.toArray (Q .normal) n U N ρ w'):(Code.region id l.toArray true).wp P Q (act N ρ) w:=by
 simp only[Qx,bf,fQ]at hchk;obtain⟨⟨⟨h1,h2⟩,h3⟩,h6⟩:=hchk;have hsz:=cF h1;have hs:wG l.toArray:=by
  intro i o cs b hi hsel;have:=dz.1 h6 o (gK hi);rw[hsel]at this;cases this
 have hbd:Below w.heap.size w {w with drawn:=w.drawn+1}:=(Below.refl _ w).drew;have hUm:∀i,(∃m,(i,m)∈U)↔i<n:=by
  intro i;rw[<-cZ,<-h2,ca];constructor
  ·rintro⟨m,hm⟩;exact⟨_,hm,rfl⟩
  ·rintro⟨⟨a,m⟩,hm,rfl⟩;exact⟨m,hm⟩
 refine wp_region_any hm ?_;rw[hsz];refine DR (λ_ _ h=>h) h3 n U _ _ _ (by simp;simpa using hsz.symm) ?_ (λy hy=>by rw[hsz];exact(hUm y.1).1 ⟨y.2,hy⟩) ((h _ (hS.kx hbd) hbd).out hs);intro i;rw[hUm];constructor
 ·intro hf;rcases bH i n with q|q
  ·exact q
  ·simp[Array.getD,gm.2 q]at hf
 ·intro q;simp[Array.getD,q]
theorem nw (h:Kend (act N ρ) w):Wz P ops Kend n [] N ρ w:=⟨λ_=>by
 cases n with
 |zero=>exact⟨rfl,h⟩
 |succ n=>exact⟨λ_=>h,λx hx=>by cases hx⟩⟩
theorem AZ {x:Nat×Md} (h:F9 ops x U=true):x∈U/\uY ops U x.1=true/\(∀y∈U,y.1=x.1->y.2=x.2)/\
  ∀y∈U,y.1≠x.1->Bl ops U x.1 y.1\/oc ops x y=true:=by
 simp only[F9,bf]at h;obtain⟨⟨h1,h2⟩,h3⟩:=h;have hu:∀y∈U,y.1=x.1->y.2=x.2:=λy hy e=>by
  have:=cO.1 h3 y hy;rw[e]at this;simp at this;exact this
 refine⟨?_,h1,hu,λy hy hne=> ?_⟩
 ·obtain⟨y,hy,hb⟩:=dB.1 h2;have e:=cF hb;have e2:=hu y hy e;obtain⟨y1,y2⟩:=y;obtain⟨x1,x2⟩:=x;simp only at e e2;rw[<-e,<-e2];exact hy
 ·have:=cO.1 h3 y hy;have hb:Nat.beq y.1 x.1=false:=by
   cases hb:Nat.beq y.1 x.1 with
   |false=>rfl
   |true=>exact absurd (cF hb) hne
  rw[hb,jy,iH,Bool.not_false,Bool.true_and,dp]at this;rcases this with q|q
  ·exact .inl (MV _ _ q)
  ·exact .inr q
theorem kU {d:Option Tmp} {p:Op} {ty:TypeId} {pos:String} {aft:Array Edge} {g:Option (Nat×Bool)} (hf:F9 ops (i,.pure) U=true) (hd:del U i=U') (ho:ops[i]?=some ⟨d,p,ty,pos,aft,g⟩) (hg:gd ops N ρ g=true)
  (h:mx P N ρ ⟨d,p,ty,pos,aft,g⟩ λv=>Wz P ops Kend n U' N (tm ρ d v) w):Wz P ops Kend (n+1) U N ρ w:=by
 subst hd;obtain⟨f1,f2,f3,f4⟩:=AZ hf;refine⟨λhs=>CW hs ho n U _ _ f1 f2 f3 f4 ?_⟩;rw[ob (pb ops N ρ ⟨d,p,ty,pos,aft,g⟩ hg),oV];obtain⟨v,h1,h2⟩:=h;exact⟨v,h1,by rw[px];exact h2.out hs⟩
theorem pq {d:Option Tmp} {p:Op} {ty:TypeId} {pos:String} {aft:Array Edge} {g:Option (Nat×Bool)} (hf:F9 ops (i,.read) U=true) (hd:del U i=U') (ho:ops[i]?=some ⟨d,p,ty,pos,aft,g⟩) (hg:gd ops N ρ g=true)
  (h:rD P N ρ w ⟨d,p,ty,pos,aft,g⟩ λv=>Wz P ops Kend n U' N (tm ρ d v) w):Wz P ops Kend (n+1) U N ρ w:=by
 subst hd;obtain⟨f1,f2,f3,f4⟩:=AZ hf;refine⟨λhs=>CW hs ho n U _ _ f1 f2 f3 f4 ?_⟩;rw[sx (pb ops N ρ ⟨d,p,ty,pos,aft,g⟩ hg),oV];obtain⟨v,h1,h2⟩:=h;exact⟨v,h1,by rw[px];exact h2.out hs⟩
theorem kX {d:Option Tmp} {p:Op} {ty:TypeId} {pos:String} {aft:Array Edge} {g:Option (Nat×Bool)} (ho:ops[i]?=some ⟨d,p,ty,pos,aft,g⟩) (hg:gd ops N ρ g=true)
  (h:pL P N ρ w ⟨d,p,ty,pos,aft,g⟩ λv w'=>Below w.heap.size w w'/\Wz P ops Kend n U' N (tm ρ d v) w'):wJ P ops Kend n U' (i,.kx) N ρ w:=λhs=>by
 refine⟨_,ho,?_⟩;rw[rz (pb ops N ρ ⟨d,p,ty,pos,aft,g⟩ hg),oV];simp only[px];exact oU (λv w h=>⟨h.1,h.2.out hs⟩) h.out
theorem lB {d:Option Tmp} {p:Op} {ty:TypeId} {pos:String} {aft:Array Edge} {g:Option (Nat×Bool)} (ho:ops[i]?=some ⟨d,p,ty,pos,aft,g⟩) (hg:gd ops N ρ g=true)
  (h:pL P N ρ w ⟨d,p,ty,pos,aft,g⟩ λv w'=>Wz P ops Kend n U' N (tm ρ d v) w'):wJ P ops Kend n U' (i,.free) N ρ w:=λhs=>by
 refine⟨_,ho,?_⟩;rw[sJ (pb ops N ρ ⟨d,p,ty,pos,aft,g⟩ hg),oV];simp only[px];exact oU (λv w h=>Wz.out h hs) h.out
theorem li {x:Nat×Md} (hR:(U.filter λy=>uY ops U y.1)=[x]) (hd:del U x.1=U') (h:wJ P ops Kend n U' x N ρ w):Wz P ops Kend (n+1) U N ρ w:=by
 subst hd;refine⟨λhs=>⟨λe=>(by rw[e]at hR;cases hR),λy hy hr=> ?_⟩⟩;have:y∈[x]:=by rw[<-hR];exact dS.2 ⟨hy,hr⟩
 obtain rfl:=aO.1 this;exact h hs
theorem qK {x y:Nat×Md} {U'':List (Nat×Md)} (hR:(U.filter λy=>uY ops U y.1)=[x,y]) (hd:del U x.1=U') (hd':del U y.1=U'') (h:wJ P ops Kend n U' x N ρ w) (h':wJ P ops Kend n U'' y N ρ w):Wz P ops Kend (n+1) U N ρ w:=by
 subst hd hd';refine⟨λhs=>⟨λe=>(by rw[e]at hR;cases hR),λz hz hr=> ?_⟩⟩;have:z∈[x,y]:=by rw[<-hR];exact dS.2 ⟨hz,hr⟩
 rcases bM.1 this with rfl|this
 ·exact h hs
 ·obtain rfl:=aO.1 this;exact h' hs
theorem B6 {x y z:Nat×Md} {U1 U2 U3:List (Nat×Md)} (hR:(U.filter λy=>uY ops U y.1)=[x,y,z]) (hd1:del U x.1=U1) (hd2:del U y.1=U2) (hd3:del U z.1=U3)
  (h1:wJ P ops Kend n U1 x N ρ w) (h2:wJ P ops Kend n U2 y N ρ w) (h3:wJ P ops Kend n U3 z N ρ w):Wz P ops Kend (n+1) U N ρ w:=by
 subst hd1 hd2 hd3;refine⟨λhs=>⟨λe=>(by rw[e]at hR;cases hR),λt ht hr=> ?_⟩⟩;have:t∈[x,y,z]:=by rw[<-hR];exact dS.2 ⟨ht,hr⟩
 rcases bM.1 this with rfl|this
 ·exact h1 hs
 ·rcases bM.1 this with rfl|this
  ·exact h2 hs
  ·obtain rfl:=aO.1 this;exact h3 hs
end
def Gq {α:Type} (enc:α->List Value) (e:TypeId) (size:Nat) (v:Value) (X:List α) (L:List lj):Prop:=
 (X=[]/\∃a cap,v= .slice a 0 cap)\/
 ∃b cap pre sp,v= .slice (some ⟨b,pre.length,none⟩) X.length cap/\L=[(b,e,pre++(X.flatMap enc++sp))]/\X.length<=cap/\cap<=Go.maxLen/\sp.length=(cap-X.length)*size
section
variable {α : Type} {enc : α → List Value} {e : TypeId} {size : Nat} {w0 w : World} {H L : List lj} {X : List α} {v : Value}
theorem Gq.sl (h:Gq enc e size v X L) (hS:St w0 w (H++L)) (hu:∀x,(enc x).length=size) (hne:X≠ []):Sl enc size w v X:=by
 obtain⟨rfl,_⟩|⟨b,cap,pre,sp,rfl,rfl,h1,h2,h3⟩:=h
 ·exact absurd rfl hne
 have hh:=(hS.perm ay).get (k:=0) (b:=b) (t:=e) (cs:=pre++(X.flatMap enc++sp)) rfl;refine⟨⟨some ⟨b,pre.length,none⟩,cap,rfl,h1,h2,λh=>by cases h⟩,λi hi j u hj=> ?_⟩;have hj':j<size:=by
  have:=(dw.1 hj).1;rwa[hu]at this
 rw[show t6 (.slice (some ⟨b,pre.length,none⟩) X.length cap)=⟨b,pre.length,none⟩from rfl,add_lit,add_lit,cell_of_row w b _ _ e _ hh];have hlt:i*size+j<(X.flatMap enc).length:=by
  rw[lO hu];have:(i+1)*size<=X.length*size:=aI _ hi;rw[bn]at this;omega
 rw[i5,dR,cH (Nat.le_add_right _ _),fH,cK hlt,flat_get hu X i j hi hj'];exact hj
end
section
variable {P : Program} {N : Nat} {ρ : Nat → Value} {w0 w w' : World} {d : Option Tmp} {ty : TypeId} {pos : String} {aft : Array Edge} {g : Option (Nat × Bool)} {x y z : Operand} {t t' e : TypeId} {H L : List lj} {b : Nat} {cs : List Value} {v : Value} {K2 : Value → World → Prop} {K : Value → Prop}
end
abbrev Mx:=Nat->Nat->Rat
def ku (f:Nat->Rat):Nat->Rat
 |0=>0
 |n+1=>ku f n+f n
theorem kz {f g:Nat->Rat}:∀ {n:Nat},(∀i,i<n->f i=g i)->ku f n=ku g n
 |0,_=>rfl
 |n+1,h=>by
  show ku f n+f n=ku g n+g n;rw[kz λi hi=>h i oO,h n oO]
theorem lJ {f:Nat->Rat}:∀ {n:Nat},(∀i,i<n->f i=0)->ku f n=0
 |0,_=>rfl
 |n+1,h=>by
  show ku f n+f n=0;rw[lJ λi hi=>h i oO,h n oO];exact iO 0
theorem nx (f g:Nat->Rat) (t:Rat):∀n,ku (λi=>f i+t*g i) n=ku f n+t*ku g n
 |0=>by show(0:Rat)=0+t*0;grind
 |n+1=>by
  show ku (λi=>f i+t*g i) n+(f n+t*g n)=ku f n+f n+t*(ku g n+g n);rw[nx f g t n];grind
theorem nz {f:Nat->Rat} {p:Nat}:∀ {n:Nat},p<n->(∀i,i<n->i≠p->f i=0)->ku f n=f p
 |n+1,hp,h=>by
  show ku f n+f n=f p;by_cases e:p=n
  ·subst e;rw[lJ λi hi=>h i oO oO];exact iO _
  ·rw[nz oO λi hi=>h i oO,h n oO oO];exact hJ _
theorem Hl {f:Nat->Rat} {p:Nat}:∀ {n:Nat},p+1<n->(∀i,i<n->i≠p->i≠p+1->f i=0)->ku f n=f p+f (p+1)
 |n+1,hp,h=>by
  show ku f n+f n=_;by_cases e:p+1=n
  ·subst e;show ku f p+f p+f (p+1)=_;rw[lJ λi hi=>h i oO oO oO,iO]
  ·rw[Hl oO λi hi=>h i oO,h n oO oO oO];exact hJ _
def yS (A:Mx) (i:Nat):Mx:=λr c=>A (if r<i then r else r+1) (c+1)
def Fm (i:Nat):Rat:=if i%2=0 then 1 else-1
theorem Nh (i:Nat):Fm (i+1)= -Fm i:=by
 unfold Fm;by_cases h:i%2=0
 ·rw[ah oO,aj h]
 ·rw[aj oO,ah h];rfl
def rK:Nat->Mx->Rat
 |0,_=>1
 |n+1,A=>ku (λi=>Fm i*A i 0*rK n (yS A i)) (n+1)
theorem sZ (n:Nat) (A:Mx):rK (n+1) A=ku (λi=>Fm i*A i 0*rK n (yS A i)) (n+1):=rfl
theorem ov:∀ {n:Nat} {A B:Mx},(∀i,i<n->∀j,j<n->A i j=B i j)->rK n A=rK n B
 |0,_,_,_=>rfl
 |n+1,A,B,h=>by
  rw[sZ,sZ];refine kz λi hi=> ?_;rw[h i hi 0 oO];rw[ov (A:=yS A i) (B:=yS B i) λr hr c hc=>h _ (by split<;>omega) _ oO]
theorem GA:∀ {n:Nat} {A:Mx},(∀i,i<n->∀j,j<n->∃z:Int,A i j=z)->∃z:Int,rK n A=z
 |0,_,_=>⟨1,rfl⟩
 |n+1,A,h=>by
  have key:∀k,k<=n+1->∃z:Int,ku (λi=>Fm i*A i 0*rK n (yS A i)) k=z:=by
   intro k;induction k with
   |zero=>exact λ_=>⟨0,rfl⟩
   |succ k ih=>
    intro hk;obtain⟨z,hz⟩:=ih oO;obtain⟨a,ha⟩:=h k oO 0 oO;obtain⟨d,hd⟩:=GA (A:=yS A k) (n:=n) λr hr c hc=>h _ (by split<;>omega) _ oO;show∃y:Int,ku (λi=>Fm i*A i 0*rK n (yS A i)) k+Fm k*A k 0*rK n (yS A k)=y;rw[hz,ha,hd];unfold Fm;by_cases e:k%2=0
    ·rw[aj e];exact⟨z+a*d,by rw[dZ,Rat.intCast_add,eJ]⟩
    ·rw[ah e];exact⟨z-a*d,by rw[j5,eJ];grind⟩
  exact key (n+1) (aB _)
theorem QV {i p:Nat} (h:p≠i):∃p',(∀r,(if r<i then r else r+1)=p↔r=p')/\(∀n,p<n+1->i<n+1->p'<n)/\p'=if p<i then p else p-1:=by
 refine⟨if p<i then p else p-1,λr=> ?_,λn hp hi=> ?_,rfl⟩
 ·split<;>split<;>omega
 ·split<;>omega
theorem zJ:∀ {n:Nat} {A B C:Mx} {p:Nat} {t:Rat},p<n->(∀j,C p j=A p j+t*B p j)->(∀i,i≠p->∀j,B i j=A i j/\C i j=A i j)->rK n C=rK n A+t*rK n B
 |n+1,A,B,C,p,t,hp,h1,h2=>by
  rw[sZ,sZ,sZ,<-nx];refine kz λi hi=> ?_;by_cases e:i=p
  ·subst e;have e1:yS B i=yS A i:=by funext r c;exact(h2 _ (by split<;>omega) _).1
   have e2:yS C i=yS A i:=by funext r c;exact(h2 _ (by split<;>omega) _).2
   rw[h1,e1,e2];grind
  ·obtain⟨p',hp',hlt,_⟩:=QV (i:=i) (p:=p) (λg=>e g.symm);rw[(h2 i e 0).1,(h2 i e 0).2];rw[zJ (A:=yS A i) (B:=yS B i) (C:=yS C i) (p:=p') (t:=t) (hlt n hp hi) ?_ ?_]
   ·grind
   ·intro j;have:=(hp' p').2 rfl;unfold yS;rw[this];exact h1 _
   ·intro r hr j;exact h2 _ (λg=>hr ((hp' r).1 g)) _
theorem Bz:∀ {n:Nat} {A:Mx} {p:Nat},p+1<n->(∀j,A p j=A (p+1) j)->rK n A=0
 |n+1,A,p,hp,h=>by
  rw[sZ,Hl hp ?_]
  ·have e:yS A (p+1)=yS A p:=by
    funext r c;unfold yS;by_cases h1:r<p
    ·rw[aj oO,aj h1]
    ·by_cases h3:r=p
     ·subst h3;rw[aj oO,ah oO];exact h _
     ·rw[ah oO,ah h1]
   rw[e,Nh,h 0];grind
  ·intro i hi h1 h2;have e:rK n (yS A i)=0:=by
    by_cases g:i<p
    ·refine Bz (p:=p-1) oO λj=> ?_;unfold yS;rw[ah oO,ah oO];have:p-1+1=p:=oO;rw[this];exact h _
    ·refine Bz (p:=p) oO λj=> ?_;unfold yS;rw[aj oO,aj oO];exact h _
   rw[e,eg]
def qX (A:Mx) (p:Nat) (x:Nat->Rat):Mx:=λi j=>if i=p then x j else A i j
theorem mz (A:Mx) (p:Nat) (x:Nat->Rat) (j:Nat):qX A p x p j=x j:=aj rfl
theorem nS (A:Mx) {p i:Nat} (x:Nat->Rat) (h:i≠p) (j:Nat):qX A p x i j=A i j:=ah h
def oT (A:Mx) (p q:Nat):Mx:=λi j=>if i=p then A q j else if i=q then A p j else A i j
theorem KT {n:Nat} {p q:Nat} (hp:p<n) (hq:q<n) (hpq:p≠q) (alt:∀A:Mx,(∀j,A p j=A q j)->rK n A=0) (A:Mx):rK n (oT A p q)= -rK n A:=by
 have D:=λ(x y:Nat->Rat)=>qX (qX A p x) q y;have hl:∀x x' y,rK n (qX (qX A p λj=>x j+1*x' j) q y)=rK n (qX (qX A p x) q y)+1*rK n (qX (qX A p x') q y):=by
  intro x x' y;refine zJ hp (λj=> ?_) λi hi j=> ?_
  ·rw[nS _ _ hpq,nS _ _ hpq,nS _ _ hpq,mz,mz,mz]
  ·by_cases g:i=q
   ·subst g;simp only[mz,and_self]
   ·simp only[nS _ _ g,nS _ _ hi,and_self]
 have hr:∀x y y',rK n (qX (qX A p x) q λj=>y j+1*y' j)=rK n (qX (qX A p x) q y)+1*rK n (qX (qX A p x) q y'):=by
  intro x y y';refine zJ hq (λj=> ?_) λi hi j=> ?_
  ·rw[mz,mz,mz]
  ·simp only[nS _ _ hi,and_self]
 have ha:∀x,rK n (qX (qX A p x) q x)=0:=λx=>alt _ λj=>by rw[nS _ _ hpq,mz,mz]
 have h0:=ha λj=>A p j+1*A q j;rw[hl,hr,hr,ha,ha]at h0;have e1:rK n (qX (qX A p (A p)) q (A q))=rK n A:=ov λi _ j _=>by
  by_cases g:i=q
  ·subst g;rw[mz]
  ·rw[nS _ _ g];by_cases g':i=p
   ·subst g';rw[mz]
   ·rw[nS _ _ g']
 have e2:rK n (qX (qX A p (A q)) q (A p))=rK n (oT A p q):=ov λi _ j _=>by
  unfold oT;by_cases g:i=q
  ·subst g;rw[mz,ah (λe=>hpq e.symm),aj rfl]
  ·rw[nS _ _ g];by_cases g':i=p
   ·subst g';rw[mz,aj rfl]
   ·rw[nS _ _ g',ah g',ah g]
 rw[<-e1,<-e2];grind
theorem DC {n p:Nat}:∀(d:Nat) {q:Nat} {A:Mx},q=p+1+d->q<n->(∀j,A p j=A q j)->rK n A=0
 |0,q,A,hq,hn,h=>Bz (p:=p) oO λj=>by rw[h j,hq]
 |d+1,q,A,hq,hn,h=>by
  have e:=KT (n:=n) (p:=q-1) (q:=q) oO hn oO (λB hB=>Bz (p:=q-1) oO λj=>by
   have:q-1+1=q:=oO;rw[this];exact hB j) A
  have e0:rK n (oT A (q-1) q)=0:=DC (p:=p) d (q:=q-1) oO oO λj=>by
   show(if p=q-1 then A q j else if p=q then A (q-1) j else A p j)=(if q-1=q-1 then A q j else _);rw[ah oO,ah oO,aj rfl];exact h j
  rw[e0]at e;grind
theorem Mb {n p q:Nat} (hp:p<n) (hq:q<n) (hpq:p≠q) {A:Mx} (h:∀j,A p j=A q j):rK n A=0:=by
 rcases Nat.lt_or_gt_of_ne hpq with g|g
 ·exact DC (q-p-1) (p:=p) oO hq h
 ·exact DC (p-q-1) (p:=q) (q:=p) oO hp λj=>(h j).symm
theorem Ph {n p q:Nat} (hp:p<n) (hq:q<n) (hpq:p≠q) (A:Mx):rK n (oT A p q)= -rK n A:=KT hp hq hpq (λ_ h=>Mb hp hq hpq h) A
theorem KM {n p q:Nat} (hp:p<n) (hq:q<n) (hpq:p≠q) (A:Mx) (t:Rat):rK n (qX A p λj=>A p j+t*A q j)=rK n A:=by
 rw[zJ (A:=A) (B:=qX A p (A q)) (p:=p) (t:=t) hp (λj=>by rw[mz,mz]) λi hi j=>⟨nS _ _ hi _,nS _ _ hi _⟩];rw[Mb hp hq hpq (A:=qX A p (A q)) λj=>by rw[mz,nS _ _ λe=>hpq e.symm]];grind
theorem EV {n p:Nat} (hp:p<n) (A:Mx) (t:Rat):rK n (qX A p λj=>t*A p j)=t*rK n A:=by
 rw[zJ (A:=A) (B:=A) (p:=p) (t:=t-1) hp (λj=>by rw[mz];grind) λi hi j=>⟨rfl,nS _ _ hi _⟩];grind
theorem Cn {n p:Nat} (hp:p<n) {A:Mx} (h:∀j,j<n->A p j=0):rK n A=0:=by
 have e:=EV hp A 0;rw[eD]at e;rw[<-e];exact ov λi _ j hj=>by
  by_cases g:i=p
  ·subst g;rw[mz,h j hj,eD]
  ·rw[nS _ _ g]
theorem Eh {n:Nat} {A:Mx} (h:∀i,0<i->i<n+1->A i 0=0):rK (n+1) A=A 0 0*rK n (yS A 0):=by
 rw[sZ,nz (p:=0) oO λi hi h0=>by rw[h i oO hi,eg,eD]];show(1:Rat)*A 0 0*_=_;rw[dZ]
def IF (i j:Nat):Rat:=if i=j then 1 else 0
theorem CN (r c:Nat):IF (r+1) (c+1)=IF r c:=by
 unfold IF;by_cases g:r=c
 ·rw[aj oO,aj g]
 ·rw[ah oO,ah g]
theorem xc (r:Nat):IF r r=1:=aj rfl
theorem tr {r c:Nat} (h:r≠c):IF r c=0:=ah h
theorem DB (A:Mx) (r c:Nat):yS A 0 r c=A (r+1) (c+1):=by
 unfold yS;rw[ah oO]
theorem Gt:∀n,rK n IF=1
 |0=>rfl
 |n+1=>by
  rw[Eh λi h0 _=>ah oO];have e:yS IF 0=IF:=by
   funext r c;rw[DB,CN]
  rw[e,Gt n,xc];exact dZ 1
def yE (i:Nat) (v:Nat->Rat):Mx:=λr c=>if c=i then v r else IF r c
theorem Cx:∀ {n i:Nat} (v:Nat->Rat),i<n->rK n (yE i v)=v i
 |n+1,0,v,_=>by
  rw[sZ,nz (p:=0) oO]
  ·have e:yS (yE 0 v) 0=IF:=by
    funext r c;rw[DB];unfold yE;rw[ah oO,CN]
   rw[e,Gt];show(1:Rat)*v 0*1=v 0;grind
  ·intro i hi h0;rw[Cn (n:=n) (p:=0) (A:=yS (yE 0 v) i) oO λj _=> ?_,eg];unfold yS yE;rw[ah oO,aj oO,tr oO]
 |n+1,i+1,v,hi=>by
  rw[Eh λr h0 _=>by unfold yE;rw[ah oO,tr oO]];have e:yS (yE (i+1) v) 0=yE i λr=>v (r+1):=by
   funext r c;rw[DB];unfold yE;by_cases g:c=i
   ·rw[aj oO,aj g]
   ·rw[ah oO,ah g,CN]
  have e0:yE (i+1) v 0 0=1:=by
   unfold yE;rw[ah oO,xc]
  rw[e,Cx _ oO,e0,dZ]
def elim (A:Mx) (r:Nat) (a:Rat) (f:Nat->Rat):Mx:=λi j=>if i=r then A r j/a else A i j-f i*(A r j/a)
theorem HB {n r:Nat} (hr:r<n) (A:Mx) {a:Rat} (ha:a≠0) (f:Nat->Rat):rK n A=a*rK n (elim A r a f):=by
 have e1:rK n (qX A r λj=>a⁻¹ *A r j)=a⁻¹ *rK n A:=EV hr A _;have key:∀t,t<=n->rK n (λi j=>if i<t/\i≠r then A i j-f i*(a⁻¹ *A r j)else qX A r (λj=>a⁻¹ *A r j) i j)=a⁻¹ *rK n A:=by
  intro t;induction t with
  |zero=>
   intro _;rw[<-e1];exact ov λi _ j _=>ah oO
  |succ t ih=>
   intro ht;rw[<-ih oO];by_cases g:t=r
   ·refine ov λi _ j _=> ?_;by_cases h:i<t
    ·rw[aj ⟨oO,oO⟩,aj ⟨h,oO⟩]
    ·rw[ah oO,ah oO]
   ·have:=KM (n:=n) (p:=t) (q:=r) oO hr g (λi j=>if i<t/\i≠r then A i j-f i*(a⁻¹ *A r j)else qX A r (λj=>a⁻¹ *A r j) i j) (-f t);rw[<-this];refine ov λi _ j _=> ?_;by_cases h:i=t
    ·subst h;rw[mz,aj ⟨oO,g⟩,ah oO,ah (λe=>e.2 rfl),nS _ _ g,mz];grind
    ·rw[nS _ _ h];by_cases h':i<t/\i≠r
     ·rw[aj ⟨oO,h'.2⟩,aj h']
     ·rw[ah oO,ah h']
 have e2:rK n (elim A r a f)=a⁻¹ *rK n A:=by
  rw[<-key n (aB _)];refine ov λi hi j _=> ?_;unfold elim;rw[bT,gC];by_cases g:i=r
  ·subst g;rw[aj rfl,ah (λe=>e.2 rfl),mz]
  ·rw[ah g,aj ⟨hi,g⟩]
 rw[e2,<-iD,bW _ ha,dZ]
def NH (A:Mx) (c:Nat):Nat->Nat->Nat
 |0,i=>i
 |k+1,i=>if A i c=0 then NH A c k (i+1)else i
def pv (A:Mx) (c n r:Nat):Nat:=NH A c (n-r) r
theorem HD (A:Mx) (c:Nat):∀k i,i<=NH A c k i/\NH A c k i<=i+k/\(∀l,i<=l->l<NH A c k i->A l c=0)/\(NH A c k i<i+k->A (NH A c k i) c≠0)
 |0,i=>⟨aB _,aB _,λl h1 h2=>absurd (bZ h1 h2) (dt _),λh=>absurd h (dt _)⟩
 |k+1,i=>by
  unfold NH;by_cases h:A i c=0
  ·rw[aj h];obtain⟨h1,h2,h3,h4⟩:=HD A c k (i+1);refine⟨oO,oO,λl g1 g2=> ?_,λg=>h4 oO⟩;by_cases e:l=i
   ·rw[e];exact h
   ·exact h3 l oO g2
  ·rw[ah h];exact⟨aB _,oO,λl g1 g2=>absurd (bZ g1 g2) (dt _),λ_=>h⟩
theorem pU (A:Mx) (c:Nat) {n r:Nat} (h:r<=n):r<=pv A c n r/\pv A c n r<=n/\(∀l,r<=l->l<pv A c n r->A l c=0)/\(pv A c n r<n->A (pv A c n r) c≠0):=by
 obtain⟨h1,h2,h3,h4⟩:=HD A c (n-r) r;exact⟨h1,by unfold pv;omega,h3,λg=>h4 (by unfold pv at g;omega)⟩
theorem FE {A:Mx} {c n r p:Nat} (h:r<=p) (hp:p<=n) (hz:∀l,r<=l->l<p->A l c=0) (hn:p<n->A p c≠0):pv A c n r=p:=by
 obtain⟨h1,h2,h3,h4⟩:=pU A c (n:=n) (r:=r) oO;rcases Nat.lt_trichotomy (pv A c n r) p with g|g|g
 ·exact absurd (hz _ h1 g) (h4 oO)
 ·exact g
 ·exact absurd (h3 _ h g) (hn oO)
theorem QB {A B:Mx} {c n r:Nat} (hr:r<=n) (h:∀i,r<=i->i<n->(A i c=0↔B i c=0)):pv A c n r=pv B c n r:=by
 obtain⟨h1,h2,h3,h4⟩:=pU B c (n:=n) (r:=r) hr;exact FE h1 h2 (λl g1 g2=>(h l g1 oO).2 (h3 l g1 g2)) λg e=>h4 g ((h _ h1 g).1 e)
structure Rd where
 M:Mx
 P:List Nat
 d:Rat
def tc (n c:Nat) (s:Rd):Rd:=
 if pv s.M c n s.P.length<n then
  ⟨elim (oT s.M s.P.length (pv s.M c n s.P.length)) s.P.length (s.M (pv s.M c n s.P.length) c) λi=>oT s.M s.P.length (pv s.M c n s.P.length) i c,s.P++[c],
   (if pv s.M c n s.P.length=s.P.length then s.d else-s.d)*s.M (pv s.M c n s.P.length) c⟩
 else s
def lR (n:Nat) (A:Mx):Nat->Rd
 |0=>⟨A,[],1⟩
 |c+1=>tc n c (lR n A c)
theorem qi (A:Mx) (p q j:Nat):oT A p q p j=A q j:=aj rfl
theorem tg (A:Mx) (p q j:Nat):oT A p q q j=A p j:=by
 unfold oT;by_cases h:q=p
 ·rw[aj h,h]
 ·rw[ah h,aj rfl]
theorem ul (A:Mx) {p q i:Nat} (h1:i≠p) (h2:i≠q) (j:Nat):oT A p q i j=A i j:=by unfold oT;rw[ah h1,ah h2]
theorem Et (A:Mx) (p:Nat):oT A p p=A:=by
 funext i j;unfold oT;by_cases h:i=p
 ·rw[aj h,h]
 ·rw[ah h,ah h]
theorem tK (A:Mx) (r:Nat) (a:Rat) (f:Nat->Rat) (j:Nat):elim A r a f r j=A r j/a:=aj rfl
theorem rX (A:Mx) {r i:Nat} {a:Rat} {f:Nat->Rat} (h:i≠r) (j:Nat):elim A r a f i j=A i j-f i*(A r j/a):=ah h
structure Ni (n c:Nat) (s:Rd):Prop where
 len:s.P.length<=n
 inc:s.P.Pairwise (· < ·)
 lt:∀p∈s.P,p<c
 unit:∀l,l<s.P.length->∀i,i<n->s.M i (s.P.getD l 0)=IF i l
 low:∀i,s.P.length<=i->i<n->∀j,j<c->s.M i j=0
theorem Qo {l:List Nat} {x d i:Nat}:(l++[x]).getD i d=if i<l.length then l.getD i d else if i=l.length then x else d:=by
 by_cases h:i<l.length
 ·rw[aj h,ak,cK h,ak]
 ·rw[ah h,ak,cH oO];by_cases e:i=l.length
  ·rw[aj e,e,dU];rfl
  ·rw[ah e,dj (by simp;omega)];rfl
theorem pI {l:List Nat} {i:Nat} (h:i<l.length):l.getD i 0∈l:=by
 rw[ak,aF h];exact fJ h
theorem rinv (n:Nat) (A:Mx):∀c,Ni n c (lR n A c)
 |0=>⟨aw _,List.Pairwise.nil,λ_ h=>(by cases h),λl h=>absurd h (aS _),λ_ _ _ j hj=>absurd hj (aS _)⟩
 |c+1=>by
  have I:=rinv n A c;show Ni n (c+1) (tc n c (lR n A c));generalize lR n A c=s at I;obtain⟨hp1,hp2,hp3,hp4⟩:=pU s.M c I.len;unfold tc;by_cases h:pv s.M c n s.P.length<n
  ·rw[aj h];generalize pv s.M c n s.P.length=p at*;have ha:=hp4 h;generalize hr:s.P.length=r at*;have hS:∀i,i<n->∀l,l<r->oT s.M r p i (s.P.getD l 0)=IF i l:=by
    intro i hi l hl;by_cases e1:i=r
    ·rw[e1,qi,I.unit l oO p h,tr oO,tr oO]
    ·by_cases e2:i=p
     ·rw[e2,tg,I.unit l oO r oO,tr oO,tr oO]
     ·rw[ul _ e1 e2,I.unit l oO i hi]
   refine⟨by simp only[ax,eQ];omega,?_,?_,?_,?_⟩
   ·exact List.pairwise_append.2 ⟨I.inc,List.pairwise_singleton _ _,λa ha b hb=>by rw[aO.1 hb];exact I.lt a ha⟩
   ·intro q hq;rcases bN.1 hq with g|g
    ·have:=I.lt q g;omega
    ·rw[aO.1 g];omega
   ·intro l hl i hi;simp only[ax,eQ,hr]at hl;dsimp only;rw[Qo,hr];by_cases g:l<r
    ·rw[aj g];by_cases e:i=r
     ·rw[e,tK,hS r oO l g,tr oO,bT,eD]
     ·rw[rX _ e,hS i hi l g,hS r oO l g,tr (r:=r) oO,bT];grind
    ·rw[ah g,aj oO];obtain rfl:l=r:=oO;by_cases e:i=l
     ·rw[e,tK,qi,xc,bT,bW _ ha]
     ·rw[rX _ e,qi,bT,bW _ ha,tr e];grind
   ·intro i hi1 hi j hj;simp only[ax,eQ,hr]at hi1;dsimp only;rw[rX _ oO,qi];by_cases g:j=c
    ·subst g;rw[bT,bW _ ha];grind
    ·have e1:s.M p j=0:=I.low p oO h j oO;have e2:oT s.M r p i j=0:=by
      by_cases e2:i=p
      ·rw[e2,tg];exact I.low r oO oO j oO
      ·rw[ul _ oO e2];exact I.low i oO hi j oO
     rw[e1,e2,bT];grind
  ·rw[ah h];refine⟨I.len,I.inc,λq hq=>by have:=I.lt q hq;omega,I.unit,λi hi1 hi j hj=> ?_⟩;by_cases g:j=c
   ·subst g;exact hp3 i hi1 oO
   ·exact I.low i hi1 hi j oO
theorem yH (n:Nat) (A:Mx) (c:Nat):∀k,(lR n A c).P.length<=(lR n A (c+k)).P.length/\(lR n A (c+k)).P.length<=(lR n A c).P.length+k
 |0=>⟨aB _,aB _⟩
 |k+1=>by
  obtain⟨h1,h2⟩:=yH n A c k;show _<=(tc n (c+k) (lR n A (c+k))).P.length/\(tc n (c+k) (lR n A (c+k))).P.length<=_;generalize lR n A (c+k)=s at*;unfold tc;split
  ·simp only[ax,eQ];omega
  ·omega
theorem zD (n:Nat) (A:Mx) (c:Nat):(lR n A c).P.length<=c:=by
 have:=(yH n A 0 c).2;rw[bX]at this;exact cQ this (by show [].length+c<=c;simp)
theorem Cl {n:Nat} {A:Mx} {c:Nat} (h:n<=(lR n A c).P.length):∀k,lR n A (c+k)=lR n A c
 |0=>rfl
 |k+1=>by
  show tc n (c+k) (lR n A (c+k))=_;rw[Cl h k];unfold tc;rw[ah];have:=(pU (lR n A c).M (c+k) (rinv n A c).len).1;omega
def m9 (A:Mx) (x:Nat->Rat) (m i:Nat):Rat:=ku (λj=>A i j*x j) m
def G9 (n m:Nat) (A:Mx) (x:Nat->Rat):Prop:=∀i,i<n->m9 A x m i=0
theorem qR (f:Nat->Rat) (t:Rat) (n:Nat):ku (λi=>t*f i) n=t*ku f n:=by
 have:=nx (λ_=>0) f t n;rw[lJ (f:=λ_=>0) λ_ _=>rfl,iO]at this;rw[<-this];exact kz λi _=>(iO _).symm
theorem BI (A:Mx) (x:Nat->Rat) (m p q i:Nat):m9 (oT A p q) x m i=if i=p then m9 A x m q else if i=q then m9 A x m p else m9 A x m i:=by
 unfold m9;by_cases h1:i=p
 ·rw[aj h1,h1];exact kz λj _=>by rw[qi]
 ·rw[ah h1];by_cases h2:i=q
  ·rw[aj h2,h2];exact kz λj _=>by rw[tg]
  ·rw[ah h2];exact kz λj _=>by rw[ul _ h1 h2]
theorem SC {n m p q:Nat} (hp:p<n) (hq:q<n) (A:Mx) (x:Nat->Rat):G9 n m (oT A p q) x↔G9 n m A x:=by
 constructor
 ·intro h i hi;by_cases h1:i=p
  ·have:=h q hq;rw[BI]at this;by_cases h2:q=p
   ·rw[aj h2]at this;rw[h1,<-h2];exact this
   ·rw[ah h2,aj rfl]at this;rw[h1];exact this
  ·by_cases h2:i=q
   ·have:=h p hp;rw[BI,aj rfl]at this;rw[h2];exact this
   ·have:=h i hi;rw[BI,ah h1,ah h2]at this;exact this
 ·intro h i hi;rw[BI];split
  ·exact h q hq
  ·split
   ·exact h p hp
   ·exact h i hi
theorem Cy (A:Mx) (x:Nat->Rat) (m r i:Nat) (a:Rat) (f:Nat->Rat):m9 (elim A r a f) x m i=if i=r then a⁻¹ *m9 A x m r else m9 A x m i+(-(f i*a⁻¹))*m9 A x m r:=by
 unfold m9;by_cases h:i=r
 ·rw[aj h,h,<-qR];refine kz λj _=> ?_;unfold elim;rw[aj rfl,bT];grind
 ·rw[ah h,<-nx];refine kz λj _=> ?_;unfold elim;rw[ah h,bT];grind
theorem PH {n m r:Nat} (hr:r<n) (A:Mx) (x:Nat->Rat) {a:Rat} (ha:a≠0) (f:Nat->Rat):G9 n m (elim A r a f) x↔G9 n m A x:=by
 constructor
 ·intro h;have h0:m9 A x m r=0:=by
   have:=h r hr;rw[Cy,aj rfl]at this;rcases fO.1 this with g|g
   ·exact absurd (by have:=bW a ha;rw[g,eg]at this;exact absurd this dD) ha
   ·exact g
  intro i hi;by_cases e:i=r
  ·rw[e];exact h0
  ·have:=h i hi;rw[Cy,ah e,h0,eg,hJ]at this;exact this
 ·intro h i hi;rw[Cy,h r hr,h i hi];split<;>grind
theorem BE (n m:Nat) (A:Mx) (x:Nat->Rat):∀c,G9 n m (lR n A c).M x↔G9 n m A x
 |0=>Iff.rfl
 |c+1=>by
  rw[<-BE n m A x c];show G9 n m (tc n c (lR n A c)).M x↔_;have hl:=(rinv n A c).len;generalize lR n A c=s at*;obtain⟨h1,h2,h3,h4⟩:=pU s.M c hl;unfold tc;split
  ·next h=>rw[PH oO _ _ (h4 h),SC oO h]
  ·exact Iff.rfl
theorem Kw (n:Nat) (A:Mx):∀c,rK n A=(lR n A c).d*rK n (lR n A c).M
 |0=>(dZ _).symm
 |c+1=>by
  rw[Kw n A c];show _=(tc n c (lR n A c)).d*rK n (tc n c (lR n A c)).M;have hl:=(rinv n A c).len;generalize lR n A c=s at*;obtain⟨h1,h2,h3,h4⟩:=pU s.M c hl;unfold tc;split
  ·next h=>
   show _=((if pv s.M c n s.P.length=s.P.length then s.d else-s.d)*s.M (pv s.M c n s.P.length) c)*rK n (elim _ _ _ _);rw[iD,<-HB oO _ (h4 h)];split
   ·next e=>rw[e,Et]
   ·next e=>rw[Ph oO h (λg=>e g.symm)];grind
  ·rfl
theorem Ex:∀ {P:List Nat} {a n:Nat},P.Pairwise (· < ·)->(∀p∈P,a<=p/\p<a+n)->P.length=n->P=List.range' a n
 | [],a,n,_,_,h=>by rw[<-h];rfl
 |q::P,a,n,hi,hm,hl=>by
  obtain⟨n,rfl⟩:∃k,n=k+1:=⟨P.length,by rw[<-hl];rfl⟩;rw[aZ]at hl;obtain⟨h1,h2⟩:=List.pairwise_cons.1 hi;have hq:=hm q (aH ..);have key:∀ {P:List Nat} {b:Nat},P.Pairwise (· < ·)->(∀p∈P,b<=p/\p<a+(n+1))->P.length+b<=a+(n+1)\/P=[]:=by
   intro P;induction P with
   |nil=>exact λ_ _=> .inr rfl
   |cons x P ih=>
    intro b g1 g2;obtain⟨g3,g4⟩:=List.pairwise_cons.1 g1;have gx:=g2 x (aH ..);rcases ih (b:=x+1) g4 (λp hp=>⟨g3 p hp,(g2 p (aJ _ hp)).2⟩)with h|h
    ·left;rw[aZ];omega
    ·left;rw[h];simp only[aZ,gh];omega
  have hk:=key (b:=q+1) h2 λp hp=>⟨h1 p hp,(hm p (aJ _ hp)).2⟩;have hqa:q=a:=by
   rcases hk with g|g
   ·omega
   ·have:n=0:=by rw[g]at hl;simpa using hl.symm
    omega
  subst hqa;rw[List.range'_succ,Ex (a:=q+1) (n:=n) h2 (λp hp=>⟨h1 p hp,by have:=(hm p (aJ _ hp)).2;omega⟩) oO]
theorem Dt {n c:Nat} {s:Rd} (I:Ni n c s) (h:s.P.length=c):s.P=List.range c:=by
 rw[List.range_eq_range'];exact Ex I.inc (λp hp=>⟨aw _,by have:=I.lt p hp;omega⟩) h
theorem AS {n c:Nat} {s:Rd} (I:Ni n c s) (h:s.P.length=c) {l i:Nat} (hl:l<c) (hi:i<n):s.M i l=IF i l:=by
 have:=I.unit l oO i hi;rwa[Dt I h,ak,List.getElem?_range hl,fi]at this
def U0 (n:Nat) (A:Mx):Rat:=if(lR n A n).P.length=n then(lR n A n).d else 0
theorem Ru (n:Nat) (A:Mx):U0 n A=rK n A:=by
 have I:=rinv n A n;have hl:=zD n A n;rw[Kw n A n];unfold U0;generalize lR n A n=s at*;by_cases h:s.P.length=n
 ·rw[aj h,ov (B:=IF) λi hi j hj=>AS I h hj hi,Gt,fg]
 ·rw[ah h,Cn (p:=n-1) oO λj hj=>I.low (n-1) oO oO j hj,eg]
def kv (P:List Nat) (M:Mx) (f j:Nat):Rat:=if j=f then 1 else if j∈P then-M (P.idxOf j) f else 0
theorem xX {P:List Nat} (h:P.Pairwise (· < ·)):P.Nodup:=h.imp λg=>Nat.ne_of_lt g
theorem Ps {P:List Nat} {M:Mx} {f l:Nat} (hi:P.Pairwise (· < ·)) (hf:f∉P) (hl:l<P.length):kv P M f (P.getD l 0)= -M l f:=by
 have hm:=pI hl;unfold kv;rw[ah (λe=>hf (by rw[<-e];exact hm)),aj hm];congr 2;rw[ak,aF hl,fi];exact(xX hi).idxOf_getElem l hl
theorem getD_inj {P:List Nat} (hi:P.Pairwise (· < ·)) {l k:Nat} (hl:l<P.length) (hk:k<P.length) (h:P.getD l 0=P.getD k 0):l=k:=by
 rw[ak,ak,aF hl,aF hk,fi,fi]at h;exact(iN (xX hi)).1 h
theorem C1 {P:List Nat} {j:Nat} (h:j∈P):∃l,l<P.length/\P.getD l 0=j:=by
 obtain⟨l,hl,e⟩:=dY h;exact⟨l,hl,by rw[ak,aF hl];exact e⟩
theorem Ty {P:List Nat} {M:Mx} {f m:Nat} (hi:P.Pairwise (· < ·)) (hf:f∉P) (hm:∀p∈P,p<m) (hfm:f<m) (A:Mx) (i:Nat) (hu:∀l,l<P.length->A i (P.getD l 0)=IF i l):
  m9 A (kv P M f) m i=if i<P.length then A i f-M i f else A i f:=by
 have e:m9 A (kv P M f) m i=ku (λj=>(if j=f then A i f else 0)+1*(if i<P.length/\j=P.getD i 0 then-M i f else 0)) m:=by
  refine kz λj hj=> ?_;by_cases h1:j=f
  ·rw[aj h1,ah (λg=>hf (by rw[<-h1,g.2];exact pI g.1)),h1];unfold kv;rw[aj rfl];grind
  ·rw[ah h1];by_cases h2:j∈P
   ·obtain⟨l,hl,rfl⟩:=C1 h2;rw[Ps hi hf hl,hu l hl];by_cases h3:i=l
    ·rw[aj ⟨oO,by rw[h3]⟩,h3,xc];grind
    ·rw[ah (λg=>h3 (getD_inj hi g.1 hl g.2.symm)),tr h3];grind
   ·rw[ah (λg=>h2 (by rw[g.2];exact pI g.1))];unfold kv;rw[ah h1,ah h2];grind
 rw[e,nx,nz (p:=f) hfm λj _ h=>ah h,aj rfl];by_cases h:i<P.length
 ·rw[aj h,nz (p:=P.getD i 0) (hm _ (pI h)) λj _ g=>ah λq=>g q.2,aj ⟨h,rfl⟩];grind
 ·rw[ah h,lJ λj _=>ah λq=>h q.1];grind
theorem JN {n m:Nat} {s:Rd} (I:Ni n m s) {f:Nat} (hf:f∉s.P) (hfm:f<m):G9 n m s.M (kv s.P s.M f):=by
 intro i hi;rw[Ty I.inc hf I.lt hfm s.M i λl hl=>I.unit l hl i hi];split
 ·grind
 ·exact I.low i oO hi f hfm
theorem MT {n m:Nat} {A:Mx} {x y:Nat->Rat} (h:∀j,j<m->x j=y j):G9 n m A x↔G9 n m A y:=by
 have:∀i,m9 A x m i=m9 A y m i:=λi=>kz λj hj=>by rw[h j hj]
 unfold G9;constructor
 ·intro g i hi;rw[<-this];exact g i hi
 ·intro g i hi;rw[this];exact g i hi
theorem S8 (n c:Nat) (A:Mx):(lR n A (c+1)).P=if pv (lR n A c).M c n (lR n A c).P.length<n then(lR n A c).P++[c]else(lR n A c).P:=by
 show(tc n c (lR n A c)).P=_;unfold tc;split<;>rfl
theorem Be {α:Type} (q:α->Bool):∀l:List α,(l.filter q).length+(l.filter λa=> !q a).length=l.length
 | []=>rfl
 |a::l=>by
  have:=Be q l;rw[fK,fK];cases q a<;>simp only[jL,jN,g9,iG,Bool.not_false,aZ]<;>omega
theorem Cz {P:List Nat} {m:Nat} (hi:P.Pairwise (· < ·)) (hm:∀p∈P,p<m):((List.range m).filter λf=> !decide (f∈P)).length+P.length=m:=by
 have hp:((List.range m).filter λf=>decide (f∈P)).Perm P:=by
  refine(List.perm_ext_iff_of_nodup (List.nodup_range.filter _) (xX hi)).2 λa=> ?_;rw[dS,cZ,fQ];exact⟨λh=>h.2,λh=>⟨hm a h,h⟩⟩
 have h1:=hp.length_eq;have h2:=Be (λf=>decide (f∈P)) (List.range m);rw[dE]at h2;omega
theorem xz {n k:Nat} {A:Mx} (h:(lR n A (k+1)).P.length=k+1):(lR n A k).P.length=k/\pv (lR n A k).M k n k<n:=by
 have h1:=(yH n A k 1).2;have h2:=zD n A k;have e:(lR n A k).P.length=k:=oO;refine⟨e,?_⟩;rw[S8,e]at h;by_cases g:pv (lR n A k).M k n k<n
 ·exact g
 ·rw[ah g,e]at h;omega
theorem xm {n k:Nat} {A:Mx} (h:(lR n A k).P.length=k) (hp:pv (lR n A k).M k n k<n):(lR n A (k+1)).P.length=k+1/\(lR n A (k+1)).M=elim (oT (lR n A k).M k (pv (lR n A k).M k n k)) k ((lR n A k).M (pv (lR n A k).M k n k) k) λi=>oT (lR n A k).M k (pv (lR n A k).M k n k) i k:=by
 refine⟨by rw[S8,h,aj hp];simp[h],?_⟩;show(tc n k (lR n A k)).M=_;unfold tc;rw[h,aj hp]
def dd (n:Nat) (B:Mx):Nat->Rat
 |0=>1
 |k+1=>dd n B k*(lR n B k).M (pv (lR n B k).M k n k) k
def vZ (B:Mx):Prop:=∀i j,∃z:Int,B i j=z
def S2 (n:Nat) (B:Mx) (k:Nat) (B':Mx):Prop:=vZ B'/\∀(K:Nat) (s σ:Nat->Nat),k<=K->(∀a,a<k->s a=a)->(∀a,k<=a->a<K->k<=s a/\s a<n)->
 rK K (λa b=>B' (s a) (σ b))=dd n B k*rK K λa b=>(lR n B k).M (s a) (σ b)
theorem P2 {n:Nat} {B:Mx} (hB:vZ B):∀k,(lR n B k).P.length=k->∃B',S2 n B k B'
 |0,_=>⟨B,hB,λK s σ _ _ _=>(dZ _).symm⟩
 |k+1,h=>by
  obtain⟨hk,hp⟩:=xz h;obtain⟨B',hB',hI⟩:=P2 hB k hk;obtain⟨_,eM⟩:=xm hk hp;have hlen:=(rinv n B k).len;obtain⟨h1,_,_,h4⟩:=pU (lR n B k).M k (n:=n) (r:=k) oO;have ha:=h4 hp;unfold S2;rw[eM];show∃B',vZ B'/\∀(K:Nat) (s σ:Nat->Nat),k+1<=K->(∀a,a<k+1->s a=a)->(∀a,k+1<=a->a<K->k+1<=s a/\s a<n)->rK K (λa b=>B' (s a) (σ b))=(dd n B k*(lR n B k).M (pv (lR n B k).M k n k) k)*_;generalize pv (lR n B k).M k n k=p at*;generalize (lR n B k).M=N at*;refine⟨oT B' k p,λi j=> ?_,λK s σ hK hs1 hs2=> ?_⟩
  ·unfold oT;split
   ·exact hB' _ _
   ·split
    ·exact hB' _ _
    ·exact hB' _ _
  ·have hsw:∀X:Mx,(λa b=>oT X k p (s a) (σ b))=λa b=>X (if s a=k then p else if s a=p then k else s a) (σ b):=by
    intro X;funext a b;unfold oT;split
    ·rfl
    ·split<;>rfl
   have e:=hI K (λa=>if s a=k then p else if s a=p then k else s a) σ oO (λa ha=>by
    have:=hs1 a oO;show(if s a=k then p else if s a=p then k else s a)=a;rw[this,ah oO,ah oO]) λa h1' h2'=>by
     show k<=(if s a=k then p else if s a=p then k else s a)/\(if s a=k then p else if s a=p then k else s a)<n;by_cases g:a=k
     ·rw[hs1 a oO,aj g];omega
     ·have:=hs2 a oO h2';rw[ah oO];split<;>omega
   rw[hsw B',e,iD];congr 1;rw[<-hsw N];have hsk:=hs1 k oO;have ed:=HB (n:=K) (r:=k) oO (λa b=>oT N k p (s a) (σ b)) ha λa=>oT N k p (s a) k;rw[ed];congr 1;refine ov λa ha' b _=> ?_;by_cases g:a=k
   ·rw[g,tK,hsk,tK]
   ·have hne:s a≠k:=by
     by_cases g2:a<k
     ·rw[hs1 a oO];exact g
     ·have:=hs2 a oO ha';omega
    rw[rX _ g,rX _ hne,hsk]
theorem TW {n:Nat} {B:Mx} (hB:vZ B) {k:Nat} (hk:(lR n B k).P.length=k) {i:Nat} (hi:i<n) (j:Nat):∃z:Int,dd n B k*(lR n B k).M i j=z:=by
 obtain⟨B',hB',hI⟩:=P2 hB k hk;have I:=rinv n B k;have hlen:=I.len;have hu:∀ {l i:Nat},l<k->i<n->(lR n B k).M i l=IF i l:=λhl hi=>AS I hk hl hi;by_cases g:i<k
 ·have e:=hI k (λa=>a) (λb=>if b=i then j else b) (aB _) (λa _=>rfl) λa h1 h2=>absurd h2 oO;rw[ov (A:=λa b=>(lR n B k).M a (if b=i then j else b)) (B:=yE i λa=>(lR n B k).M a j) λa ha b hb=> ?_,Cx _ g]at e
  ·rw[<-e];exact GA λa _ b _=>hB' _ _
  ·unfold yE;by_cases h:b=i
   ·rw[aj h,aj h]
   ·rw[ah h,ah h];exact hu hb oO
 ·have e:=hI (k+1) (λa=>if a<k then a else i) (λb=>if b<k then b else j) oO (λa ha=>aj ha) λa h1 h2=>by
   show k<=(if a<k then a else i)/\(if a<k then a else i)<n;rw[ah oO];omega
  rw[ov (A:=λa b=>(lR n B k).M (if a<k then a else i) (if b<k then b else j)) (B:=yE k λa=>(lR n B k).M (if a<k then a else i) j) λa ha b hb=> ?_,Cx _ oO,ah (dt _)]at e
  ·rw[<-e];exact GA λa _ b _=>hB' _ _
  ·unfold yE;by_cases h:b=k
   ·rw[ah (show¬b<k by omega),aj h]
   ·rw[aj (show b<k by omega),ah h];by_cases h2:a<k
    ·rw[aj h2];exact hu oO oO
    ·rw[ah h2,hu oO hi,tr oO,tr oO]
theorem IC {n:Nat} {B:Mx}:∀k,(lR n B k).P.length=k->dd n B k≠0
 |0,_=>by show(1:Rat)≠0;decide
 |k+1,h=>by
  obtain⟨hk,hp⟩:=xz h;have hlen:=(rinv n B k).len;intro e;rcases fO.1 e with g|g
  ·exact IC k hk g
  ·exact(pU (lR n B k).M k (n:=n) (r:=k) oO).2.2.2 hp g
def JF (W:Nat->Nat->Int) (p q:Nat):Nat->Nat->Int:=λi j=>if i=p then W q j else if i=q then W p j else W i j
def EA (W:Nat->Nat->Int) (k:Nat) (last:Int):Nat->Nat->Int:=λi j=>if i=k then W k j else if j=k then 0 else(W k k*W i j-W i k*W k j).tdiv last
def GW (n m:Nat) (B:Mx) (k:Nat) (W:Nat->Nat->Int):Prop:=∀i,i<n->∀j,j<m->((W i j:Int):Rat)=dd n B k*(lR n B k).M i j
theorem Om {n m k:Nat} {B:Mx} {W:Nat->Nat->Int} (h:GW n m B k W) (hk:(lR n B k).P.length=k) {i j:Nat} (hi:i<n) (hj:j<m):W i j=0↔(lR n B k).M i j=0:=by
 have e:=h i hi j hj;constructor
 ·intro g;rw[g]at e;rcases fO.1 e.symm with q|q
  ·exact absurd q (IC k hk)
  ·exact q
 ·intro g;rw[g,eg]at e;exact gW.1 e
theorem PD {n m k:Nat} {B:Mx} {W:Nat->Nat->Int} (hB:vZ B) (h:GW n m B k W) (hk:(lR n B k).P.length=k) (hkm:k<m) (hp:pv (lR n B k).M k n k<n) {last:Int} (hl:((last:Int):Rat)=dd n B k):
  GW n m B (k+1) (EA (JF W k (pv (lR n B k).M k n k)) k last)/\((EA (JF W k (pv (lR n B k).M k n k)) k last k k:Int):Rat)=dd n B (k+1):=by
 obtain⟨hk1,eM⟩:=xm hk hp;have hlen:=(rinv n B k).len;obtain⟨h1,_,_,h4⟩:=pU (lR n B k).M k (n:=n) (r:=k) oO;have ha:=h4 hp;have hd:dd n B (k+1)=dd n B k*(lR n B k).M (pv (lR n B k).M k n k) k:=rfl;have hd0:=IC k hk;have hex:=λi (hi:i<n) j=>TW hB hk1 hi j;have hW:∀i,i<n->∀j,j<m->((JF W k (pv (lR n B k).M k n k) i j:Int):Rat)=dd n B k*oT (lR n B k).M k (pv (lR n B k).M k n k) i j:=by
  intro i hi j hj;unfold JF oT;split
  ·exact h _ hp j hj
  ·split
   ·exact h _ oO j hj
   ·exact h _ hi j hj
 unfold GW;rw[eM]at hex⊢;rw[hd]at hex⊢;generalize hpp:pv (lR n B k).M k n k=p at*;generalize (lR n B k).M=N at*;generalize JF W k p=V at*;generalize dd n B k=D at*;have hkk:((V k k:Int):Rat)=D*N p k:=by rw[hW k oO k hkm,qi]
 refine⟨λi hi j hj=> ?_,by unfold EA;rw[aj rfl];exact hkk⟩;unfold EA;by_cases g:i=k
 ·rw[aj g,g,hW k oO j hj,tK];rw[bT];have:=bW _ ha;grind
 ·rw[ah g];by_cases g2:j=k
  ·rw[aj g2,g2,rX _ g,qi,bT,bW _ ha];show((0:Int):Rat)=_;grind
  ·rw[ah g2];obtain⟨z,hz⟩:=hex i hi j;have e:V k k*V i j-V i k*V k j=last*z:=by
    refine gW.1 ?_;rw[j5,eJ,eJ,eJ,hkk,hW i hi j hj,hW i hi k hkm,hW k oO j hj,hl,<-hz,rX _ g,qi,bT];have:=bW _ ha;grind
   have hl0:last≠0:=λq=>hd0 (by rw[<-hl,q];rfl);rw[e,Int.mul_tdiv_cancel_left _ hl0,<-hz]
theorem wn {n:Nat} {A B:Mx} {c:Nat->Rat} (hc:∀i,i<n->c i≠0) (hB:∀i,i<n->∀j,B i j=c i*A i j):∀k,(lR n A k).P.length=k->
  (lR n B k).P.length=k/\∃c':Nat->Rat,(∀i,i<n->c' i≠0)/\∀i,i<n->∀j,(lR n B k).M i j=(if i<k then 1 else c' i)*(lR n A k).M i j
 |0,_=>⟨rfl,c,hc,λi hi j=>by rw[ah (aS _)];exact hB i hi j⟩
 |k+1,h=>by
  obtain⟨hk,hp⟩:=xz h;obtain⟨hkB,c',hc',hM⟩:=wn hc hB k hk;obtain⟨hk1,eA⟩:=xm hk hp;have hlen:=(rinv n A k).len;have ep:pv (lR n B k).M k n k=pv (lR n A k).M k n k:=QB oO λi h1 h2=>by
   rw[hM i h2,ah oO];constructor
   ·intro g;rcases fO.1 g with q|q
    ·exact absurd q (hc' i h2)
    ·exact q
   ·intro g;rw[g,eg]
  obtain⟨hk2,eB⟩:=xm hkB (by rw[ep];exact hp);refine⟨hk2,?_⟩;rw[eA,eB,ep];obtain⟨h1,_,_,h4⟩:=pU (lR n A k).M k (n:=n) (r:=k) oO;have ha:=h4 hp;generalize pv (lR n A k).M k n k=p at*;generalize (lR n A k).M=M at*;generalize (lR n B k).M=N at*;have hcp:=hc' p hp;have hr:∀j,N p j/N p k=M p j/M p k:=by
   intro j;rw[hM p hp j,hM p hp k,ah oO,bT,bT];have e1:=bW _ ha;have e2:=bW _ hcp;have e3:(c' p*M p k)⁻¹ =(c' p)⁻¹ *(M p k)⁻¹ :=by
    have h0:c' p*M p k≠0:=λq=>by
     rcases fO.1 q with w|w
     ·exact hcp w
     ·exact ha w
    have e4:=bW _ h0;grind
   rw[e3];grind
  refine⟨λi=>if i=p then c' k else c' i,λi hi=> ?_,λi hi j=> ?_⟩
  ·show(if i=p then c' k else c' i)≠0;split
   ·exact hc' k oO
   ·exact hc' i hi
  ·by_cases g:i=k
   ·rw[g,tK,tK,qi,qi,hr,aj oO,dZ]
   ·rw[rX _ g,rX _ g,qi,qi,hr];by_cases g2:i=p
    ·have f1:oT N k p p j=c' k*M k j:=by rw[tg,hM k oO,ah oO]
     have f2:oT N k p p k=c' k*M k k:=by rw[tg,hM k oO,ah oO]
     have f3:oT M k p p j=M k j:=by rw[tg]
     have f4:oT M k p p k=M k k:=by rw[tg]
     dsimp only;rw[g2,f1,f2,f3,f4,ah oO,aj rfl];grind
    ·have f1:=hM i hi j;have f2:=hM i hi k;rw[ul N g g2,ul M g g2];dsimp only;have q1:oT N k p i k=N i k:=ul _ g g2 _;have q2:oT M k p i k=M i k:=ul _ g g2 _;rw[q1,q2];by_cases g3:i<k
     ·rw[aj g3]at f1 f2;rw[f1,f2,aj oO];grind
     ·rw[ah g3]at f1 f2;rw[f1,f2,ah oO,ah g2];grind
open Go Go.RowKit Go.Proofs.YtoeiejliehgopaaGreatDoor
structure Rw (α:Type)where
 b:Nat
 cap:Nat
 X:List α
 sp:List Value
def o5 {α:Type}:Rw α:=⟨0,0,[],[]⟩
def Rw.v {α:Type} (r:Rw α):Value:= .slice (some ⟨r.b,0,none⟩) r.X.length r.cap
def Rw.yf {α:Type} (enc:α->List Value) (t:TypeId) (r:Rw α):lj:=(r.b,t,r.X.flatMap enc++r.sp)
def Rw.put {α:Type} (r:Rw α) (j:Nat) (u:α):Rw α:=⟨r.b,r.cap,r.X.set j u,r.sp⟩
def mB {α:Type} (enc:α->List Value) (t tS:TypeId) (bo:Nat) (R:List (Rw α)) (H:List lj):List lj:=(bo,tS,R.map Rw.v)::(R.map (Rw.yf enc t)++H)
theorem nQ {α:Type} (l:List α) (d:α) {i:Nat} (h:i<l.length):l.getD i d=l[i]:=by
 rw[ak,aF h];rfl
theorem ni {α:Type} (l:List α) (d u:α) {i j:Nat} (hi:i<l.length):(l.set i u).getD j d=if j=i then u else l.getD j d:=by
 rw[ak,fD,ak];by_cases h:j=i
 ·subst h;simp[hi]
 ·rw[ah (λe=>h e.symm),ah h]
theorem Ol {α:Type} {enc:α->List Value} {t tS:TypeId} {bo:Nat} {R:List (Rw α)} {H:List lj} {i:Nat} (hi:i<R.length):(mB enc t tS bo R H)[i+1]?=some ((R.getD i o5).b,t,(R.getD i o5).X.flatMap enc++(R.getD i o5).sp):=by
 unfold mB;rw[List.getElem?_cons_succ,cK (by rw[bj];exact hi),jW,aF hi,nQ R o5 hi];rfl
theorem Ce {α:Type} {R:List (Rw α)} {i:Nat} (hi:i<R.length):(R.map Rw.v)[i]?=some (R.getD i o5).v:=by
 rw[jW,aF hi,nQ R o5 hi];rfl
theorem Vt {α:Type} (r:Rw α) (j:Nat) (u:α):(r.put j u).v=r.v:=by
 unfold Rw.v Rw.put;rw[bG]
theorem Nc {α:Type} (R:List (Rw α)) {i:Nat} (j:Nat) (u:α) (hi:i<R.length):(R.set i ((R.getD i o5).put j u)).map Rw.v=R.map Rw.v:=by
 rw[ia,Vt,nQ R o5 hi];refine fm (by simp) λk h1 h2=> ?_;rw[List.getElem_set];split
 ·next h=>subst h;rw[ew]
 ·rfl
theorem TG {α:Type} {enc:α->List Value} {t tS:TypeId} {bo:Nat} {R:List (Rw α)} {H:List lj} {i:Nat} (j:Nat) (u:α) (hi:i<R.length):
  (mB enc t tS bo R H).set (i+1) ((R.getD i o5).b,t,((R.getD i o5).X.set j u).flatMap enc++(R.getD i o5).sp)=mB enc t tS bo (R.set i ((R.getD i o5).put j u)) H:=by
 unfold mB;rw[Nc R j u hi,List.set_cons_succ,List.set_append_left _ _ (by rw[bj];exact hi),ia];rfl
def CL {α:Type} (R:List (Rw α)) (i j:Nat):List (Rw α):=(R.set i (R.getD j o5)).set j (R.getD i o5)
theorem Qd {α:Type} (R:List (Rw α)) (i j:Nat):(CL R i j).length=R.length:=by unfold CL;rw[bG,bG]
theorem Ik {α:Type} (R:List (Rw α)) {i j:Nat} (hi:i<R.length) (hj:j<R.length) (k:Nat):(CL R i j).getD k o5=if k=j then R.getD i o5 else if k=i then R.getD j o5 else R.getD k o5:=by
 unfold CL;rw[ni _ _ _ (by rw[bG];exact hj),ni _ _ _ hi]
structure mN {α:Type} (R:List (Rw α)) (n m:Nat) (f:Nat->Nat->α):Prop where
 len:R.length=n
 row:∀i,i<n->(R.getD i o5).X=kD m (f i)
 cap:∀i,i<n->m<=(R.getD i o5).cap/\(R.getD i o5).cap<=9223372036854775807
section
variable {α : Type} {R : List (Rw α)} {n m : Nat} {f g : Nat → Nat → α}
theorem mN.x9 (h:mN R n m f) {i:Nat} (hi:i<n):(R.getD i o5).X.length=m:=by rw[h.row i hi,kj]
theorem mN.v (h:mN R n m f) {i:Nat} (hi:i<n):(R.getD i o5).v= .slice (some ⟨(R.getD i o5).b,0,none⟩) m (R.getD i o5).cap:=by unfold Rw.v;rw[h.x9 hi]
theorem mN.get (h:mN R n m f) {i j:Nat} (hi:i<n) (hj:j<m) (d:α):(R.getD i o5).X.getD j d=f i j:=by rw[h.row i hi];exact kB _ _ hj
theorem mN.congr (h:mN R n m f) (e:∀i,i<n->∀j,j<m->f i j=g i j):mN R n m g:=⟨h.len,λi hi=>by rw[h.row i hi];exact kN λj hj=>e i hi j hj,h.cap⟩
theorem mN.put (h:mN R n m f) {i:Nat} (hi:i<n) (j:Nat) (u:α):mN (R.set i ((R.getD i o5).put j u)) n m λa b=>if a=i/\b=j then u else f a b:=by
 have hl:i<R.length:=by rw[h.len];exact hi
 refine⟨by rw[bG,h.len],λa ha=> ?_,λa ha=> ?_⟩
 ·rw[ni _ _ _ hl];by_cases e:a=i
  ·rw[aj e];show(R.getD i o5).X.set j u=_;rw[h.row i hi,mZ,e];exact kN λb _=>by
    by_cases q:b=j
    ·rw[aj q,aj ⟨rfl,q⟩]
    ·rw[ah q,ah λz=>q z.2]
  ·rw[ah e,h.row a ha];exact kN λb _=>by rw[ah λz=>e z.1]
 ·rw[ni _ _ _ hl];by_cases e:a=i
  ·rw[aj e];exact h.cap i hi
  ·rw[ah e];exact h.cap a ha
theorem mN.GN (h:mN R n m f) {i j:Nat} (hi:i<n) (hj:j<n):mN (CL R i j) n m λa b=>if a=j then f i b else if a=i then f j b else f a b:=by
 have hi':i<R.length:=by rw[h.len];exact hi
 have hj':j<R.length:=by rw[h.len];exact hj
 refine⟨by rw[Qd,h.len],λa ha=> ?_,λa ha=> ?_⟩
 ·rw[Ik R hi' hj'];by_cases e1:a=j
  ·simp only[aj e1];exact h.row i hi
  ·by_cases e2:a=i
   ·simp only[ah e1,aj e2];exact h.row j hj
   ·simp only[ah e1,ah e2];exact h.row a ha
 ·rw[Ik R hi' hj'];split
  ·exact h.cap i hi
  ·split
   ·exact h.cap j hj
   ·exact h.cap a ha
theorem mN.sl {enc:α->List Value} {size:Nat} {t tS:TypeId} {bo:Nat} {H:List lj} {w0 w:World} (h:mN R n m f) (hS:St w0 w (mB enc t tS bo R H)) (hu:∀x,(enc x).length=size) {i:Nat} (hi:i<n):Sl enc size w (R.getD i o5).v (kD m (f i)):=by
 have hl:i<R.length:=by rw[h.len];exact hi
 have:=hS.Xa (Ol hl) hu (n:=m) (cap:=(R.getD i o5).cap) (by rw[h.x9 hi];omega) (h.cap i hi).1 (h.cap i hi).2;rwa[h.row i hi,aU (by rw[kj];omega),<-h.v hi]at this
def se (v:Value):List Value:=[v]
theorem CQ (l:List Value):l.flatMap se=l:=by
 induction l with
 |nil=>rfl
 |cons a l ih=>rw[cj,ih];rfl
theorem mN.outer {enc:α->List Value} {t tS:TypeId} {bo:Nat} {H:List lj} {w0 w:World} (h:mN R n m f) (hS:St w0 w (mB enc t tS bo R H)) {cap:Nat} (h1:n<=cap) (h2:cap<=9223372036854775807):Sl se 1 w (.slice (some ⟨bo,0,none⟩) n cap) (R.map Rw.v):=by
 have hk:(mB enc t tS bo R H)[0]?=some (bo,tS,R.map Rw.v):=rfl;rw[<-CQ (R.map Rw.v)]at hk;have:=hS.sle hk (λ_=>rfl) (n:=n) (cap:=cap) (by rw[bj,h.len];omega) h1 h2;rwa[aU (by rw[bj,h.len];omega)]at this
end
structure rB {α:Type} (enc:α->List Value) (size:Nat) (w:World) (v:Value) (A:List (List α)) (vs:List Value):Prop where
 len:vs.length=A.length
 sl:Sl se 1 w v vs
 row:∀i,i<A.length->Sl enc size w (vs.getD i undef) (A.getD i [])
theorem rB.kb {α:Type} {enc:α->List Value} {size:Nat} {w w':World} {v:Value} {A:List (List α)} {vs:List Value} (h:rB enc size w v A vs) (hb:Below w.heap.size w w'):rB enc size w' v A vs:=⟨h.len,h.sl.kb hb,λi hi=>(h.row i hi).kb hb⟩
def wN {α:Type} (n m:Nat) (f:Nat->Nat->α):List (List α):=kD n λi=>kD m (f i)
theorem nl {α:Type} (n m:Nat) (f:Nat->Nat->α):(wN n m f).length=n:=kj _ _
theorem p9 {α:Type} {n m:Nat} (f:Nat->Nat->α) {i:Nat} (hi:i<n):(wN n m f).getD i []=kD m (f i):=kB _ _ hi
theorem mN.Lc {α:Type} {R:List (Rw α)} {n m:Nat} {f:Nat->Nat->α} {enc:α->List Value} {size:Nat} {t tS:TypeId} {bo:Nat} {H:List lj} {w0 w:World} (h:mN R n m f) (hS:St w0 w (mB enc t tS bo R H)) (hu:∀x,(enc x).length=size) {cap:Nat} (h1:n<=cap) (h2:cap<=9223372036854775807):
  rB enc size w (.slice (some ⟨bo,0,none⟩) n cap) (wN n m f) (R.map Rw.v):=by
 refine⟨by rw[bj,h.len,nl],h.outer hS h1 h2,λi hi=> ?_⟩;rw[nl]at hi;rw[p9 f hi,ak,Ce (by rw[h.len];exact hi)];exact h.sl hS hu hi
section
variable {P : Program} {N : Nat} {ρ : Nat → Value} {w0 w w' : World} {d : Option Tmp} {ty : TypeId} {pos : String} {aft : Array Edge} {g : Option (Nat × Bool)} {x y z : Operand} {t t' e : TypeId} {H : List lj} {k b o : Nat} {v : Value} {K : Value → Prop} {K2 : Value → World → Prop}
  {α : Type} {enc : α → List Value} {size : Nat} {R : List (Rw α)} {tR tS : TypeId} {bo : Nat} {zz : List Value}
end
end Go.Sx
namespace Go.Proofs.YtoeiejliehgopaaGreatDoor
open Go Go.RowKit Go.Sx
def nu (A:List (List RR)):Nat:=(A.getD 0 []).length
def Bj (A:List (List RR)):Bool:=A.all λr=>decide (r.length=nu A)
def ui (A:List (List RR)):Int:=if A.length=0\/nu A=0 then 4 else if Bj A=false then 4 else if 16<A.length\/16<nu A then 2 else 0
def O3 (A:List (List RR)):Int:=if ui A≠0 then ui A else if A.length≠nu A then 4 else 0
theorem xM {A:List (List RR)} (h:ui A=0):1<=A.length/\A.length<=16/\1<=nu A/\nu A<=16/\∀i,i<A.length->(A.getD i []).length=nu A:=by
 unfold ui at h;split at h
 ·cases h
 ·next h1=>
  split at h
  ·cases h
  ·next h2=>
   split at h
   ·cases h
   ·next h3=>
    refine⟨oO,oO,oO,oO,λi hi=> ?_⟩;have h4:Bj A=true:=by cases q:Bj A with
     |true=>rfl
     |false=>exact absurd q h2
    have:=cO.1 h4 _ (kO A i [] hi);exact gB this
theorem HJ {α:Type} (f:α->Bool) (l:List α) (d:α) {i:Nat} (hi:i<l.length) (h:(l.take i).all f=true):
  (f (l.getD i d)=true->(l.take (i+1)).all f=true)/\(f (l.getD i d)=false->l.all f=false):=by
 have e:l.take (i+1)=l.take i++[l.getD i d]:=by
  rw[jT hi,ak,aF hi];rfl
 constructor
 ·intro g;rw[e,fP,h,f9,g];rfl
 ·intro g;rw[List.all_eq_false];exact⟨_,kO l i d hi,by rw[g];simp⟩
theorem E6 (v:Value) (A:List (List RR)) (vs:List Value) (w:World) (hA:rB ke 3 w v A vs):
  mb Tryz.prog 170 #[v] w λr w'=>r= .int .i64 (ui A)/\Below w.heap.size w w':=by
 have hS:=St.init w;have hmx:=hA.sl.maxLen;have hlen:=hA.len;refine enter Tryz.func170 rfl Tryz.ntmps170 rfl ?_;refine V1 ?_;by_cases h0:A.length=0
 ·have he:ui A=4:=aj (.inl h0);rw[he];refine J1 ?_;refine jp (ky rfl (hA.sl.kb hS.kb) ⟨_,Tryz.underlying35⟩ ?_);refine J2 ?_;refine kS (kg 8 kR rfl dT) (kS (kg 8 kR rfl dT) (kS (kg 8 kR rfl dT) (kS (kg 8 kR rfl dT) (kS (kg 8 kR rfl dT) (jp (kH (vb rfl dT) rfl ?_))))));refine ja ?_;refine lu rfl (rfl) ?_;refine J1 ?_;refine jt ?_;refine kJ rfl rfl ?_;exact⟨rfl,hS.kb⟩
 have hr0:=hA.row 0 oO;have hm0:=hr0.maxLen;refine J1 ?_;refine jp (ky rfl (hA.sl.kb hS.kb) ⟨_,Tryz.underlying35⟩ ?_);refine J2 ?_;refine ko (kd 8 kR rfl dF) (kw rfl (ko (kd 8 kR rfl dF) (ks (i:=0) rfl rfl (hA.sl.kb hS.kb) oO dO lS (lA (kd 8 kR rfl dF) (kC (i:=0) undef rfl md (hA.sl.kb hS.kb) dO rfl rfl (.inr rfl) (ko (kd 8 kR rfl dF) (ky rfl (hr0.kb hS.kb) ⟨_,Tryz.underlying34⟩ (ko (kd 8 kR rfl dF) (qO rfl rfl (jp (kH (vb rfl dF) rfl ?_)))))))))));refine ja ?_;have hc0:nu A=(A.getD 0 []).length:=rfl;by_cases h1:nu A=0
 ·have he:ui A=4:=aj (.inr h1);rw[he];refine J2 ?_;refine jt ?_;refine kJ rfl rfl ?_;exact⟨rfl,hS.kb⟩
 refine V1 ?_;have e1:ui A=if Bj A=false then 4 else if 16<A.length\/16<nu A then 2 else 0:=ah oO
 refine J1 ?_;refine jp (ky rfl (hA.sl.kb hS.kb) ⟨_,Tryz.underlying35⟩ ?_);refine J1 ?_;refine jb ?_;refine kG (λρ w'=>Bj A=true/\ρ 0=v/\St w w' []) ?_ ?_
 ·refine ja ?_;refine kF (σ:=Nat) (λi ρ w'=>i<=A.length/\(A.take i).all (λr=>decide (r.length=nu A))=true/\ρ 0=v/\ρ 15=v/\ρ 16=iB A.length/\ρ 17=iB i/\St w w' []) (λi=>A.length-i) 0
   ⟨aw _,by simp,rfl,rfl,vi rfl oO,rfl,hS⟩ ?_
  clear hS;rintro i ρ w2 ⟨hi,hall,h0',h15,h16,h17,hS⟩;refine V1 ?_;by_cases hlt:i<A.length
  ·refine V1 ?_;have hri:=hA.row i hlt;have hmi:=hri.maxLen;have hd:(A.getD i []).length=nu A↔decide ((A.getD i []).length=nu A)=true:=(fo).symm;refine jr ?_;refine jp (ks (i:=i) h15 h17 (hA.sl.kb hS.kb) oO dO lS (jq (kC (i:=i) undef rfl md (hA.sl.kb hS.kb) dO rfl rfl (.inr rfl) ?_)));refine J2 ?_;refine jp (ky rfl (hri.kb hS.kb) ⟨_,Tryz.underlying34⟩ ?_);refine J1 ?_;refine jp (ks (i:=0) rfl rfl (hA.sl.kb hS.kb) oO dO lS (jq (kC (i:=0) undef rfl md (hA.sl.kb hS.kb) dO rfl rfl (.inr rfl) (jp (ky rfl (hr0.kb hS.kb) ⟨_,Tryz.underlying34⟩ ?_)))));refine V1 ?_;by_cases hne:(A.getD i []).length=nu A
   ·refine V3 ?_;exact⟨i+1,_,rfl,⟨hlt,(HJ (λr:List RR=>decide (r.length=nu A)) A [] hlt hall).1 (hd.1 hne),jY,jY,jY,vi rfl oO,hS⟩,oO⟩
   ·refine V1 ?_;have he:ui A=4:=by
     have hev:Bj A=false:=(HJ (λr:List RR=>decide (r.length=nu A)) A [] hlt hall).2 (ae hne);rw[e1,aj hev]
    rw[he];refine J1 ?_;refine jt ?_;refine kJ rfl rfl ?_;exact⟨rfl,hS.kb⟩
  ·refine J1 ?_;refine jt ?_;obtain rfl:i=A.length:=oO;rw[bO]at hall;exact⟨_,rfl,hall,h0',hS⟩
 clear hS;rintro ρ w2 ⟨hev,h0',hS⟩;refine ja ?_;have e2:ui A=if 16<A.length\/16<nu A then 2 else 0:=by rw[e1,ah (by rw[hev];simp)]
 rw[e2];by_cases h3:16<A.length
 ·rw[aj (.inl h3)];refine J1 ?_;refine jp (ky rfl (hA.sl.kb hS.kb) ⟨_,Tryz.underlying35⟩ ?_);refine J2 ?_;refine kS (kg 32 kR rfl dT) (kS (kg 32 kR rfl dT) (kS (kg 32 kR rfl dT) (kS (kg 32 kR rfl dT) (kS (kg 32 kR rfl dT) (jp (kH (vb rfl dT) rfl ?_))))));refine ja ?_;refine lu rfl (rfl) ?_;refine J1 ?_;refine jt ?_;refine kJ rfl rfl ?_;exact⟨rfl,hS.kb⟩
 refine J1 ?_;refine jp (ky rfl (hA.sl.kb hS.kb) ⟨_,Tryz.underlying35⟩ ?_);refine J2 ?_;refine ko (kd 32 kR rfl dF) (kw h0' (ko (kd 32 kR rfl dF) (ks (i:=0) rfl rfl (hA.sl.kb hS.kb) oO dO lS (lA (kd 32 kR rfl dF) (kC (i:=0) undef rfl md (hA.sl.kb hS.kb) dO rfl rfl (.inr rfl) (ko (kd 32 kR rfl dF) (ky rfl (hr0.kb hS.kb) ⟨_,Tryz.underlying34⟩ (ko (kd 32 kR rfl dF) (sT rfl rfl (jp (kH (vb rfl dF) rfl ?_)))))))))));refine ja ?_;by_cases h4:16<nu A
 ·rw[aj (.inr h4)];refine J2 ?_;refine jt ?_;refine kJ rfl rfl ?_;exact⟨rfl,hS.kb⟩
 rw[ah oO];refine J2 ?_;refine jt ?_;refine kJ rfl rfl ?_;exact⟨rfl,hS.kb⟩
theorem JV (v:Value) (A:List (List RR)) (vs:List Value) (w:World) (hA:rB ke 3 w v A vs):
  mb Tryz.prog 140 #[v] w λr w'=>r= .int .i64 (O3 A)/\Below w.heap.size w w':=by
 have hS:=St.init w;have hmx:=hA.sl.maxLen;have hlen:=hA.len;refine enter Tryz.func140 rfl Tryz.ntmps140 rfl ?_;refine J2 ?_;refine jh (kf Tryz.call170 rfl (E6 v A vs _ (hA.kb hS.kb)) ?_);rintro _ wc1 ⟨rfl,hBc1⟩;replace hS:=hS.kx hBc1;refine V3 ?_;by_cases h0:ui A=0
 ·refine V1 ?_;obtain⟨h1,h2,h3,h4,h5⟩:=xM h0;have hr0:=hA.row 0 oO;have hc0:nu A=(A.getD 0 []).length:=rfl;have e1:O3 A=if A.length≠nu A then 4 else 0:=ah oO
  rw[e1];refine J1 ?_;refine jp (ky rfl (hA.sl.kb hS.kb) ⟨_,Tryz.underlying35⟩ ?_);refine J1 ?_;refine jp (ks (i:=0) rfl rfl (hA.sl.kb hS.kb) oO dO lS (jq (kC (i:=0) undef rfl md (hA.sl.kb hS.kb) dO rfl rfl (.inr rfl) (jp (ky rfl (hr0.kb hS.kb) ⟨_,Tryz.underlying34⟩ ?_)))));refine V1 ?_;by_cases h6:A.length=nu A
  ·rw[ah oO];refine J2 ?_;refine jt ?_;refine kJ rfl rfl ?_;exact⟨rfl,hS.kb⟩
  ·rw[aj h6];refine J2 ?_;refine jt ?_;refine kJ rfl rfl ?_;exact⟨rfl,hS.kb⟩
 ·have e1:O3 A=ui A:=aj h0;rw[e1];refine J3 ?_;refine jt ?_;refine kJ rfl rfl ?_;exact⟨rfl,hS.kb⟩
theorem AP (q:Rat) (w:World):mb Tryz.prog 197 #[lC (ki q)] w λr w'=>r= .bool (decide (q=0))/\Below w.heap.size w w':=by
 have hS:=St.init w;refine enter Tryz.func197 rfl Tryz.ntmps197 rfl ?_;refine jr ?_;refine jh (lx (new:=ke (ki q)) rfl rfl hS ?_);intro b1 wz2 hS hBz2;refine J3 ?_;refine jp (qk rfl rfl ?_);refine J1 ?_;refine jt ?_;refine kJ rfl rfl ?_;exact⟨bB Value.bool (dJ.2 qo),hS.kb⟩
def RM (A:List (List RR)):Mx:=λi j=>toQ ((A.getD i []).getD j kZ)
def MA (k:Nat) (A:List (List RR)):Prop:=∀a∈A,RB k a
theorem P0 {k:Nat} {A:List (List RR)} (h:MA k A) {i j:Nat} (hi:i<A.length) (hj:j<(A.getD i []).length):Lr ((A.getD i []).getD j kZ)<=k:=h _ (kO A i [] hi) _ (kO _ j kZ hj)
theorem Ns {k:Nat} {A:List (List RR)} (h:MA k A) {i j:Nat} (hi:i<A.length) (hj:j<(A.getD i []).length):L (RM A i j)<=k:=cQ (uM _) (P0 h hi hj)
abbrev qM (M:Mx):Nat->Nat->RR:=λi j=>ki (M i j)
theorem RO {α:Type} (l:List α) (x:α) (r:List α) {i:Nat} (h:l.length=i):(l++x::r)[i]?=some x:=by
 subst h;rw[cH (aB _),dU];rfl
theorem B5 {α:Type} (l:List α) (x y:α) (r:List α) {i:Nat} (h:l.length=i):(l++x::r).set i y=l++y::r:=by
 subst h;rw[i2 _ _ (aB _),dU];rfl
theorem TE {α:Type} {enc:α->List Value} {e:TypeId} {size:Nat} {v:Value} {X:List α} {Lb:List lj} (h:Gl enc e size v X Lb) (hX:X≠ []):∃r:Rw α,r.X=X/\v=r.v/\Lb=[r.yf enc e]/\r.X.length<=r.cap/\r.cap<=9223372036854775807/\(r.X.flatMap enc++r.sp).length=r.cap*size:=by
 obtain⟨_,⟨_,h2,_⟩|⟨b,cap,sp,h1,h2,h3,h4,h5⟩⟩:=h
 ·exact absurd (gw.1 h2) hX
 ·exact⟨⟨b,cap,X,sp⟩,rfl,h1,h2,h3,by unfold Go.maxLen at h4;omega,h5⟩
theorem AK {α:Type} {R:List (Rw α)} {i m:Nat} {f:Nat->Nat->α} (h:mN R i m f) {r:Rw α} (hX:r.X=kD m (f i)) (hc:m<=r.cap/\r.cap<=9223372036854775807):mN (R++[r]) (i+1) m f:=by
 have hg:∀a,(R++[r]).getD a o5=if a<i then R.getD a o5 else if a=i then r else o5:=by
  intro a;rw[ak];by_cases e:a<i
  ·rw[aj e,cK (by rw[h.len];exact e),ak]
  ·rw[ah e,cH (by rw[h.len];omega),h.len];by_cases e2:a=i
   ·rw[aj e2,e2,dU];rfl
   ·rw[ah e2,dj (by simp;omega)];rfl
 refine⟨by rw[ax,h.len];rfl,λa ha=> ?_,λa ha=> ?_⟩
 ·rw[hg];by_cases e:a<i
  ·rw[aj e];exact h.row a e
  ·obtain rfl:a=i:=oO;rw[ah e,aj rfl];exact hX
 ·rw[hg];by_cases e:a<i
  ·rw[aj e];exact h.cap a e
  ·obtain rfl:a=i:=oO;rw[ah e,aj rfl];exact hc
def F7 (R:List (Rw RR)):Prop:=∀r∈R,(r.X.flatMap ke++r.sp).length=r.cap*3
def kp:Value:= .slice none 0 0
theorem FV (n:Nat):rep n [kp]=List.replicate n kp:=by
 induction n with
 |zero=>rfl
 |succ n ih=>rw[xl,ih];rfl
theorem AO (v:Value) (A:List (List RR)) (vs:List Value) (m K:Nat) (w:World) (hA:rB ke 3 w v A vs) (hn1:1<=A.length) (hn:A.length<=1000) (hm1:1<=m) (hm:m<=1000) (hev:∀i,i<A.length->(A.getD i []).length=m) (hB:MA K A) (hK:K<=MX):
  mb Tryz.prog 141 #[v] w λr w'=>(∃bo R,r= .slice (some ⟨bo,0,none⟩) A.length A.length/\mN R A.length m (qM (RM A))/\F7 R/\St w w' (mB ke 32 34 bo R []))/\Below w.heap.size w w':=by
 have hM:MX=1099511627776:=rfl;obtain⟨n,hn'⟩:∃n,n=A.length:=⟨_,rfl⟩;rw[<-hn']at hn1 hn hev⊢;have hS:=St.init w;have hlen:=hA.len;refine enter Tryz.func141 rfl Tryz.ntmps141 rfl ?_;refine J2 ?_;refine jp (ky rfl (hA.sl.kb hS.kb) ⟨_,Tryz.underlying35⟩ (jh (Ao (n:=n) rfl rfl lS oO oO oO oO hS ?_)));intro bo wz1 hS hBz1;refine V1 ?_;replace hS:St w _ [(bo,34,rep n [kp])]:=hS;rw[FV]at hS;refine J1 ?_;refine jp (ky rfl (hA.sl.kb hS.kb) ⟨_,Tryz.underlying35⟩ ?_);refine J1 ?_;refine jb ?_;refine kG (λρ w'=>ρ 3= .slice (some ⟨bo,0,none⟩) n n/\∃R,mN R n m (qM (RM A))/\F7 R/\St w w' (mB ke 32 34 bo R [])) ?_ ?_
 ·refine ja ?_;refine kF (σ:=Nat) (λi ρ w'=>i<=n/\ρ 3= .slice (some ⟨bo,0,none⟩) n n/\ρ 11=v/\ρ 12=iB n/\ρ 13=iB i/\∃R,mN R i m (qM (RM A))/\F7 R/\St w w' ((bo,34,R.map Rw.v++List.replicate (n-i) kp)::R.map (Rw.yf ke 32))) (λi=>n-i) 0
   ⟨aw _,rfl,rfl,vi rfl oO,rfl,[],⟨rfl,λi hi=>absurd hi (aS _),λi hi=>absurd hi (aS _)⟩,(λ_ h=>by cases h),hS⟩ ?_
  clear hS;rintro i ρ w2 ⟨hi,h3,h11,h12,h13,R,hR,hF,hS⟩;refine V1 ?_;by_cases hlt:i<n
  ·refine V1 ?_;have hri:=hA.row i oO;have hli:=hev i hlt;obtain⟨row,hrow⟩:=jz (A.getD i []);obtain⟨vr,hvr⟩:=jz (vs.getD i undef);rw[<-hrow]at hri hli;rw[<-hvr]at hri;obtain⟨d,hd⟩:∃d,n-i=d+1:=⟨n-i-1,oO⟩;rw[hd,fW]at hS;refine J1 ?_;refine jp (ks (i:=i) h11 h13 (hA.sl.kb hS.kb) oO dO lS (jq (kC (i:=i) undef rfl md (hA.sl.kb hS.kb) dO rfl rfl (.inr rfl) ?_)));refine V2 ?_;rw[<-hvr];refine jr ?_;refine jp (kw rfl (jp (ky rfl (hri.kb hS.kb) ⟨_,Tryz.underlying34⟩ ?_)));refine J1 ?_;refine jb ?_;refine kG (λρ w'=>ρ 3= .slice (some ⟨bo,0,none⟩) n n/\ρ 11=v/\ρ 12=iB n/\ρ 13=iB i/\∃vi_ Li,Gl ke 32 3 vi_ (kD m (qM (RM A) i)) Li/\St w w' (((bo,34,R.map Rw.v++vi_::List.replicate d kp)::R.map (Rw.yf ke 32))++Li)) ?_ ?_
   ·refine ja ?_;refine kF (σ:=Nat) (λj ρ w'=>j<=m/\ρ 3= .slice (some ⟨bo,0,none⟩) n n/\ρ 4=iB i/\ρ 11=v/\ρ 12=iB n/\ρ 13=iB i/\ρ 18=vr/\ρ 19=iB m/\ρ 20=iB j/\∃vi_ Li,Gl ke 32 3 vi_ (kD j (qM (RM A) i)) Li/\St w w' (((bo,34,R.map Rw.v++vi_::List.replicate d kp)::R.map (Rw.yf ke 32))++Li)) (λj=>m-j) 0
     ⟨aw _,jY,rfl,jY,jY,jY,rfl,vi rfl oO,rfl,kp,[],Gl.nil _ _ _,by rw[aK];exact hS⟩ ?_
    clear hS;rintro j ρ w3 ⟨hj,h3,h4,h11,h12,h13,h18,h19,h20,vi_,Li,hG,hS⟩;have htl:=kj j (qM (RM A) i);refine V1 ?_;by_cases hjl:j<m
    ·refine V1 ?_;have hLr:=P0 hB (i:=i) (j:=j) oO (by rw[<-hrow,hli];exact hjl);rw[<-hrow]at hLr;obtain⟨r,hr⟩:=jz (row.getD j kZ);have hq:ki (RM A i j)=fx r:=by rw[hr,hrow];rfl
     rw[<-hr]at hLr;have hlenR:(R.map Rw.v).length=i:=by rw[bj,hR.len]
     have hfit:i<(R.map Rw.v++vi_::List.replicate d kp).length:=by rw[ax,hlenR,aZ];omega
     refine jr ?_;refine jp (ks (i:=j) h18 h20 (hri.kb hS.kb) oO dO kW (jq (kC (i:=j) kZ rfl kt (hri.kb hS.kb) dO rfl rfl (.inl rfl) ?_)));refine J1 ?_;intro b7 wz2 hS hBz2;refine J1 ?_;intro wz3 hS;refine ja ?_;rw[<-hr]at hS;replace hS:St w _ ((b7,32,ke r)::(((bo,34,R.map Rw.v++vi_::List.replicate d kp)::R.map (Rw.yf ke 32))++Li)):=hS;refine J1 ?_;refine jh (kf Tryz.call65 rfl (Iw r _ oO) ?_);rintro _ wc4 ⟨rfl,hBc4⟩;replace hS:=hS.kx hBc4;refine V1 ?_;refine kG (λρ w'=>ρ 3= .slice (some ⟨bo,0,none⟩) n n/\ρ 4=iB i/\ρ 7=pB b7/\ρ 11=v/\ρ 12=iB n/\ρ 13=iB i/\ρ 18=vr/\ρ 19=iB m/\ρ 20=iB j/\St w w' (((b7,32,ke (fx r))::(bo,34,R.map Rw.v++vi_::List.replicate d kp)::R.map (Rw.yf ke 32))++Li)) ?_ ?_
     ·by_cases hv:IN r
      ·refine lH rfl (by rw[ai hv];rfl) ?_;refine ja ?_;have e:fx r=r:=Gu hv;rw[e];exact⟨_,rfl,jY,jY,rfl,jY,jY,jY,jY,jY,jY,hS⟩
      ·refine lu rfl (by rw[ae hv];rfl) ?_;refine ja ?_;have e:fx r=kZ:=by unfold fx;rw[Gx hv,oD];rfl
       rw[e];refine jr ?_;refine jp (lr rfl pM ?_);refine J1 ?_;intro wz5 hS;refine ja ?_;exact⟨_,rfl,jY,jY,rfl,jY,jY,jY,jY,jY,jY,hS⟩
     clear hS;rintro ρ w4 ⟨h3,h4,h7,h11,h12,h13,h18,h19,h20,hS⟩;refine ja ?_;refine kK [jo 0,jo 1,jo 2,jo 3,jo 4,ju 5,ju 6,jv 7,jw 8,jo 9,jw 10] kR kR hS ?_;intro wz6 hS hBz6;refine J4 ?_;refine jl rfl (kM (i:=i) rfl rfl oO dO lS (jm rfl (Kq (k:=1) rfl md hS rfl (by rw[bX,eN];exact RO _ _ _ hlenR) ?_)));refine J1 ?_;refine jn rfl (np (vs:=[lC (fx r)]) rfl kW rfl dD dD dD (by simp[Value.cells,lC]) rfl hS ?_);intro b35 wz7 hS hBz7;refine⟨hBz7,?_⟩;refine jx rfl (mO [fx r] rfl rfl kW dD hG hS rfl rfl kA (uZ [fx r]) dL dL ?_);intro va8 La8 wa8 hG hS hga8;refine jl rfl (kM (i:=i) rfl rfl oO dO lS (jx rfl (oX (k:=1) rfl rfl md hS rfl (by rw[bX,eN];exact hfit) (by obtain⟨a,c,rfl⟩:=hG.len;rfl) ?_)));intro wz9 hS;refine ja ?_;rw[<-hq,<-pg]at hG;refine V2 ?_;refine⟨j+1,_,rfl,⟨hjl,jY,jY,jY,jY,jY,jY,jY,vi rfl oO,_,_,hG,?_⟩,oO⟩;have hS2:=hS.drop (ab _ _);rw[bX,eN,B5 _ _ _ _ hlenR]at hS2;exact hS2
    ·refine J1 ?_;refine jt ?_;obtain rfl:j=m:=oO;exact⟨_,rfl,h3,h11,h12,h13,vi_,Li,hG,hS⟩
   clear hS;rintro ρ w3 ⟨h3,h11,h12,h13,vi_,Li,hG,hS⟩;refine V2 ?_;obtain⟨r,hX,rfl,rfl,hc1,hc2,hc3⟩:=TE hG (by intro e;have:=bB List.length e;rw[kj]at this;simp at this;omega);have hR':=AK hR hX ⟨by rw[hX,kj]at hc1;exact hc1,hc2⟩;refine⟨i+1,_,rfl,⟨hlt,jY,jY,jY,vi rfl oO,R++[r],hR',(λx hx=>(bN.1 hx).elim (hF x) λg=>by rw[aO.1 g];exact hc3),?_⟩,oO⟩;rw[bS,bS,show n-(i+1)=d by omega,aG];exact hS
  ·refine J1 ?_;refine jt ?_;obtain rfl:i=n:=oO;rw[dU,jE,aK]at hS;refine⟨_,rfl,h3,R,hR,hF,?_⟩;unfold mB;rw[aK];exact hS
 clear hS;rintro ρ w2 ⟨h3,R,hR,hF,hS⟩;refine J2 ?_;refine jt ?_;refine kJ rfl rfl ?_;exact⟨⟨bo,R,rfl,hR,hF,hS⟩,hS.kb⟩
def VX (X:List RR) (k:Nat):Rat:=toQ (X.getD k kZ)
theorem zW {n:Nat} (f:Nat->Rat) (i:Nat) (q:Rat):(kD n λj=>ki (f j)).set i (ki q)=kD n λj=>ki (if j=i then q else f j):=by
 rw[mZ];exact kN λj _=>by by_cases h:j=i<;>simp only[h,g9,jN]
end Go.Proofs.YtoeiejliehgopaaGreatDoor
namespace Go.Sx
open Go Go.RowKit Go.Proofs.YtoeiejliehgopaaGreatDoor
section
variable {P : Program} {N : Nat} {ρ : Nat → Value} {w0 w w' : World} {d : Option Tmp} {ty : TypeId} {pos : String} {aft : Array Edge} {g : Option (Nat × Bool)} {x y z : Operand} {t t' e : TypeId} {H : List lj} {k b o : Nat} {v : Value} {K : Value → Prop} {K2 : Value → World → Prop}
  {α : Type} {enc : α → List Value} {size : Nat} {R : List (Rw α)} {tR tS : TypeId} {bo : Nat} {zz : List Value}
theorem L5 (pre:List lj) (T:List lj) (k:Nat):(pre++T)[pre.length+k]?=T[k]?:=by
 rw[cH oO];congr 1;omega
theorem NU (pre:List lj) (T:List lj) (k:Nat) (u:lj):(pre++T).set (pre.length+k) u=pre++T.set k u:=by
 rw[i2 _ _ oO];congr 2;omega
theorem nD (pre:List lj) {i:Nat} (hx:ev N ρ x= .pointer (some ⟨bo,o,none⟩)) (ht:mf P t=some (1,false,zz)) (hS:St w0 w (pre++mB enc tR tS bo R H)) (ho:o=i) (hi:i<R.length) (h:K (R.getD i o5).v):rD P N ρ w ⟨d,.load t x,ty,pos,aft,g⟩ K:=by
 subst ho;exact Kq (k:=pre.length+0) hx ht hS (by rw[L5];rfl) (Ce hi) h
theorem rY (pre:List lj) {i j:Nat} {agg:Bool} (dd:α) (hu:∀x,(enc x).length=size) (hx:ev N ρ x= .pointer (some ⟨b,o,none⟩)) (ht:mf P t=some (size,agg,zz)) (hS:St w0 w (pre++mB enc tR tS bo R H)) (hb:(R.getD i o5).b=b) (hi:i<R.length)
  (ho:o=j*size) (hj:j<(R.getD i o5).X.length) (hv:QW agg (enc ((R.getD i o5).X.getD j dd))=v) (hagg:agg=true\/size=1) (h:K v):rD P N ρ w ⟨d,.load t x,ty,pos,aft,g⟩ K:=by
 subst hb;exact Df (k:=pre.length+(i+1)) dd hu hx ht hS (by rw[L5];exact Ol hi) ho hj hv hagg h
theorem yN (pre:List lj) {i j:Nat} {agg:Bool} (u:α) (hu:∀x,(enc x).length=size) (hx:ev N ρ x= .pointer (some ⟨b,o,none⟩)) (hy:ev N ρ y=v) (ht:mf P t=some (size,agg,zz)) (hS:St w0 w (pre++mB enc tR tS bo R H)) (hb:(R.getD i o5).b=b) (hi:i<R.length)
  (ho:o=j*size) (hj:j<(R.getD i o5).X.length) (hv:v.cells.toList=enc u) (h1:(enc u).all (·.oneCell')=true) (h:∀w',St w0 w' (pre++mB enc tR tS bo (R.set i ((R.getD i o5).put j u)) H)->K2 undef w'):pL P N ρ w ⟨d,.store t x y,ty,pos,aft,g⟩ K2:=by
 subst hb;refine CA (k:=pre.length+(i+1)) u hu hx hy ht hS (by rw[L5];exact Ol hi) ho hj hv h1 λw' hS'=> ?_;rw[NU,TG j u hi]at hS';exact h w' hS'
theorem sv (pre:List lj) {cs:List Value} {T:List lj} {i:Nat} (hx:ev N ρ x= .pointer (some ⟨bo,o,none⟩)) (hy:ev N ρ y=v) (ht:mf P t=some (1,false,zz)) (hS:St w0 w (pre++(bo,tS,cs)::T)) (ho:o=i) (hi:i<cs.length) (h1:v.oneCell'=true) (h:∀w',St w0 w' (pre++(bo,tS,cs.set i v)::T)->K2 undef w'):
  pL P N ρ w ⟨d,.store t x y,ty,pos,aft,g⟩ K2:=by
 subst ho;refine oX (k:=pre.length+0) hx hy ht hS (by rw[L5];rfl) hi h1 λw' hS'=> ?_;rw[NU]at hS';exact h w' hS'
theorem GI (L:List lj):mB enc tR tS bo R H++L=mB enc tR tS bo R (H++L):=by unfold mB;rw[bY,aG]
theorem Gz (pre:List lj) {i j:Nat} (hi:i<R.length) (hj:j<R.length) (h:St w0 w (pre++(bo,tS,((R.map Rw.v).set i (R.getD j o5).v).set j (R.getD i o5).v)::(R.map (Rw.yf enc tR)++H))):St w0 w (pre++mB enc tR tS bo (CL R i j) H):=by
 have e:((R.map Rw.v).set i (R.getD j o5).v).set j (R.getD i o5).v=(CL R i j).map Rw.v:=by
  unfold CL;rw[ia,ia]
 rw[e]at h;refine h.perm (bV _ (List.Perm.cons _ (bQ _ (List.Perm.map _ ?_))));unfold CL;rw[nQ R o5 hi,nQ R o5 hj];exact(List.set_set_perm hi hj).symm
theorem AG (r:Rw α):r.v.oneCell'=true:=rfl
end
end Go.Sx
namespace Go.Proofs.YtoeiejliehgopaaGreatDoor
open Go Go.RowKit Go.Sx
def yg (M:Mx) (i r:Nat) (x:Rat) (k a b:Nat):Rat:=if a=i/\b<k then M i b-x*M r b else M a b
theorem Fe {P:Program} {N:Nat} {ρ:Nat->Value} {w:World} {fn:Func} {R:Value->World->Prop} (hr:fn.results= #[]) (h:R (.tuple #[]) w):
  bodyPost P fn (λe w'=>∃v,e= .returned v/\R v w') .ret (act N ρ) w:=
 gH (results_none hr _ _ _) rfl ⟨_,rfl,h⟩
theorem MS {R:List (Rw RR)} {n m:Nat} {M:Mx} {w0:World} {bo:Nat} {H:List lj} (i r:Nat) (x:Rat) (K:Nat) (w:World) (hR:mN R n m (qM M)) (hm:m<=1000) (hi:i<n) (hr:r<n) (hir:i≠r) (hL:∀j,j<m->L (M i j)<=K/\L (M r j)<=K) (hx:L x<=K) (hK:4*K+4<=MX) (hS:St w0 w (mB ke 32 34 bo R H)):
  mb Tryz.prog 198 #[(R.getD i o5).v,(R.getD r o5).v,lC (ki x)] w λv w'=>v= .tuple #[]/\∃R',mN R' n m (qM λa b=>if a=i then M i b-x*M r b else M a b)/\St w0 w' (mB ke 32 34 bo R' H):=by
 have hM:MX=1099511627776:=rfl;have hvi:=hR.v hi;have hvr:=hR.v hr;obtain⟨bi,hbi⟩:=jz ((R.getD i o5).b);obtain⟨br,hbr⟩:=jz ((R.getD r o5).b);obtain⟨ci,hci⟩:=jz ((R.getD i o5).cap);obtain⟨cr,hcr⟩:=jz ((R.getD r o5).cap);rw[<-hbi,<-hci]at hvi;rw[<-hbr,<-hcr]at hvr;rw[hvi,hvr];refine enter Tryz.func198 rfl Tryz.ntmps198 rfl ?_;refine jr ?_;refine jh (lx (new:=ke (ki x)) rfl rfl hS ?_);intro b5 wz1 hS hBz1;refine ja ?_;replace hS:St w0 _ ([(b5,32,ke (ki x))]++mB ke 32 34 bo R H):=hS;refine J3 ?_;refine jb ?_;refine kG (λρ w'=>∃R',mN R' n m (qM (yg M i r x m))/\St w0 w' ([(b5,32,ke (ki x))]++mB ke 32 34 bo R' H)) ?_ ?_
 ·refine ja ?_;refine kF (σ:=Nat) (λk ρ w'=>k<=m/\ρ 0= .slice (some ⟨bi,0,none⟩) m ci/\ρ 1= .slice (some ⟨br,0,none⟩) m cr/\ρ 5=pB b5/\ρ 8=iB m/\ρ 9=iB k/\
    ∃R',(R'.getD i o5).b=bi/\(R'.getD r o5).b=br/\mN R' n m (qM (yg M i r x k))/\St w0 w' ([(b5,32,ke (ki x))]++mB ke 32 34 bo R' H)) (λk=>m-k) 0
   ⟨aw _,rfl,rfl,rfl,rfl,rfl,R,hbi.symm,hbr.symm,hR.congr λa _ b _=>by show ki (M a b)=ki (yg M i r x 0 a b);unfold yg;rw[ah oO],hS⟩ ?_
  clear hS;rintro k ρ w2 ⟨hk,h0,h1,h5,h8,h9,R',hb1,hb2,hR',hS⟩;have hli:i<R'.length:=by rw[hR'.len];exact hi
  have hlr:r<R'.length:=by rw[hR'.len];exact hr
  refine V1 ?_;by_cases hlt:k<m
  ·refine V1 ?_;have hxi:k<(R'.getD i o5).X.length:=by rw[hR'.x9 hi];exact hlt
   have hxr:k<(R'.getD r o5).X.length:=by rw[hR'.x9 hr];exact hlt
   have hgi:(R'.getD i o5).X.getD k kZ=ki (M i k):=by rw[hR'.get hi hlt];show ki (yg M i r x k i k)=_;unfold yg;rw[ah oO]
   have hgr:(R'.getD r o5).X.getD k kZ=ki (M r k):=by rw[hR'.get hr hlt];show ki (yg M i r x k r k)=_;unfold yg;rw[ah oO]
   obtain⟨hL1,hL2⟩:=hL k hlt;have hLm:=yr x (M r k);refine J4 ?_;refine jp (kM (i:=k) rfl rfl oO dO kW (jq (rY [_] (i:=r) (j:=k) kZ kA rfl kt hS hb2 hlr oO hxr rfl (.inl rfl) ?_)));rw[hgr];refine jh (kf Tryz.call197 rfl (AP _ _) ?_);rintro _ wc2 ⟨rfl,hBc2⟩;replace hS:=hS.kx hBc2;refine V1 ?_;by_cases hz:M r k=0
   ·refine lH rfl (by rw[ai hz];rfl) ?_;refine V2 ?_;refine⟨k+1,_,rfl,⟨hlt,jY,jY,jY,jY,vi rfl oO,R',hb1,hb2,hR'.congr λa _ b _=> ?_,hS⟩,oO⟩;show ki (yg M i r x k a b)=ki (yg M i r x (k+1) a b);congr 1;unfold yg;by_cases g:a=i/\b<k
    ·rw[aj g,aj oO]
    ·rw[ah g];by_cases g2:a=i/\b<k+1
     ·obtain rfl:b=k:=oO;rw[aj g2,hz,g2.1,eg,ib,Rat.neg_zero,hJ]
     ·rw[ah g2]
   ·have hmul:=λw=>qF (ki x) (ki (M r k)) w (by rw[Lr_ofQ,Lr_ofQ];omega);rw[toQ_ofQ,toQ_ofQ]at hmul;have hsub:=λw=>mI (ki (M i k)) (ki (x*M r k)) w (by rw[Lr_ofQ,Lr_ofQ];omega);rw[toQ_ofQ,toQ_ofQ]at hsub;refine lu rfl (by rw[ae hz];rfl) ?_;refine ja ?_;refine kK [jo 0,jo 1,jo 2,jo 3,jo 4,ju 5,ju 6,jo 7,jo 8,jo 9,ju 10,jv 11,jv 12,jo 13,jw 14] kR kR hS ?_;intro wz3 hS hBz3;refine J4 ?_;refine jl rfl (kM (i:=k) rfl rfl oO dO kW (jm rfl (rY [_] (i:=i) (j:=k) kZ kA rfl kt hS hb1 hli oO hxi rfl (.inl rfl) ?_)));refine J3 ?_;refine jl rfl (kM (i:=k) rfl rfl oO dO kW (jm rfl (rY [_] (i:=r) (j:=k) kZ kA rfl kt hS hb2 hlr oO hxr rfl (.inl rfl) ?_)));rw[hgi,hgr];refine jn rfl (kf Tryz.call11 rfl (hmul _) ?_);rintro _ wc4 ⟨rfl,hBc4⟩;replace hS:=hS.kx hBc4;refine⟨hBc4,?_⟩;refine jn rfl (kf Tryz.call16 rfl (hsub _) ?_);rintro _ wc5 ⟨rfl,hBc5⟩;replace hS:=hS.kx hBc5;refine⟨hBc5,?_⟩;refine jl rfl (kM (i:=k) rfl rfl oO dO kW (jx rfl (yN [_] (i:=i) (j:=k) (ki (M i k-x*M r k)) kA rfl rfl kt hS hb1 hli oO hxi rfl rfl ?_)));intro wz6 hS;refine V2 ?_;refine⟨k+1,_,rfl,⟨hlt,jY,jY,jY,jY,vi rfl oO,_,?_,?_,(hR'.put hi k (ki (M i k-x*M r k))).congr λa _ b _=> ?_,hS⟩,oO⟩
    ·rw[ni _ _ _ hli,aj rfl];exact hb1
    ·rw[ni _ _ _ hli,ah (λe=>hir e.symm)];exact hb2
    ·show(if a=i/\b=k then ki (M i k-x*M r k)else ki (yg M i r x k a b))=ki (yg M i r x (k+1) a b);unfold yg;by_cases g:a=i/\b=k
     ·rw[aj g,aj oO,g.2]
     ·rw[ah g];by_cases g2:a=i/\b<k
      ·rw[aj g2,aj oO]
      ·rw[ah g2,ah oO]
  ·refine J1 ?_;refine jt ?_;obtain rfl:k=m:=oO;exact⟨_,rfl,R',hR',hS⟩
 clear hS;rintro ρ w2 ⟨R',hR',hS⟩;refine ja ?_;exact qv rfl ⟨rfl,R',hR'.congr λa _ b hb=>by
  show ki (yg M i r x m a b)=ki (if a=i then M i b-x*M r b else M a b);unfold yg;congr 1;by_cases g:a=i
  ·rw[aj ⟨g,hb⟩,aj g]
  ·rw[ah (λe=>g e.1),ah g],hS.drop (ab _ _)⟩
def Vd (M:Mx) (c n r:Nat):Int:=if pv M c n r<n then(pv M c n r:Int)else-1
theorem Nv (v:Value) (vs:List Value) (n m:Nat) (M:Mx) (r c:Nat) (w:World) (hA:rB ke 3 w v (wN n m (qM M)) vs) (hr:r<=n) (hc:c<m):
  mb Tryz.prog 196 #[v,.int .i64 r,.int .i64 c] w λu w'=>u= .int .i64 (Vd M c n r)/\Below w.heap.size w w':=by
 have hmx:=hA.sl.maxLen;have hlen:=hA.len;rw[nl]at hlen;obtain⟨_,hp2,_,_⟩:=pU M c hr;have hS:=St.init w;refine enter Tryz.func196 rfl Tryz.ntmps196 rfl ?_;refine J3 ?_;refine jb ?_;refine kG (λρ w'=>Vd M c n r= -1/\St w w' []) ?_ ?_
 ·refine ja ?_;refine kF (σ:=Nat) (λi ρ w'=>r<=i/\i<=n/\(∀l,r<=l->l<i->M l c=0)/\ρ 0=v/\ρ 2=iB c/\ρ 7=iB i/\St w w' []) (λi=>n-i) r
   ⟨aB _,hr,λl h1 h2=>absurd h2 oO,rfl,rfl,rfl,hS⟩ ?_
  clear hS;rintro i ρ w2 ⟨hri,hi,hz,h0,h2,h7,hS⟩;refine J2 ?_;refine jp (ky rfl (hA.sl.kb hS.kb) ⟨_,Tryz.underlying35⟩ ?_);refine V1 ?_;by_cases hlt:i<n
  ·refine V1 ?_;have hrow:=hA.row i (by rw[nl];exact hlt);rw[p9 _ hlt]at hrow;have htl:=kj m (qM M i);have hg:(kD m (qM M i)).getD c kZ=ki (M i c):=kB _ _ hc;refine J2 ?_;refine jp (ks (i:=i) rfl rfl (hA.sl.kb hS.kb) oO dO lS (jq (kC (i:=i) undef rfl md (hA.sl.kb hS.kb) dO rfl rfl (.inr rfl) ?_)));refine J1 ?_;refine jp (ks (i:=c) rfl rfl (hrow.kb hS.kb) oO dO kW (jq (kC (i:=c) kZ rfl kt (hrow.kb hS.kb) dO rfl rfl (.inl rfl) ?_)));rw[hg];refine jh (kf Tryz.call197 rfl (AP _ _) ?_);rintro _ wc1 ⟨rfl,hBc1⟩;replace hS:=hS.kx hBc1;refine V1 ?_;by_cases hne:M i c=0
   ·refine lH rfl (by rw[ai hne];rfl) ?_;refine V3 ?_;exact⟨i+1,_,rfl,⟨oO,hlt,λl h1 h2=>by
     by_cases e:l=i
     ·rw[e];exact hne
     ·exact hz l h1 oO,jY,jY,vi rfl oO,hS⟩,oO⟩
   ·refine lu rfl (by rw[ae hne];rfl) ?_;refine ja ?_;have hp:pv M c n r=i:=FE hri hi hz λ_=>hne;have he:Vd M c n r=i:=by unfold Vd;rw[hp,aj hlt]
    rw[he];refine J2 ?_;refine jt ?_;refine kJ rfl rfl ?_;exact⟨rfl,hS.kb⟩
  ·refine J1 ?_;refine jt ?_;obtain rfl:i=n:=oO;have hp:pv M c i r=i:=FE hri hi hz λh=>absurd h (dt _);exact⟨_,rfl,by unfold Vd;rw[hp,ah (dt _)],hS⟩
 clear hS;rintro ρ w2 ⟨he,hS⟩;refine ja ?_;rw[he];refine J1 ?_;refine jt ?_;refine kJ rfl rfl ?_;exact⟨rfl,hS.kb⟩
end Go.Proofs.YtoeiejliehgopaaGreatDoor
