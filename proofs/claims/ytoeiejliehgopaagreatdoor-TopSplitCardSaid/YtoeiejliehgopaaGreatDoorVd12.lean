/-
  Part 12 of the proof of TopSplit: framework, walks, plain laws.
-/
import Derived.Test.YtoeiejliehgopaaGreatDoorVd11
set_option maxRecDepth 20000
set_option maxHeartbeats 8000000
namespace Go.Proofs.YtoeiejliehgopaaGreatDoor
open Go Go.RowKit Go.Sx
def z4:Nat->Nat:=λ_=>0
def nM (cash:List Nat) (i:Nat):Rat:=if i<cash.length then o9 (cash.getD i 0)else 0
def Ub (size:Nat) (c:Nat->Nat):qn:=⟨if c 1% (size+1)=c 0%size\/size<=c 1% (size+1)then-1 else((c 1% (size+1):Nat):Int),((c 2%3:Nat):Int),o9 (c 3)⟩
def zM (size:Nat) (L:List (Nat->Nat)):Nat->Nat->List qn
 |0,_=>[]
 |j+1,i=>if(L.getD j z4) 0%size=i/\(zM size L j i).length<6 then zM size L j i++[Ub size (L.getD j z4)]else zM size L j i
def uR (size:Nat) (n:Nat->Nat) (Q:List (Nat->Nat)):Nat->Nat->List (List (List n9))
 |0,_=>[]
 |j+1,i=>if(Q.getD j z4) 0%size=i/\(uR size n Q j i).length<2 then uR size n Q j i++[xj (uR size n Q j i) (n i) (Q.getD j z4)]else uR size n Q j i
def GQ (size:Nat) (cl:Nat->List qn) (D:List (Nat->Nat)):Nat->List tw
 |0=>[]
 |j+1=>if(GQ size cl D j).length<3 then GQ size cl D j++[⟨o9 ((D.getD j z4) 2),R4 (GQ size cl D j) (D.getD j z4) cl size⟩]else GQ size cl D j
theorem Ae (size:Nat) (L:List (Nat->Nat)):∀j i,(zM size L j i).length<=6
 |0,_=>aw _
 |j+1,i=>by
  have:=Ae size L j i;unfold zM;split
  ·rename_i h;rw[ax];show _+1<=_;omega
  ·exact this
theorem Kx (size:Nat) (n:Nat->Nat) (Q:List (Nat->Nat)):∀j i,(uR size n Q j i).length<=2
 |0,_=>aw _
 |j+1,i=>by
  have:=Kx size n Q j i;unfold uR;split
  ·rename_i h;rw[ax];show _+1<=_;omega
  ·exact this
theorem KX (size:Nat) (cl:Nat->List qn) (D:List (Nat->Nat)):∀j,(GQ size cl D j).length<=3
 |0=>aw _
 |j+1=>by
  have:=KX size cl D j;unfold GQ;split
  ·rename_i h;rw[ax];show _+1<=_;omega
  ·exact this
theorem Ur:([.bool false,.string ⟨#[]⟩,.string ⟨#[]⟩,kp,kp]:List Value)=kI (0,kp,kp):=by
 show _=ke (ki 0)++_;rw[oD];rfl
theorem Nq {A E R new:List Value} {off:Nat} (h:off+new.length<=E.length):splice (A++(E++R)) (A.length+off) new=A++(splice E off new++R):=by
 unfold splice;rw[iL,aU oO,fH,eZ oO,aG,aG];congr 1;rw[aG,aG];congr 2;rw[List.drop_append,ff oO,ce,show A.length+off+new.length-A.length=off+new.length by omega,fM h]
theorem xo (i j:Int) (r:RR):Tryz.prog.built 53 [(0,.int .i64 i),(1,.int .i64 j),(2,lC r)]=some #[.int .i64 i,.int .i64 j,.bool r.neg,.string r.num,.string r.den]:=by kernel_rfl
theorem sy (xs:List qn):∀u∈xs.flatMap lz,u.oneCell'=true:=by
 intro u hu;rw[dK]at hu;obtain⟨x,_,h⟩:=hu;simp only[lz,ke,bM,cG,fS]at h;rcases h with rfl|rfl|rfl|rfl|rfl<;>rfl
theorem JL (q:Rat):∀u∈[(q,kp,kp)].flatMap kI,u.oneCell'=true:=by
 intro u hu;rw[da]at hu;simp only[kI,ke,bY,ce,bM,cG,fS]at hu;rcases hu with rfl|rfl|rfl|rfl|rfl<;>rfl
section
variable {P : Program} {N : Nat} {ρ : Nat → Value} {w0 w : World} {H : List lj} {d : Option Tmp} {ty : TypeId} {pos : String} {aft : Array Edge} {g : Option (Nat × Bool)} {x y : Operand} {K2 : Value → World → Prop} {b o k : Nat} {t t' : TypeId} {v : Value}
theorem xy {α:Type} {enc:α->List Value} {size:Nat} {L:List α} {sp new:List Value} {i off n:Nat} {zz:List Value} {agg:Bool} (dd u:α) (hu:∀x,(enc x).length=size) (hx:ev N ρ x= .pointer (some ⟨b,o,none⟩)) (hy:ev N ρ y=v) (ht:mf P t=some (n,agg,zz)) (hS:St w0 w H) (hk:H[k]?=some (b,t',L.flatMap enc++sp))
  (ho:o=i*size+off) (hi:i<L.length) (hv:v.cells.toList=new) (hn:new.length=n) (hf:off+n<=size) (he:enc u=splice (enc (L.getD i dd)) off new) (h1:new.all (·.oneCell')=true)
  (h:∀w',St w0 w' (H.set k (b,t',(L.set i u).flatMap enc++sp))->K2 undef w'):pL P N ρ w ⟨d,.store t x y,ty,pos,aft,g⟩ K2:=by
 subst ho;have hle:(i+1)*size<=L.length*size:=aI _ hi;rw[bn]at hle;refine lX hx hy ht hS hk hv hn ?_ h1 (λw' hS'=>h w' ?_)
 ·rw[ax,lO hu];omega
 ·have e:splice (L.flatMap enc++sp) (i*size+off) new=(L.set i u).flatMap enc++sp:=by
   have hA:((L.take i).flatMap enc).length=i*size:=by rw[lO hu,dm,gX oO]
   rw[CR enc L dd hi,Pu enc L u hi,he,aG,aG,<-hA,Nq (by rw[hu];omega)];simp only[aG]
  rw[e]at hS';exact hS'
end
structure IM (D:List lj) (v:Value) (A:List (List (List n9))) (av:List Value) (pv:List (List Value)):Prop where
 g:∀wz wx,St wz wx D->L8 wx v A av pv
theorem IM.mono {D D':List lj} {v:Value} {A:List (List (List n9))} {av:List Value} {pv:List (List Value)} (h:IM D v A av pv) (hs:D.Sublist D'):IM D' v A av pv:=⟨λwz wx hS=>h.g wz wx (hS.drop hs)⟩
structure W1 (n:Nat) (q:Nat->Rat) (cl:Nat->List qn) (vE:Value) (ev:Nat->Value×Value) (LE:List lj) (LC:List (List lj)):Prop where
 e:Gl kI 51 5 vE (kD n λi=>(q i,ev i)) LE
 c:mK lz 53 5 (kD n λi=>(ev i).1) (kD n cl) LC
 a:∀i,i<n->∃a l c,(ev i).2= .slice a l c
theorem W1.XI {n:Nat} {q:Nat->Rat} {cl:Nat->List qn} {vE:Value} {ev:Nat->Value×Value} {LE:List lj} {LC:List (List lj)} (h:W1 n q cl vE ev LE LC) {w0 w:World} (hS:St w0 w (LE++LC.flatten)):WI w vE n q ev cl:=by
 refine⟨h.e.sl (H:=[]) (hS.drop (ap _ _)) mL,λi hi=> ?_⟩;have:=h.c.row (P:=LE) hS nv (i:=i) (by rw[kj];exact hi);rw[kB _ _ hi,kB _ _ hi]at this;exact this
structure Uu (D:List lj) (v:Value) (ds:List tw) (dv:List Value):Prop where
 len:dv.length=ds.length
 g:∀wz wx,St wz wx D->SJ wx v ds dv
structure Vf (n:Nat) (q:Nat->Rat) (cl:Nat->List qn) (A:Nat->List (List (List n9))) (ds:List tw) (vE vD:Value) (ev:Nat->Value×Value) (av:Nat->List Value) (pv:Nat->List (List Value)) (dv:List Value) (LE:List lj) (LC:List (List lj)) (DA:List lj):Prop where
 e:W1 n q cl vE ev LE LC
 a:∀i,i<n->IM DA (ev i).2 (A i) (av i) (pv i)
 d:Uu DA vD ds dv
theorem Wo (n:Nat) (L:List (Nat->Nat)):mK lz 53 5 (kD n λ_=>kp) (kD n (zM n L 0)) (kD n λ_=>[]):=by
 refine⟨by rw[kj,kj],by rw[kj,kj],λi hi=> ?_⟩;rw[kj]at hi;rw[kB _ _ hi,kB _ _ hi,kB _ _ hi];exact Gl.nil _ _ _
theorem P1 {β:Type} (n:Nat):(kD n λ_=>([]:List β)).flatten=[]:=by
 rw[List.flatten_eq_nil_iff];intro l hl;obtain⟨_,_,rfl⟩:=tG hl;rfl
theorem IM.snoc {D D2 LO:List lj} {v v' x:Value} {A:List (List (List n9))} {X:List (List n9)} {av:List Value} {pv:List (List Value)} {vs:List Value} (h:IM D v A av pv) (hl:av.length=A.length) (hp:pv.length=A.length) (hG:Gl se 82 1 v' (av++[x]) LO) (hM:∀wz wx,St wz wx D2->rB nF 5 wx x X vs):IM ((LO++D2)++D) v' (A++[X]) (av++[x]) (pv++[vs]):=by
 refine⟨λwz wx hS=>⟨by rw[ax,ax,hl];rfl,hG.sl (H:=[]) (hS.drop ((ap LO D2).trans (ap _ D))) (λ_=>rfl),λk hk=> ?_⟩⟩;have h1:=h.g wz wx (hS.drop (ao _ D));rw[ax]at hk;rw[mX,mX,mX,hl,hp];by_cases e:k<A.length
 ·rw[aj e,aj e,aj e];exact h1.m k e
 ·obtain rfl:k=A.length:=by have: [X].length=1:=rfl;omega
  rw[ah e,ah e,ah e,aj rfl,aj rfl,aj rfl];exact hM wz wx (hS.drop ((ao LO D2).trans (ap _ D)))
theorem Uu.snoc {D D2 LO:List lj} {v v' x:Value} {ds:List tw} {dv:List Value} {W:Rat} {l:List (Nat×Nat)} (h:Uu D v ds dv) (hG:Gl mr 64 4 v' ((kD ds.length λk=>((ds.getD k uh).W,dv.getD k undef))++[(W,x)]) LO) (hM:∀wz wx,St wz wx D2->Sl nL 2 wx x l):Uu ((LO++D2)++D) v' (ds++[⟨W,l⟩]) (dv++[x]):=by
 have e:((kD ds.length λk=>((ds.getD k uh).W,dv.getD k undef))++[(W,x)])=kD (ds++[(⟨W,l⟩:tw)]).length λk=>(((ds++[(⟨W,l⟩:tw)]).getD k uh).W,(dv++[x]).getD k undef):=by
  rw[ax,show [(⟨W,l⟩:tw)].length=1 from rfl,pg,mX,mX,h.len,ah (dt _),ah (dt _),aj rfl,aj rfl];congr 1;refine kN λk hk=> ?_;rw[mX,mX,h.len,aj hk,aj hk]
 rw[e]at hG;refine⟨by rw[ax,ax,h.len];rfl,λwz wx hS=>⟨hG.sl (H:=[]) (hS.drop ((ap LO D2).trans (ap _ D))) qJ,λk hk=> ?_⟩⟩;have h1:=h.g wz wx (hS.drop (ao _ D));rw[ax]at hk;rw[mX,mX,h.len];by_cases e:k<ds.length
 ·rw[aj e,aj e];exact h1.lg k e
 ·obtain rfl:k=ds.length:=by have: [(⟨W,l⟩:tw)].length=1:=rfl;omega
  rw[ah e,ah e,aj rfl,aj rfl];exact hM wz wx (hS.drop ((ao LO D2).trans (ap _ D)))
theorem xW {w wx:World} {m j i bE:Nat} {cash:List Nat} {sp:List Value} {ev:Nat->Value×Value} {LC:List (List lj)} {L:List (Nat->Nat)} {C:List qn} {x:qn} {v:Value} {LN P:List lj} (hev:∀i,(ev i).2=kp)
  (hR:mK lz 53 5 (kD m λi=>(ev i).1) (kD m (zM m L j)) LC) (him:i<m) (hcl:zM m L (j+1)=λk=>if k=i then C++[x]else zM m L j k) (hG:Gl lz 53 5 v (C++[x]) LN)
  (hS:St w wx ((P++([(bE,51,((kD m λk=>(nM cash k,ev k)).set i (nM cash i,v,(ev i).2)).flatMap kI++sp)]::LC.set i []).flatten)++LN)):
  ∃(ev':Nat->Value×Value) (LC':List (List lj)),(∀i,(ev' i).2=kp)/\mK lz 53 5 (kD m λi=>(ev' i).1) (kD m (zM m L (j+1))) LC'/\St w wx (P++([(bE,51,(kD m λk=>(nM cash k,ev' k)).flatMap kI++sp)]::LC').flatten):=by
 have hlc:=hR.ln;rw[kj]at hlc;have hst:(kD m λk=>(nM cash k,ev k)).set i (nM cash i,v,(ev i).2)=kD m λk=>(nM cash k,if k=i then(v,(ev i).2)else ev k):=by
  rw[mZ];refine kN λk _=> ?_;by_cases e:k=i
  ·rw[aj e,aj e,e]
  ·rw[ah e,ah e]
 rw[hst]at hS;have hS9:=nJ (P:=P) (Ls:=[(bE,51,(kD m λk=>(nM cash k,if k=i then(v,(ev i).2)else ev k)).flatMap kI++sp)]::LC) (k:=i+1) hS (by rw[aZ];omega);have hR2:=hR.DV (i:=i) (by rw[kj];exact him) hG;rw[mZ,mZ]at hR2;refine⟨λk=>if k=i then(v,(ev i).2)else ev k,LC.set i LN,λk=> ?_,?_,hS9⟩
 ·show(if k=i then(v,(ev i).2)else ev k).2=kp;split
  ·exact hev i
  ·exact hev k
 ·rw[hcl];have e1:(kD m λk=>(if k=i then(v,(ev i).2)else ev k).1)=kD m λk=>if k=i then v else(ev k).1:=kN λk _=>by split<;>rfl
  rw[e1];exact hR2
theorem Sj {w wx:World} {m j i bE:Nat} {cash:List Nat} {sp:List Value} {nC:Nat->Nat} {cl:Nat->List qn} {ev:Nat->Value×Value} {DA D2 LO P:List lj} {LC:List (List lj)} {Q:List (Nat->Nat)} {av:Nat->List Value} {pv:Nat->List (List Value)} {X:List (List n9)} {v x:Value} {vs:List Value}
  (hPA:∀i,i<m->(av i).length=(uR m nC Q j i).length/\(pv i).length=(uR m nC Q j i).length/\IM DA (ev i).2 (uR m nC Q j i) (av i) (pv i)) (hR:mK lz 53 5 (kD m λi=>(ev i).1) (kD m cl) LC) (him:i<m)
  (hag:∀k,uR m nC Q (j+1) k=if k=i then uR m nC Q j i++[X]else uR m nC Q j k) (hG:Gl se 82 1 v (av i++[x]) LO) (hM:∀wz wx,St wz wx D2->rB nF 5 wx x X vs)
  (hS:St w wx ((P++([(bE,51,((kD m λk=>(nM cash k,ev k)).set i (nM cash i,(ev i).1,v)).flatMap kI++sp)]::DA::LC).flatten)++(LO++D2))):
  ∃(ev':Nat->Value×Value) (DA':List lj) (av':Nat->List Value) (pv':Nat->List (List Value)),(∀i,i<m->(av' i).length=(uR m nC Q (j+1) i).length/\(pv' i).length=(uR m nC Q (j+1) i).length/\IM DA' (ev' i).2 (uR m nC Q (j+1) i) (av' i) (pv' i))/\mK lz 53 5 (kD m λi=>(ev' i).1) (kD m cl) LC/\
   St w wx (P++([(bE,51,(kD m λk=>(nM cash k,ev' k)).flatMap kI++sp)]::DA'::LC).flatten):=by
 have hst:(kD m λk=>(nM cash k,ev k)).set i (nM cash i,(ev i).1,v)=kD m λk=>(nM cash k,if k=i then((ev i).1,v)else ev k):=by
  rw[mZ];refine kN λk _=> ?_;by_cases e:k=i
  ·rw[aj e,aj e,e]
  ·rw[ah e,ah e]
 rw[hst]at hS;have hS9:=tI (P:=P) (Ls:=[(bE,51,(kD m λk=>(nM cash k,if k=i then((ev i).1,v)else ev k)).flatMap kI++sp)]::DA::LC) (k:=1) (A:=LO++D2) (hS.perm ay) rfl (dP _);refine⟨λk=>if k=i then((ev i).1,v)else ev k,(LO++D2)++DA,λk=>if k=i then av i++[x]else av k,λk=>if k=i then pv i++[vs]else pv k,λk hk=> ?_,?_,hS9⟩
 ·obtain⟨l1,l2,hP⟩:=hPA k hk;rw[hag];by_cases e:k=i
  ·subst e;simp only[g9];exact⟨by rw[ax,ax,l1];rfl,by rw[ax,ax,l2];rfl,hP.snoc l1 l2 hG hM⟩
  ·simp only[ah e];exact⟨l1,l2,hP.mono (ao _ _)⟩
 ·have e1:(kD m λk=>(if k=i then((ev i).1,v)else ev k).1)=kD m λk=>(ev k).1:=kN λk _=>by
   split
   ·rename_i e;rw[e]
   ·rfl
  rw[e1];exact hR
theorem Oj (n:Nat) (vC vL vQ vD:Value) (cash:List Nat) (L Q D:List (Nat->Nat)) (w:World) (hC:Sl (uk .u16) 1 w vC cash) (hL:Sl zA 4 w vL L) (hQ:Sl pC 3 w vQ Q) (hD:Sl pC 3 w vD D)
  (hc:∀x∈cash,x<65536) (hl:∀x∈L,∀i,i<4->x i<65536) (hq:∀x∈Q,∀i,i<3->x i<65536) (hd:∀x∈D,∀i,i<3->x i<65536):
  mb Tryz.prog 7 #[.int .u8 n,vC,vL,vQ,vD] w λr w'=>∃(vE vY:Value) (ev:Nat->Value×Value) (av:Nat->List Value) (pv:Nat->List (List Value)) (dv:List Value) (LE DA:List lj) (LC:List (List lj)),r= .agg #[vE,vY]/\Vf (1+n%4) (nM cash) (zM (1+n%4) L L.length) (uR (1+n%4) (λi=>(zM (1+n%4) L L.length i).length) Q Q.length) (GQ (1+n%4) (zM (1+n%4) L L.length) D D.length) vE vY ev av pv dv LE LC DA/\St w w' ((LE++LC.flatten)++DA):=by
 have hcm:=hC.maxLen;have hlm:=hL.maxLen;have hqm:=hQ.maxLen;have hdm:=hD.maxLen;have hS:=St.init w;have h4:n%4<4:=bl _ dD;obtain⟨m,hm⟩:=jz (1+n%4);refine enter Tryz.func7 rfl Tryz.ntmps7 rfl ?_;refine J1 ?_;intro br wz1 hS hBz1;refine jr ?_;refine jp (lr rfl VE ?_);refine J1 ?_;intro bg wz2 hS hBz2;refine J1 ?_;intro wz3 hS;refine ja ?_;replace hS:St w _ ([(bg,29,[kp,kp]),(br,29,[kp,kp])]++[]):=hS;refine J1 ?_;refine jp (pF rfl rfl oO (r:=((n%4:Nat):Int)) (by exact o6 _ 4) ?_);refine J1 ?_;refine jp (py rfl rfl (r:=((m:Nat):Int)) (by exact o8 _ ⟨oO,oO,oO⟩) ?_);refine J2 ?_;refine jb ?_;refine kG (λρ w'=>(ρ 2=vL/\ρ 3=vQ/\ρ 4=vD/\ρ 10=pB br/\ρ 11=pB bg/\ρ 12=iB m)/\∃vE LE,Gl kI 51 5 vE (kD m λk=>(nM cash k,kp,kp)) LE/\St w w' ([(bg,29,[vE,kp]),(br,29,[kp,kp])]++LE)) ?_ ?_
 ·refine ja ?_;refine kF (σ:=Nat) (λi ρ w'=>i<=m/\ρ 1=vC/\(ρ 2=vL/\ρ 3=vQ/\ρ 4=vD/\ρ 10=pB br/\ρ 11=pB bg/\ρ 12=iB m)/\ρ 13=iB i/\∃vE LE,Gl kI 51 5 vE (kD i λk=>(nM cash k,kp,kp)) LE/\St w w' ([(bg,29,[vE,kp]),(br,29,[kp,kp])]++LE)) (λi=>m-i) 0
   ⟨aw _,rfl,⟨rfl,rfl,rfl,rfl,rfl,rfl⟩,rfl,kp,[],Gl.nil _ _ _,hS⟩ ?_
  clear hS;rintro i ρ w3 ⟨hi,h1,⟨h2,h3,h4,h10,h11,h12⟩,h13,vE,LE,hG,hS⟩;have htl:=kj i λk=>(nM cash k,kp,kp);refine V3 ?_;by_cases hlt:i<m
  ·refine Y1 ?_;refine jp (lr rfl Wm ?_);refine J1 ?_;intro be wz4 hS hBz4;refine J1 ?_;intro wz5 hS;refine ja ?_;replace hS:St w _ ([(be,51,kI (0,kp,kp)),(bg,29,[vE,kp]),(br,29,[kp,kp])]++LE):=hS.cast (by rw[<-Ur];rfl);refine J2 ?_;refine jp (ky rfl (hC.kb hS.kb) ⟨_,Tryz.underlying22⟩ ?_);refine J1 ?_;refine jb ?_;refine kG (λρ w'=>ρ 1=vC/\(ρ 2=vL/\ρ 3=vQ/\ρ 4=vD/\ρ 10=pB br/\ρ 11=pB bg/\ρ 12=iB m)/\ρ 13=iB i/\ρ 14=pB be/\St w w' ([(be,51,kI ((nM cash i),kp,kp)),(bg,29,[vE,kp]),(br,29,[kp,kp])]++LE)) ?_ ?_
   ·refine ja ?_;by_cases hic:i<cash.length
    ·refine V1 ?_;have hx:=hc _ (kO cash i 0 hic);refine J2 ?_;refine jp (ks (i:=i) rfl rfl (hC.kb hS.kb) oO dO VK (jq (kC (i:=i) 0 rfl pZ (hC.kb hS.kb) dO rfl rfl (.inr rfl) (jh (kf Tryz.call20 rfl (x7 (cash.getD i 0) _ hx) ?_)))));rintro r w5 ⟨rfl,hB5⟩;replace hS:=hS.kx hB5;refine J2 ?_;intro wz6 hS;refine ja ?_;refine⟨_,rfl,jY,⟨jY,jY,jY,jY,jY,jY⟩,jY,rfl,?_⟩;rw[show nM cash i=o9 (cash.getD i 0)from aj hic];exact hS
    ·refine V1 ?_;refine⟨_,rfl,jY,⟨jY,jY,jY,jY,jY,jY⟩,jY,rfl,?_⟩;rw[show nM cash i=0 from ah hic];exact hS
   clear hS h1 h2 h3 h4 h10 h11 h12 h13;rintro ρ w5 ⟨h1,⟨h2,h3,h4,h10,h11,h12⟩,h13,h14,hS⟩;obtain⟨aE,cE,hvE⟩:=hG.len;subst hvE;refine J3 ?_;refine jh (np (vs:=[_]) rfl nW rfl dD dD dD (by simp[Value.cells,mL]) rfl hS ?_);intro b7 wz8 hS hBz8;refine jh (mO [(nM cash i,kp,kp)] rfl rfl nW dD hG hS rfl rfl mL (JL _) dL dL ?_);intro va9 La9 wa9 hG hS hga9;obtain⟨aN,cN,hvN⟩:=hG.len;subst hvN;obtain⟨LN,hLN⟩:∃L,L=La9:=⟨_,rfl⟩;rw[<-hLN]at hG hS;refine J1 ?_;refine jh (oX (k:=1) rfl rfl ng hS rfl (by simp) rfl ?_);intro wz10 hS;refine ja ?_;rw[<-pg i λk=>(nM cash k,kp,kp)]at hG hS;have hS9:St w _ ([(bg,29,[(.slice aN (kD (i+1) λk=>(nM cash k,kp,kp)).length cN),kp]),(br,29,[kp,kp])]++LN):=hS.drop (ab _ _);refine V3 ?_;exact⟨i+1,_,rfl,⟨hlt,jY,⟨jY,jY,jY,jY,jY,jY⟩,vi rfl oO,_,LN,hG,hS9⟩,oO⟩
  ·refine J1 ?_;refine jt ?_;obtain rfl:i=m:=oO;exact⟨_,rfl,⟨h2,h3,h4,h10,h11,h12⟩,vE,LE,hG,hS⟩
 clear hS;rintro ρ w3 ⟨⟨h2,h3,h4,h10,h11,h12⟩,vE,LE,hG,hS⟩;obtain⟨hX,⟨_,h0,_⟩|⟨bE,cE,sp,hv,hLE,k1,k2,k3⟩⟩:=hG
 ·rw[kj]at h0;omega
 rw[kj]at hv k1;rw[ax,lO mL,kj]at k3;subst hv hLE;obtain⟨vE,hvE⟩:=jz (Value.slice (some ⟨bE,0,none⟩) m cE);have hGE:∀ev:Nat->Value×Value,Gl kI 51 5 (Value.slice (some ⟨bE,0,none⟩) m cE) (kD m λi=>(nM cash i,ev i)) [(bE,51,(kD m λi=>(nM cash i,(ev) i)).flatMap kI++sp)]:=λev=>
  ⟨by rw[lO mL],.inr ⟨bE,cE,sp,by rw[kj],rfl,by rw[kj];exact k1,k2,by rw[ax,lO mL,kj];exact k3⟩⟩
 have hEs:∀(wx:World) (ev:Nat->Value×Value) (H:List lj),St w wx H->(bE,51,(kD m λi=>(nM cash i,(ev) i)).flatMap kI++sp)∈H->Sl kI 5 wx (Value.slice (some ⟨bE,0,none⟩) m cE) (kD m λi=>(nM cash i,ev i)):=λwx ev H h hm=>(hGE ev).sl (H:=[]) (h.drop (fe.2 hm)) mL;replace hS:St w w3 ([(bg,29,[(Value.slice (some ⟨bE,0,none⟩) m cE),kp]),(br,29,[kp,kp])]++([(bE,51,(kD m λi=>(nM cash i,(λ_=>(kp,kp)) i)).flatMap kI++sp)]::kD m λ_=>[]).flatten):=by
  rw[List.flatten_cons,P1];exact hS
 refine J1 ?_;refine jp (ky rfl (hL.kb hS.kb) ⟨_,Tryz.underlying23⟩ ?_);refine J1 ?_;refine jb ?_;refine kG (λρ w'=>(ρ 2=vL/\ρ 3=vQ/\ρ 4=vD/\ρ 10=pB br/\ρ 11=pB bg/\ρ 12=iB m)/\∃(ev:Nat->Value×Value) (LC:List (List lj)),(∀i,(ev i).2=kp)/\mK lz 53 5 (kD m λi=>(ev i).1) (kD m (zM m L L.length)) LC/\St w w' ([(bg,29,[(Value.slice (some ⟨bE,0,none⟩) m cE),kp]),(br,29,[kp,kp])]++([(bE,51,(kD m λi=>(nM cash i,(ev) i)).flatMap kI++sp)]::LC).flatten)) ?_ ?_
 ·refine ja ?_;refine kF (σ:=Nat) (λj ρ w'=>j<=L.length/\(ρ 2=vL/\ρ 3=vQ/\ρ 4=vD/\ρ 10=pB br/\ρ 11=pB bg/\ρ 12=iB m)/\ρ 51=vL/\ρ 52=iB L.length/\ρ 53=iB j/\∃(ev:Nat->Value×Value) (LC:List (List lj)),(∀i,(ev i).2=kp)/\mK lz 53 5 (kD m λi=>(ev i).1) (kD m (zM m L j)) LC/\St w w' ([(bg,29,[(Value.slice (some ⟨bE,0,none⟩) m cE),kp]),(br,29,[kp,kp])]++([(bE,51,(kD m λi=>(nM cash i,(ev) i)).flatMap kI++sp)]::LC).flatten)) (λj=>L.length-j) 0
   ⟨aw _,⟨h2,h3,h4,h10,h11,h12⟩,rfl,rfl,rfl,_,_,(λ_=>rfl),Wo m L,hS⟩ ?_
  clear hS h2 h3 h4 h10 h11 h12;rintro j ρ w4 ⟨hj,⟨h2,h3,h4,h10,h11,h12⟩,h51,h52,h53,ev,LC,hev,hR,hS⟩;refine V1 ?_;by_cases hlt:j<L.length
  ·refine J1 ?_;refine jb ?_;obtain⟨c,hcd⟩:=jz (L.getD j z4);have hcx:=hl c (by rw[hcd];exact kO _ _ _ hlt);have hc0:=hcx 0 dD;have hc1:=hcx 1 dD;have hc2:=hcx 2 dD;have hc3:=hcx 3 dD;obtain⟨i,hi⟩:=jz (c 0%m);have him:i<m:=by rw[hi];exact bl _ oO
   refine kG (λρ w'=>(ρ 2=vL/\ρ 3=vQ/\ρ 4=vD/\ρ 10=pB br/\ρ 11=pB bg/\ρ 12=iB m)/\ρ 51=vL/\ρ 52=iB L.length/\ρ 53=iB j/\∃(ev:Nat->Value×Value) (LC:List (List lj)),(∀i,(ev i).2=kp)/\mK lz 53 5 (kD m λi=>(ev i).1) (kD m (zM m L (j+1))) LC/\St w w' ([(bg,29,[(Value.slice (some ⟨bE,0,none⟩) m cE),kp]),(br,29,[kp,kp])]++([(bE,51,(kD m λi=>(nM cash i,(ev) i)).flatMap kI++sp)]::LC).flatten)) ?_ ?_
   ·refine jr ?_;refine jp (ks (i:=j) h51 h53 (hL.kb hS.kb) oO dO Vl (jq (kC (i:=j) z4 rfl zH (hL.kb hS.kb) dO rfl rfl (.inl rfl) ?_)));refine J1 ?_;intro bc wz11 hS hBz11;refine J1 ?_;intro wz12 hS;refine ja ?_;rw[<-hcd]at hS;replace hS:St w _ ([(bc,69,zA c),(bg,29,[(Value.slice (some ⟨bE,0,none⟩) m cE),kp]),(br,29,[kp,kp])]++([(bE,51,(kD m λi=>(nM cash i,(ev) i)).flatMap kI++sp)]::LC).flatten):=hS;have hdr:([(bg,29,[(Value.slice (some ⟨bE,0,none⟩) m cE),kp]),(br,29,[kp,kp])]++([(bE,51,(kD m λi=>(nM cash i,(ev) i)).flatMap kI++sp)]::LC).flatten).Sublist ([(bc,69,zA c),(bg,29,[(Value.slice (some ⟨bE,0,none⟩) m cE),kp]),(br,29,[kp,kp])]++([(bE,51,(kD m λi=>(nM cash i,(ev) i)).flatMap kI++sp)]::LC).flatten):=ab _ _;have hGi:=hR.g i (by rw[kj];exact him);rw[kB _ _ him,kB _ _ him]at hGi;obtain⟨a1,c1,hv1⟩:=hGi.len;have h6:=Ae m L j i;obtain⟨C,hC⟩:=jz (zM m L j i);rw[<-hC]at hGi hv1 h6;have hel1:((kD m λi=>(nM cash i,ev i)).getD i nZ).2.1=Value.slice a1 C.length c1:=by rw[kB _ _ him];exact hv1
    have hmem:(bE,51,(kD m λi=>(nM cash i,(ev) i)).flatMap kI++sp)∈([(bc,69,zA c),(bg,29,[(Value.slice (some ⟨bE,0,none⟩) m cE),kp]),(br,29,[kp,kp])]++([(bE,51,(kD m λi=>(nM cash i,(ev) i)).flatMap kI++sp)]::LC).flatten):=by simp
    have hte:=kj m λi=>(nM cash i,ev i);refine jr ?_;refine jp (uu (n:=4) (i:=0) rfl rfl rfl dD Tryz.underlying69 pZ ?_);refine J3 ?_;refine jp (pF rfl rfl oO (r:=((i:Nat):Int)) (by rw[hi];exact o6 _ m) ?_);refine J4 ?_;refine jp (ks (i:=i) rfl rfl (hEs _ ev _ hS hmem) oO dO nW ?_);refine jp (lU rfl (lG (hEs _ ev _ hS hmem) (λ_=>rfl) dD dO) mS ?_);refine jq (lV (v:= .slice a1 C.length c1) (i:=i) (off:=3) nZ rfl nY (hEs _ ev _ hS hmem) (λ_=>rfl) dD oO rfl (by rw[<-hel1];rfl) (.inr rfl) ?_);refine V2 ?_;by_cases hc6:6<=C.length
    ·refine J1 ?_;refine jt ?_;have e:kD m (zM m L (j+1))=kD m (zM m L j):=kN λk _=>by
      show(if _ then _ else _)=_;rw[ah (by rw[<-hcd,<-hi];rintro⟨e1,e2⟩;rw[<-e1,<-hC]at e2;omega)]
     exact⟨_,rfl,⟨jY,jY,jY,jY,jY,jY⟩,jY,jY,jY,ev,LC,hev,by rw[e];exact hR,hS.drop hdr⟩
    ·refine V1 ?_;obtain⟨h,hh⟩:=jz (c 1% (m+1));have hhm:h<m+1:=by rw[hh];exact bl _ oO
     refine jr ?_;refine jp (uu (n:=4) (i:=1) rfl rfl rfl dD Tryz.underlying69 pZ ?_);refine J3 ?_;refine jp (py rfl rfl (r:=((m+1:Nat):Int)) (by exact o8 _ ⟨oO,oO,oO⟩) (jp (pF rfl rfl oO (r:=((h:Nat):Int)) (by rw[hh];exact o6 _ (m+1)) ?_)));refine V1 ?_;refine kG (λρ w'=>((ρ 2=vL/\ρ 3=vQ/\ρ 4=vD/\ρ 10=pB br/\ρ 11=pB bg/\ρ 12=iB m)/\ρ 51=vL/\ρ 52=iB L.length/\ρ 53=iB j/\ρ 16=pB bc/\ρ 17=iB i)/\ρ 18=iB h/\ρ 83= .bool (decide (h=i\/m<=h))/\St w w' ([(bc,69,zA c),(bg,29,[(Value.slice (some ⟨bE,0,none⟩) m cE),kp]),(br,29,[kp,kp])]++([(bE,51,(kD m λi=>(nM cash i,(ev) i)).flatMap kI++sp)]::LC).flatten)) ?_ ?_
     ·by_cases e1:h=i
      ·refine J4 ?_;refine kS (kg 79 kR rfl dT) (kS (kg 79 kR rfl dT) (kS (kg 79 kR rfl dT) (jp (kH (vb rfl dT) rfl ?_))));refine ja ?_;exact⟨_,rfl,⟨⟨jY,jY,jY,jY,jY,jY⟩,jY,jY,jY,by first|assumption|rfl,by first|assumption|rfl⟩,rfl,vb rfl (ai (.inl e1)).symm,hS⟩
      ·refine J4 ?_;refine ko (kd 79 kR rfl dF) (kw rfl (ko (kd 79 kR rfl dF) (kw h12 (ko (kd 79 kR rfl dF) (wA rfl rfl (jp (kH (vb rfl dF) rfl ?_)))))));refine ja ?_;exact⟨_,rfl,⟨⟨jY,jY,jY,jY,jY,jY⟩,jY,jY,jY,by first|assumption|rfl,by first|assumption|rfl⟩,rfl,vb rfl (by rw[dJ];omega),hS⟩
     clear hS h2 h3 h4 h10 h11 h12 h51 h52 h53;rintro ρ w6 ⟨⟨⟨h2,h3,h4,h10,h11,h12⟩,h51,h52,h53,h16,h17⟩,h18,h83,hS⟩;obtain⟨x,hx⟩:=jz (Ub m c);have hxh:x.h=if h=i\/m<=h then-1 else(h:Int):=by rw[hx,hh,hi];rfl
     refine ja ?_;refine kG (λρ w'=>((ρ 2=vL/\ρ 3=vQ/\ρ 4=vD/\ρ 10=pB br/\ρ 11=pB bg/\ρ 12=iB m)/\ρ 51=vL/\ρ 52=iB L.length/\ρ 53=iB j/\ρ 16=pB bc/\ρ 17=iB i)/\ρ 18=iB x.h/\St w w' ([(bc,69,zA c),(bg,29,[(Value.slice (some ⟨bE,0,none⟩) m cE),kp]),(br,29,[kp,kp])]++([(bE,51,(kD m λi=>(nM cash i,(ev) i)).flatMap kI++sp)]::LC).flatten)) ?_ ?_
     ·by_cases e1:h=i\/m<=h
      ·refine lu h83 (ai e1) ?_;refine V1 ?_;exact⟨_,rfl,⟨⟨jY,jY,jY,jY,jY,jY⟩,jY,jY,jY,by first|assumption|rfl,by first|assumption|rfl⟩,vi rfl (by rw[hxh,aj e1]),hS⟩
      ·refine lH h83 (ae e1) ?_;refine ja ?_;exact⟨_,rfl,⟨⟨jY,jY,jY,jY,jY,jY⟩,jY,jY,jY,by first|assumption|rfl,by first|assumption|rfl⟩,by rw[hxh,ah e1];assumption,hS⟩
     clear hS h2 h3 h4 h10 h11 h12 h51 h52 h53 h16 h17 h18 h83;rintro ρ w6 ⟨⟨⟨h2,h3,h4,h10,h11,h12⟩,h51,h52,h53,h16,h17⟩,h18,hS⟩;have hlc:=hR.ln;rw[kj]at hlc;have hLi:([(bE,51,(kD m λi=>(nM cash i,(ev) i)).flatMap kI++sp)]::LC)[i+1]?=some (LC.getD i []):=by rw[List.getElem?_cons_succ];exact Fh [] (show i<LC.length by omega)
     have hS9:=ns (P:=[(bc,69,zA c),(bg,29,[(Value.slice (some ⟨bE,0,none⟩) m cE),kp]),(br,29,[kp,kp])]) hS hLi;clear hS;have hS:St w _ (([(bc,69,zA c),(bg,29,[(Value.slice (some ⟨bE,0,none⟩) m cE),kp]),(br,29,[kp,kp])]++([(bE,51,(kD m λi=>(nM cash i,(ev) i)).flatMap kI++sp)]::LC.set i []).flatten)++LC.getD i []):=hS9;clear hS9;have hxv:lz x= #[.int .i64 x.h,.int .i64 ((c 2%3:Nat):Int),.bool (ki (o9 (c 3))).neg,.string (ki (o9 (c 3))).num,.string (ki (o9 (c 3))).den].toList:=by rw[hx];rfl
     rw[hv1]at hGi;have hcl:zM m L (j+1)=λk=>if k=i then C++[x]else zM m L j k:=by
      funext k;show(if _ then _ else _)=_;rw[<-hcd,<-hi];by_cases e:k=i
      ·rw[aj e,aj ⟨e.symm,by rw[e,<-hC];omega⟩,e,<-hC,hx]
      ·rw[ah e,ah (λh=>e h.1.symm)]
     refine ja ?_;refine A0 23 [jo 0,jv 1,jo 2,jo 3,ju 4,jo 5,jo 6,jo 7,ju 8,jo 9,jo 10,ju 11,jo 12,jo 13,jo 14,ju 15,jv 16,jo 17,jv 18,jw 19,jo 20,jo 21,jw 22] kR kR hS ?_;intro wz13 hS hBz13;refine kU (i:=0) (U':=[jv 1,jo 2,jo 3,ju 4,jo 5,jo 6,jo 7,ju 8,jo 9,jo 10,ju 11,jo 12,jo 13,jo 14,ju 15,jv 16,jo 17,jv 18,jw 19,jo 20,jo 21,jw 22]) kR kR rfl rfl (lD h11 qA (kU (i:=2) (U':=[jv 1,jo 3,ju 4,jo 5,jo 6,jo 7,ju 8,jo 9,jo 10,ju 11,jo 12,jo 13,jo 14,ju 15,jv 16,jo 17,jv 18,jw 19,jo 20,jo 21,jw 22]) kR kR rfl rfl (kw h17 (kU (i:=3) (U':=[jv 1,ju 4,jo 5,jo 6,jo 7,ju 8,jo 9,jo 10,ju 11,jo 12,jo 13,jo 14,ju 15,jv 16,jo 17,jv 18,jw 19,jo 20,jo 21,jw 22]) kR kR rfl rfl (lD h11 qA (pq (i:=4) (U':=[jv 1,jo 5,jo 6,jo 7,ju 8,jo 9,jo 10,ju 11,jo 12,jo 13,jo 14,ju 15,jv 16,jo 17,jv 18,jw 19,jo 20,jo 21,jw 22]) kR kR rfl rfl (kP (k:=1) rfl ng hS rfl rfl rfl (.inr rfl) (kU (i:=5) (U':=[jv 1,jo 6,jo 7,ju 8,jo 9,jo 10,ju 11,jo 12,jo 13,jo 14,ju 15,jv 16,jo 17,jv 18,jw 19,jo 20,jo 21,jw 22]) kR kR rfl rfl (kw h17 (kU (i:=6) (U':=[jv 1,jo 7,ju 8,jo 9,jo 10,ju 11,jo 12,jo 13,jo 14,ju 15,jv 16,jo 17,jv 18,jw 19,jo 20,jo 21,jw 22]) kR kR rfl rfl (ks (i:=i) rfl rfl (hEs _ ev _ hS (by simp)) oO dO nW ?_)))))))))));refine kU (i:=7) (U':=[jv 1,ju 8,jo 9,jo 10,ju 11,jo 12,jo 13,jo 14,ju 15,jv 16,jo 17,jv 18,jw 19,jo 20,jo 21,jw 22]) kR kR rfl rfl (lU rfl (lG (hEs _ ev _ hS (by simp)) (λ_=>rfl) dD dO) mS ?_);refine pq (i:=8) (U':=[jv 1,jo 9,jo 10,ju 11,jo 12,jo 13,jo 14,ju 15,jv 16,jo 17,jv 18,jw 19,jo 20,jo 21,jw 22]) kR kR rfl rfl (lV (v:= .slice a1 C.length c1) (i:=i) (off:=3) nZ rfl nY (hEs _ ev _ hS (by simp)) (λ_=>rfl) dD oO rfl (by rw[<-hel1];rfl) (.inr rfl) ?_);refine kU (i:=9) (U':=[jv 1,jo 10,ju 11,jo 12,jo 13,jo 14,ju 15,jv 16,jo 17,jv 18,jw 19,jo 20,jo 21,jw 22]) kR kR rfl rfl (kw h18 (kU (i:=10) (U':=[jv 1,ju 11,jo 12,jo 13,jo 14,ju 15,jv 16,jo 17,jv 18,jw 19,jo 20,jo 21,jw 22]) kR kR rfl rfl (uu (n:=4) (i:=2) h16 rfl rfl dD Tryz.underlying69 pZ (pq (i:=11) (U':=[jv 1,jo 12,jo 13,jo 14,ju 15,jv 16,jo 17,jv 18,jw 19,jo 20,jo 21,jw 22]) kR kR rfl rfl (kP (k:=0) rfl pZ hS rfl rfl rfl (.inr rfl) (kU (i:=12) (U':=[jv 1,jo 13,jo 14,ju 15,jv 16,jo 17,jv 18,jw 19,jo 20,jo 21,jw 22]) kR kR rfl rfl (pF rfl rfl oO (r:=((c 2%3:Nat):Int)) (by exact o6 _ 3) (kU (i:=13) (U':=[jv 1,jo 14,ju 15,jv 16,jo 17,jv 18,jw 19,jo 20,jo 21,jw 22]) kR kR rfl rfl (kT rfl Tryz.underlying3 ⟨_,Tryz.underlying25⟩ (ct _ oO) (kU (i:=14) (U':=[jv 1,ju 15,jv 16,jo 17,jv 18,jw 19,jo 20,jo 21,jw 22]) kR kR rfl rfl (uu (n:=4) (i:=3) h16 rfl rfl dD Tryz.underlying69 pZ (pq (i:=15) (U':=[jv 1,jv 16,jo 17,jv 18,jw 19,jo 20,jo 21,jw 22]) kR kR rfl rfl (kP (k:=0) rfl pZ hS rfl rfl rfl (.inr rfl) ?_)))))))))))));refine qK (x:=jv 1) (y:=jv 16) (U':=[jv 16,jo 17,jv 18,jw 19,jo 20,jo 21,jw 22]) (U'':=[jv 1,jo 17,jv 18,jw 19,jo 20,jo 21,jw 22]) kR kR kR ?_ ?_
     ·refine kX rfl rfl (pE (kP (k:=1) rfl ng hS rfl rfl rfl (.inr rfl) ?_));refine⟨Below.refl _ _,?_⟩;refine li (x:=jv 16) (U':=[jo 17,jv 18,jw 19,jo 20,jo 21,jw 22]) kR kR (kX rfl rfl (kf Tryz.call20 rfl (x7 (c 3) _ hc3) ?_));rintro r w7 ⟨rfl,hB7⟩;refine⟨hB7,?_⟩;replace hS:=hS.kx hB7;refine kU (i:=17) (U':=[jv 18,jw 19,jo 20,jo 21,jw 22]) kR kR rfl rfl (lr rfl (xo _ _ _) (li (x:=jv 18) (U':=[jw 19,jo 20,jo 21,jw 22]) kR kR (kX rfl rfl (np (vs:=[_]) rfl pG rfl dD dD dD (by simp[Value.cells]) rfl hS ?_))));intro bx wz14 hS hBz14;refine⟨hBz14,?_⟩;rw[show([Value.agg #[.int .i64 x.h,.int .i64 ((c 2%3:Nat):Int),.bool (ki (o9 (c 3))).neg,.string (ki (o9 (c 3))).num,.string (ki (o9 (c 3))).den]]).flatMap (λv=>v.cells.toList)=[x].flatMap lz from(by rw[da,da,hxv];rfl)]at hS;refine li (x:=jw 19) (U':=[jo 20,jo 21,jw 22]) kR kR (lB rfl rfl (mO [x] rfl rfl pG dD hGi hS rfl rfl nv (sy [x]) dL dL ?_));intro va15 La15 wa15 hGi hS hga15;obtain⟨aX,cX,hvX⟩:=hGi.len;subst hvX;obtain⟨LN,hLN⟩:=jz La15;rw[<-hLN]at hGi hS;refine kU (i:=20) (U':=[jo 21,jw 22]) kR kR rfl rfl (kM (i:=i) rfl rfl oO dO nW (kU (i:=21) (U':=[jw 22]) kR kR rfl rfl (lD rfl mS (li (x:=jw 22) (U':=[]) kR kR (lB rfl rfl (xy (k:=3) (i:=i) (off:=3) nZ (nM cash i,.slice aX (C++[x]).length cX,(ev i).2) mL rfl rfl nY hS rfl oO (by rw[kj];exact him) rfl rfl dD (by rw[kB _ _ him];rfl) rfl ?_))))));intro wz16 hS;refine nw ?_;refine ja ?_;obtain⟨ev',LC',f1,f2,f3⟩:=xW (P:=[(bc,69,zA c),(bg,29,[(Value.slice (some ⟨bE,0,none⟩) m cE),kp]),(br,29,[kp,kp])]) hev hR him hcl hGi hS;exact⟨_,rfl,⟨jY,jY,jY,jY,jY,jY⟩,jY,jY,jY,ev',LC',f1,f2,f3.drop (ab _ _)⟩
     ·refine kX rfl rfl (kf Tryz.call20 rfl (x7 (c 3) _ hc3) ?_);rintro r w7 ⟨rfl,hB7⟩;refine⟨hB7,?_⟩;replace hS:=hS.kx hB7;refine kU (i:=17) (U':=[jv 1,jv 18,jw 19,jo 20,jo 21,jw 22]) kR kR rfl rfl (lr rfl (xo _ _ _) ?_);refine qK (x:=jv 1) (y:=jv 18) (U':=[jv 18,jw 19,jo 20,jo 21,jw 22]) (U'':=[jv 1,jw 19,jo 20,jo 21,jw 22]) kR kR kR ?_ ?_
      ·refine kX rfl rfl (pE (kP (k:=1) rfl ng hS rfl rfl rfl (.inr rfl) ?_));refine⟨Below.refl _ _,?_⟩;refine li (x:=jv 18) (U':=[jw 19,jo 20,jo 21,jw 22]) kR kR (kX rfl rfl (np (vs:=[_]) rfl pG rfl dD dD dD (by simp[Value.cells]) rfl hS ?_));intro bx wz17 hS hBz17;refine⟨hBz17,?_⟩;rw[show([Value.agg #[.int .i64 x.h,.int .i64 ((c 2%3:Nat):Int),.bool (ki (o9 (c 3))).neg,.string (ki (o9 (c 3))).num,.string (ki (o9 (c 3))).den]]).flatMap (λv=>v.cells.toList)=[x].flatMap lz from(by rw[da,da,hxv];rfl)]at hS;refine li (x:=jw 19) (U':=[jo 20,jo 21,jw 22]) kR kR (lB rfl rfl (mO [x] rfl rfl pG dD hGi hS rfl rfl nv (sy [x]) dL dL ?_));intro va18 La18 wa18 hGi hS hga18;obtain⟨aX,cX,hvX⟩:=hGi.len;subst hvX;obtain⟨LN,hLN⟩:=jz La18;rw[<-hLN]at hGi hS;refine kU (i:=20) (U':=[jo 21,jw 22]) kR kR rfl rfl (kM (i:=i) rfl rfl oO dO nW (kU (i:=21) (U':=[jw 22]) kR kR rfl rfl (lD rfl mS (li (x:=jw 22) (U':=[]) kR kR (lB rfl rfl (xy (k:=3) (i:=i) (off:=3) nZ (nM cash i,.slice aX (C++[x]).length cX,(ev i).2) mL rfl rfl nY hS rfl oO (by rw[kj];exact him) rfl rfl dD (by rw[kB _ _ him];rfl) rfl ?_))))));intro wz19 hS;refine nw ?_;refine ja ?_;obtain⟨ev',LC',f1,f2,f3⟩:=xW (P:=[(bc,69,zA c),(bg,29,[(Value.slice (some ⟨bE,0,none⟩) m cE),kp]),(br,29,[kp,kp])]) hev hR him hcl hGi hS;exact⟨_,rfl,⟨jY,jY,jY,jY,jY,jY⟩,jY,jY,jY,ev',LC',f1,f2,f3.drop (ab _ _)⟩
      ·refine kX rfl rfl (np (vs:=[_]) rfl pG rfl dD dD dD (by simp[Value.cells]) rfl hS ?_);intro bx wz20 hS hBz20;refine⟨hBz20,?_⟩;rw[show([Value.agg #[.int .i64 x.h,.int .i64 ((c 2%3:Nat):Int),.bool (ki (o9 (c 3))).neg,.string (ki (o9 (c 3))).num,.string (ki (o9 (c 3))).den]]).flatMap (λv=>v.cells.toList)=[x].flatMap lz from(by rw[da,da,hxv];rfl)]at hS;refine qK (x:=jv 1) (y:=jw 19) (U':=[jw 19,jo 20,jo 21,jw 22]) (U'':=[jv 1,jo 20,jo 21,jw 22]) kR kR kR ?_ ?_
       ·refine kX rfl rfl (pE (kP (k:=2) rfl ng hS rfl rfl rfl (.inr rfl) ?_));refine⟨Below.refl _ _,?_⟩;refine li (x:=jw 19) (U':=[jo 20,jo 21,jw 22]) kR kR (lB rfl rfl (mO [x] rfl rfl pG dD hGi hS rfl rfl nv (sy [x]) dL dL ?_));intro va21 La21 wa21 hGi hS hga21;obtain⟨aX,cX,hvX⟩:=hGi.len;subst hvX;obtain⟨LN,hLN⟩:=jz La21;rw[<-hLN]at hGi hS;refine kU (i:=20) (U':=[jo 21,jw 22]) kR kR rfl rfl (kM (i:=i) rfl rfl oO dO nW (kU (i:=21) (U':=[jw 22]) kR kR rfl rfl (lD rfl mS (li (x:=jw 22) (U':=[]) kR kR (lB rfl rfl (xy (k:=3) (i:=i) (off:=3) nZ (nM cash i,.slice aX (C++[x]).length cX,(ev i).2) mL rfl rfl nY hS rfl oO (by rw[kj];exact him) rfl rfl dD (by rw[kB _ _ him];rfl) rfl ?_))))));intro wz22 hS;refine nw ?_;refine ja ?_;obtain⟨ev',LC',f1,f2,f3⟩:=xW (P:=[(bc,69,zA c),(bg,29,[(Value.slice (some ⟨bE,0,none⟩) m cE),kp]),(br,29,[kp,kp])]) hev hR him hcl hGi hS;exact⟨_,rfl,⟨jY,jY,jY,jY,jY,jY⟩,jY,jY,jY,ev',LC',f1,f2,f3.drop (ab _ _)⟩
       ·refine lB rfl rfl (mO [x] rfl rfl pG dD hGi hS rfl rfl nv (sy [x]) dL dL ?_);intro va23 La23 wa23 hGi hS hga23;obtain⟨aX,cX,hvX⟩:=hGi.len;subst hvX;obtain⟨LN,hLN⟩:=jz La23;rw[<-hLN]at hGi hS;refine li (x:=jv 1) (U':=[jo 20,jo 21,jw 22]) kR kR (kX rfl rfl (pE (kP (k:=1) rfl ng hS rfl rfl rfl (.inr rfl) ?_)));refine⟨Below.refl _ _,?_⟩;refine kU (i:=20) (U':=[jo 21,jw 22]) kR kR rfl rfl (kM (i:=i) rfl rfl oO dO nW (kU (i:=21) (U':=[jw 22]) kR kR rfl rfl (lD rfl mS (li (x:=jw 22) (U':=[]) kR kR (lB rfl rfl (xy (k:=3) (i:=i) (off:=3) nZ (nM cash i,.slice aX (C++[x]).length cX,(ev i).2) mL rfl rfl nY hS rfl oO (by rw[kj];exact him) rfl rfl dD (by rw[kB _ _ him];rfl) rfl ?_))))));intro wz24 hS;refine nw ?_;refine ja ?_;obtain⟨ev',LC',f1,f2,f3⟩:=xW (P:=[(bc,69,zA c),(bg,29,[(Value.slice (some ⟨bE,0,none⟩) m cE),kp]),(br,29,[kp,kp])]) hev hR him hcl hGi hS;exact⟨_,rfl,⟨jY,jY,jY,jY,jY,jY⟩,jY,jY,jY,ev',LC',f1,f2,f3.drop (ab _ _)⟩
   clear hS h2 h3 h4 h10 h11 h12 h51 h52 h53;rintro ρ w6 ⟨⟨h2,h3,h4,h10,h11,h12⟩,h51,h52,h53,ev,LC,hev,hR,hS⟩;refine V2 ?_;exact⟨j+1,_,rfl,⟨hlt,⟨jY,jY,jY,jY,jY,jY⟩,jY,jY,vi rfl oO,ev,LC,hev,hR,hS⟩,oO⟩
  ·refine J1 ?_;refine jt ?_;obtain rfl:j=L.length:=oO;exact⟨_,rfl,⟨h2,h3,h4,h10,h11,h12⟩,ev,LC,hev,hR,hS⟩
 clear hS h2 h3 h4 h10 h11 h12;rintro ρ w4 ⟨⟨h2,h3,h4,h10,h11,h12⟩,ev,LC,hev,hR,hS⟩;obtain⟨cl,hcl⟩:=jz (zM m L L.length);have hc6:∀i,(cl i).length<=6:=λi=>by rw[hcl];exact Ae m L L.length i
 rw[<-hcl]at hR;obtain⟨nC,hnC⟩:∃nC:Nat->Nat,nC=λi=>(cl i).length:=⟨_,rfl⟩;have hst9:(∀i,i<m->([]:List Value).length=(uR m nC Q 0 i).length/\([]:List (List Value)).length=(uR m nC Q 0 i).length/\IM [] (ev i).2 (uR m nC Q 0 i) [] []):=λi _=>⟨rfl,rfl,by
  rw[hev i];exact⟨λwz wx _=>⟨rfl,Sl.nil _ _ _,λk hk=>absurd hk (aS _)⟩⟩⟩
 replace hS:St w w4 ([(bg,29,[(Value.slice (some ⟨bE,0,none⟩) m cE),kp]),(br,29,[kp,kp])]++([(bE,51,(kD m λi=>(nM cash i,(ev) i)).flatMap kI++sp)]::[]::LC).flatten):=hS;refine J1 ?_;refine jp (ky rfl (hQ.kb hS.kb) ⟨_,Tryz.underlying24⟩ ?_);refine J1 ?_;refine jb ?_;refine kG (λρ w'=>(ρ 2=vL/\ρ 3=vQ/\ρ 4=vD/\ρ 10=pB br/\ρ 11=pB bg/\ρ 12=iB m)/\∃(ev:Nat->Value×Value) (DA:List lj) (av:Nat->List Value) (pv:Nat->List (List Value)),(∀i,i<m->(av i).length=(uR m nC Q Q.length i).length/\(pv i).length=(uR m nC Q Q.length i).length/\IM DA (ev i).2 (uR m nC Q Q.length i) (av i) (pv i))/\mK lz 53 5 (kD m λi=>(ev i).1) (kD m cl) LC/\St w w' ([(bg,29,[(Value.slice (some ⟨bE,0,none⟩) m cE),kp]),(br,29,[kp,kp])]++([(bE,51,(kD m λi=>(nM cash i,(ev) i)).flatMap kI++sp)]::DA::LC).flatten)) ?_ ?_
 ·refine ja ?_;refine kF (σ:=Nat) (λj ρ w'=>j<=Q.length/\(ρ 2=vL/\ρ 3=vQ/\ρ 4=vD/\ρ 10=pB br/\ρ 11=pB bg/\ρ 12=iB m)/\ρ 107=vQ/\ρ 108=iB Q.length/\ρ 109=iB j/\∃(ev:Nat->Value×Value) (DA:List lj) (av:Nat->List Value) (pv:Nat->List (List Value)),(∀i,i<m->(av i).length=(uR m nC Q j i).length/\(pv i).length=(uR m nC Q j i).length/\IM DA (ev i).2 (uR m nC Q j i) (av i) (pv i))/\mK lz 53 5 (kD m λi=>(ev i).1) (kD m cl) LC/\St w w' ([(bg,29,[(Value.slice (some ⟨bE,0,none⟩) m cE),kp]),(br,29,[kp,kp])]++([(bE,51,(kD m λi=>(nM cash i,(ev) i)).flatMap kI++sp)]::DA::LC).flatten)) (λj=>Q.length-j) 0
   ⟨aw _,⟨h2,h3,h4,h10,h11,h12⟩,rfl,rfl,rfl,ev,[],(λ_=>[]),(λ_=>[]),hst9,hR,hS⟩ ?_
  clear hS h2 h3 h4 h10 h11 h12 hst9 hev hR;clear ev;rintro j ρ w4 ⟨hj,⟨h2,h3,h4,h10,h11,h12⟩,h107,h108,h109,ev,DA,av,pv,hPA,hR,hS⟩;refine V1 ?_;by_cases hlt:j<Q.length
  ·refine J1 ?_;refine jb ?_;obtain⟨p,hpd⟩:=jz (Q.getD j z4);have hpx:=hq p (by rw[hpd];exact kO _ _ _ hlt);have hp0:=hpx 0 dD;obtain⟨i,hi⟩:=jz (p 0%m);have him:i<m:=by rw[hi];exact bl _ oO
   refine kG (λρ w'=>(ρ 2=vL/\ρ 3=vQ/\ρ 4=vD/\ρ 10=pB br/\ρ 11=pB bg/\ρ 12=iB m)/\ρ 107=vQ/\ρ 108=iB Q.length/\ρ 109=iB j/\∃(ev:Nat->Value×Value) (DA:List lj) (av:Nat->List Value) (pv:Nat->List (List Value)),(∀i,i<m->(av i).length=(uR m nC Q (j+1) i).length/\(pv i).length=(uR m nC Q (j+1) i).length/\IM DA (ev i).2 (uR m nC Q (j+1) i) (av i) (pv i))/\mK lz 53 5 (kD m λi=>(ev i).1) (kD m cl) LC/\St w w' ([(bg,29,[(Value.slice (some ⟨bE,0,none⟩) m cE),kp]),(br,29,[kp,kp])]++([(bE,51,(kD m λi=>(nM cash i,(ev) i)).flatMap kI++sp)]::DA::LC).flatten)) ?_ ?_
   ·refine jr ?_;refine jp (ks (i:=j) h107 h109 (hQ.kb hS.kb) oO dO SV (jq (kC (i:=j) z4 rfl ym (hQ.kb hS.kb) dO rfl rfl (.inl rfl) ?_)));refine J1 ?_;intro bc wz25 hS hBz25;refine J1 ?_;intro wz26 hS;refine ja ?_;rw[<-hpd]at hS;replace hS:St w _ ((bc,70,pC p)::[(bg,29,[(Value.slice (some ⟨bE,0,none⟩) m cE),kp]),(br,29,[kp,kp])]++([(bE,51,(kD m λi=>(nM cash i,(ev) i)).flatMap kI++sp)]::DA::LC).flatten):=hS;have hGi:=hR.g i (by rw[kj];exact him);rw[kB _ _ him,kB _ _ him]at hGi;obtain⟨a1,c1,hv1⟩:=hGi.len;have hci:=hc6 i;obtain⟨l1,l2,hPi⟩:=hPA i him;have hlA:=Kx m nC Q j i;obtain⟨A,hA⟩:=jz (uR m nC Q j i);rw[<-hA]at l1 l2 hPi hlA;have hDs:DA.Sublist ((bc,70,pC p)::[(bg,29,[(Value.slice (some ⟨bE,0,none⟩) m cE),kp]),(br,29,[kp,kp])]++([(bE,51,(kD m λi=>(nM cash i,(ev) i)).flatMap kI++sp)]::DA::LC).flatten):=((ap DA LC.flatten).trans (ao [(bE,51,(kD m λi=>(nM cash i,(ev) i)).flatMap kI++sp)] _)).trans (ao _ _);have hAg:=hPi.g _ _ (hS.drop hDs);obtain⟨a2,c2,hv2,_⟩:=hAg.sl.form;rw[l1]at hv2;have hev2:ev i=(.slice a1 (cl i).length c1,.slice a2 A.length c2):=jP hv1 hv2;have hel:((kD m λi=>(nM cash i,ev i)).getD i nZ)=(nM cash i,Value.slice a1 (cl i).length c1,Value.slice a2 A.length c2):=by rw[kB _ _ him,hev2]
    have hte:=kj m λi=>(nM cash i,ev i);refine jr ?_;refine jp (uu (n:=3) (i:=0) rfl rfl rfl dD Tryz.underlying70 pZ ?_);refine J3 ?_;refine jp (pF rfl rfl oO (r:=((i:Nat):Int)) (by rw[hi];exact o6 _ m) ?_);refine J4 ?_;refine jp (ks (i:=i) rfl rfl (hEs _ ev _ hS (by simp)) oO dO nW ?_);refine jp (lU rfl (lG (hEs _ ev _ hS (by simp)) (λ_=>rfl) dD dO) zy ?_);refine jq (lV (v:= .slice a2 A.length c2) (i:=i) (off:=4) nZ rfl u3 (hEs _ ev _ hS (by simp)) (λ_=>rfl) dD oO rfl (by rw[hel];rfl) (.inr rfl) ?_);refine J2 ?_;refine jb ?_;by_cases hA2:A.length<2
    ·refine V1 ?_;have hag:∀k,uR m nC Q (j+1) k=if k=i then uR m nC Q j i++[xj A (nC i) p]else uR m nC Q j k:=λk=>by
      show(if _ then _ else _)=_;rw[<-hpd,<-hi];by_cases e:k=i
      ·rw[aj e,aj ⟨e.symm,by rw[e,<-hA];exact hA2⟩,e,<-hA]
      ·rw[ah e,ah (λh=>e h.1.symm)]
     have hni:nC i=(cl i).length:=by rw[hnC]
     rw[hv2]at hPi;refine ja ?_;refine kK [jo 0,ju 1,jo 2,jo 3,ju 4,jo 5,jo 6,ju 7,ju 8,jv 9,jo 10,jo 11,jw 12] kR kR hS ?_;intro wz27 hS hBz27;refine J6 ?_;refine jl rfl (ks (i:=i) rfl rfl (hEs _ ev _ hS (by simp)) oO dO nW (jm rfl (kC (v:=Na (nM cash i) (.slice a1 (cl i).length c1) (.slice a2 A.length c2)) (i:=i) nZ rfl ua (hEs _ ev _ hS (by simp)) oO rfl (by rw[hel];rfl) (.inl rfl) ?_)));refine J1 ?_;refine jn rfl (kf Tryz.call21 rfl (NP (nM cash i) a1 (cl i).length c1 _ A (av i) (pv i) p _ (hPi.g _ _ (hS.drop hDs)) oO hpx oO) ?_);rintro r w5 ⟨x,vs,LO,D2,hGr,hMt,hS5⟩;refine⟨hS5.kb,?_⟩;replace hS:=(hS.join hS5).perm ay;obtain⟨aR,cR,hvr⟩:=hGr.len;subst hvr;refine jl rfl (kM (i:=i) rfl rfl oO dO nW ?_);refine J1 ?_;refine jx rfl (xy (k:=3) (i:=i) (off:=4) nZ (nM cash i,(ev i).1,.slice aR (av i++[x]).length cR) mL rfl rfl u3 hS rfl oO (by rw[kj];exact him) rfl rfl dD (by rw[kB _ _ him];rfl) rfl ?_);intro wz28 hS;refine ja ?_;rw[<-hni]at hMt;obtain⟨ev',DA',av',pv',f1,f2,f3⟩:=Sj (P:=(bc,70,pC p)::[(bg,29,[(Value.slice (some ⟨bE,0,none⟩) m cE),kp]),(br,29,[kp,kp])]) hPA hR him hag hGr hMt hS;exact⟨_,rfl,⟨jY,jY,jY,jY,jY,jY⟩,jY,jY,jY,ev',DA',av',pv',f1,f2,f3.drop (ab _ _)⟩
    ·refine V1 ?_;have e:∀k,uR m nC Q (j+1) k=uR m nC Q j k:=λk=>by
      show(if _ then _ else _)=_;rw[ah (by rw[<-hpd,<-hi];rintro⟨e1,e2⟩;rw[<-e1,<-hA]at e2;exact hA2 e2)]
     exact⟨_,rfl,⟨jY,jY,jY,jY,jY,jY⟩,jY,jY,jY,ev,DA,av,pv,(λk hk=>by rw[e k];exact hPA k hk),hR,hS.drop (ab _ _)⟩
   clear hS h2 h3 h4 h10 h11 h12 h107 h108 h109;rintro ρ w6 ⟨⟨h2,h3,h4,h10,h11,h12⟩,h107,h108,h109,ev,DA,av,pv,hPA,hR,hS⟩;refine V2 ?_;exact⟨j+1,_,rfl,⟨hlt,⟨jY,jY,jY,jY,jY,jY⟩,jY,jY,vi rfl oO,ev,DA,av,pv,hPA,hR,hS⟩,oO⟩
  ·refine J1 ?_;refine jt ?_;obtain rfl:j=Q.length:=oO;exact⟨_,rfl,⟨h2,h3,h4,h10,h11,h12⟩,ev,DA,av,pv,hPA,hR,hS⟩
 clear hS h2 h3 h4 h10 h11 h12 hst9 hR hev;clear ev;rintro ρ w4 ⟨⟨h2,h3,h4,h10,h11,h12⟩,ev,DA,av,pv,hPA,hR,hS⟩;have hPA2:=λi hi=>(hPA i hi).2.2;clear hPA;refine J1 ?_;refine jp (ky rfl (hD.kb hS.kb) ⟨_,Tryz.underlying24⟩ ?_);refine J1 ?_;refine jb ?_;refine kG (λρ w'=>(ρ 2=vL/\ρ 3=vQ/\ρ 4=vD/\ρ 10=pB br/\ρ 11=pB bg/\ρ 12=iB m)/\∃(vY:Value) (DA:List lj) (dv:List Value),Uu DA vY (GQ m cl D D.length) dv/\(∀i,i<m->IM DA (ev i).2 (uR m nC Q Q.length i) (av i) (pv i))/\St w w' ([(bg,29,[(Value.slice (some ⟨bE,0,none⟩) m cE),vY]),(br,29,[kp,kp])]++([(bE,51,(kD m λi=>(nM cash i,(ev) i)).flatMap kI++sp)]::DA::LC).flatten)) ?_ ?_
 ·refine ja ?_;refine kF (σ:=Nat) (λj ρ w'=>j<=D.length/\(ρ 2=vL/\ρ 3=vQ/\ρ 4=vD/\ρ 10=pB br/\ρ 11=pB bg/\ρ 12=iB m)/\ρ 139=vD/\ρ 140=iB D.length/\ρ 141=iB j/\∃(vY:Value) (DA:List lj) (dv:List Value),Uu DA vY (GQ m cl D j) dv/\(∀i,i<m->IM DA (ev i).2 (uR m nC Q Q.length i) (av i) (pv i))/\St w w' ([(bg,29,[(Value.slice (some ⟨bE,0,none⟩) m cE),vY]),(br,29,[kp,kp])]++([(bE,51,(kD m λi=>(nM cash i,(ev) i)).flatMap kI++sp)]::DA::LC).flatten)) (λj=>D.length-j) 0
   ⟨aw _,⟨h2,h3,h4,h10,h11,h12⟩,rfl,rfl,rfl,kp,DA,[],⟨rfl,λwz wx _=>⟨Sl.nil _ _ _,λk hk=>absurd hk (aS _)⟩⟩,hPA2,hS⟩ ?_
  clear hS h2 h3 h4 h10 h11 h12 hPA2;clear DA;rintro j ρ w4 ⟨hj,⟨h2,h3,h4,h10,h11,h12⟩,h139,h140,h141,vY,DA,dv,hPD,hPA,hS⟩;refine V1 ?_;by_cases hlt:j<D.length
  ·refine J1 ?_;refine jb ?_;obtain⟨d,hdd⟩:=jz (D.getD j z4);have hdx:=hd d (by rw[hdd];exact kO _ _ _ hlt);refine kG (λρ w'=>(ρ 2=vL/\ρ 3=vQ/\ρ 4=vD/\ρ 10=pB br/\ρ 11=pB bg/\ρ 12=iB m)/\ρ 139=vD/\ρ 140=iB D.length/\ρ 141=iB j/\∃(vY:Value) (DA:List lj) (dv:List Value),Uu DA vY (GQ m cl D (j+1)) dv/\(∀i,i<m->IM DA (ev i).2 (uR m nC Q Q.length i) (av i) (pv i))/\St w w' ([(bg,29,[(Value.slice (some ⟨bE,0,none⟩) m cE),vY]),(br,29,[kp,kp])]++([(bE,51,(kD m λi=>(nM cash i,(ev) i)).flatMap kI++sp)]::DA::LC).flatten)) ?_ ?_
   ·refine jr ?_;refine jp (ks (i:=j) h139 h141 (hD.kb hS.kb) oO dO SV (jq (kC (i:=j) z4 rfl ym (hD.kb hS.kb) dO rfl rfl (.inl rfl) ?_)));refine J1 ?_;intro bc wz29 hS hBz29;refine J1 ?_;intro wz30 hS;refine ja ?_;rw[<-hdd]at hS;replace hS:St w _ ((bc,70,pC d)::[(bg,29,[(Value.slice (some ⟨bE,0,none⟩) m cE),vY]),(br,29,[kp,kp])]++([(bE,51,(kD m λi=>(nM cash i,(ev) i)).flatMap kI++sp)]::DA::LC).flatten):=hS;have hDs:DA.Sublist ((bc,70,pC d)::[(bg,29,[(Value.slice (some ⟨bE,0,none⟩) m cE),vY]),(br,29,[kp,kp])]++([(bE,51,(kD m λi=>(nM cash i,(ev) i)).flatMap kI++sp)]::DA::LC).flatten):=((ap DA LC.flatten).trans (ao [(bE,51,(kD m λi=>(nM cash i,(ev) i)).flatMap kI++sp)] _)).trans (ao _ _);have hLs:LC.flatten.Sublist ((bc,70,pC d)::[(bg,29,[(Value.slice (some ⟨bE,0,none⟩) m cE),vY]),(br,29,[kp,kp])]++([(bE,51,(kD m λi=>(nM cash i,(ev) i)).flatMap kI++sp)]::DA::LC).flatten):=((ao DA LC.flatten).trans (ao [(bE,51,(kD m λi=>(nM cash i,(ev) i)).flatMap kI++sp)] _)).trans (ao _ _);have hDb:=hPD.g _ _ (hS.drop hDs);obtain⟨aY,cY,hvY,_⟩:=hDb.sl.form;rw[kj]at hvY;have hds3:=KX m cl D j;subst hvY;refine J4 ?_;refine jb ?_;obtain⟨ds,hds⟩:=jz (GQ m cl D j);have hdsj:GQ m cl D (j+1)=if ds.length<3 then ds++[⟨o9 (d 2),R4 ds d cl m⟩]else ds:=by rw[hds,hdd];rfl
    rw[<-hds]at hPD hDb hds3⊢;by_cases hA2:ds.length<3
    ·refine V1 ?_;rw[<-hds]at hS hLs;rw[aj hA2]at hdsj;have hEsR:WI _ _ m (nM cash) ev cl:=⟨hEs _ ev _ hS (by simp),λk hk=>by
      have h:=hR.row (P:=[]) (hS.drop hLs) nv (i:=k) (by rw[kj];exact hk);rw[kB _ _ hk,kB _ _ hk]at h;exact h⟩
     refine J2 ?_;refine jh (kf Tryz.call22 rfl (UH d _ hEsR hDb hdx oO (λk _=>by have:=hc6 k;omega) oO) ?_);rintro r w5 ⟨vL2,LO,D2,hGr,hMt,hS5⟩;replace hS:=(hS.join hS5).perm ay;have hGr2:=hGr;obtain⟨aR,cR,hvr⟩:=hGr.len;subst hvr;refine J1 ?_;refine jh (oX (k:=1) rfl rfl qm hS rfl (by simp) rfl ?_);intro wz31 hS;refine ja ?_;have hPD2:=hPD.snoc hGr2 hMt;replace hS:St w _ (((bc,70,pC d)::[(bg,29,[(Value.slice (some ⟨bE,0,none⟩) m cE),Value.slice aR ((kD ds.length λk=>((ds.getD k uh).W,dv.getD k undef))++[(o9 (d 2),vL2)]).length cR]),(br,29,[kp,kp])]++([(bE,51,(kD m λi=>(nM cash i,(ev) i)).flatMap kI++sp)]::DA::LC).flatten)++(LO++D2)):=hS;have hS9:=(tI (P:=(bc,70,pC d)::[(bg,29,[(Value.slice (some ⟨bE,0,none⟩) m cE),Value.slice aR ((kD ds.length λk=>((ds.getD k uh).W,dv.getD k undef))++[(o9 (d 2),vL2)]).length cR]),(br,29,[kp,kp])]) (Ls:=[(bE,51,(kD m λi=>(nM cash i,(ev) i)).flatMap kI++sp)]::DA::LC) (k:=1) (A:=LO++D2) (hS.perm ay) rfl (dP _)).drop (ab _ _);exact⟨_,rfl,⟨jY,jY,jY,jY,jY,jY⟩,jY,jY,jY,_,_,_,by rw[hdsj];exact hPD2,(λk hk=>(hPA k hk).mono (ao _ _)),hS9⟩
    ·refine V1 ?_;rw[ah hA2]at hdsj;exact⟨_,rfl,⟨jY,jY,jY,jY,jY,jY⟩,jY,jY,jY,_,DA,dv,by rw[hdsj];exact hPD,hPA,by rw[hds];exact hS.drop (ab _ _)⟩
   clear hS h2 h3 h4 h10 h11 h12 h139 h140 h141;rintro ρ w6 ⟨⟨h2,h3,h4,h10,h11,h12⟩,h139,h140,h141,vY,DA,dv,hPD,hPA,hS⟩;refine V2 ?_;exact⟨j+1,_,rfl,⟨hlt,⟨jY,jY,jY,jY,jY,jY⟩,jY,jY,vi rfl oO,vY,DA,dv,hPD,hPA,hS⟩,oO⟩
  ·refine J1 ?_;refine jt ?_;obtain rfl:j=D.length:=oO;exact⟨_,rfl,⟨h2,h3,h4,h10,h11,h12⟩,vY,DA,dv,hPD,hPA,hS⟩
 clear hS h2 h3 h4 h10 h11 h12 hPA2;clear DA;rintro ρ w4 ⟨⟨h2,h3,h4,h10,h11,h12⟩,vY,DA,dv,hPD,hPA,hS⟩;have hDs:DA.Sublist ([(bg,29,[(Value.slice (some ⟨bE,0,none⟩) m cE),vY]),(br,29,[kp,kp])]++([(bE,51,(kD m λi=>(nM cash i,(ev) i)).flatMap kI++sp)]::DA::LC).flatten):=((ap DA LC.flatten).trans (ao [(bE,51,(kD m λi=>(nM cash i,(ev) i)).flatMap kI++sp)] _)).trans (ao _ _);obtain⟨aY,cY,hvY,_⟩:=(hPD.g _ _ (hS.drop hDs)).sl.form;have hPD2:=hPD;have hform:∀i,i<m->∃a l c,(ev i).2= .slice a l c:=λi hi=>by
  obtain⟨a,c,h,_⟩:=((hPA i hi).g _ _ (hS.drop hDs)).sl.form;exact⟨a,_,c,h⟩
 subst hvY;refine J2 ?_;intro wz32 hS;refine jt ?_;refine mA (k:=1) rfl h10 uX hS rfl rfl ?_;have hS8:St w _ ([(bg,29,[(Value.slice (some ⟨bE,0,none⟩) m cE),_]),(br,29,[(Value.slice (some ⟨bE,0,none⟩) m cE),_])]++([(bE,51,(kD m λi=>(nM cash i,(ev) i)).flatMap kI++sp)]::DA::LC).flatten):=hS;have hS9:=hS8.drop (ao _ _);rw[<-hm];rw[hnC]at hPA;rw[hcl]at hPA hR;refine⟨_,_,ev,av,pv,dv,[(bE,51,(kD m λi=>(nM cash i,(ev) i)).flatMap kI++sp)],DA,LC,rfl,⟨⟨hGE ev,hR,hform⟩,hPA,by rw[<-hcl];exact hPD2⟩,hS9.perm ?_⟩;rw[aG];exact bV _ ay
def DM (n:Nat) (q:Nat->Rat) (cl:Nat->List qn) (ds:List tw):nq:=⟨kD n λi=>⟨q i,cl i⟩,ds⟩
theorem Kj (n:Nat) (q:Nat->Rat) (cl:Nat->List qn) (ds:List tw):(DM n q cl ds).n=n:=kj _ _
theorem E2 {n:Nat} (q:Nat->Rat) (cl:Nat->List qn) (ds:List tw) {i:Nat} (h:i<n):(DM n q cl ds).e i=⟨q i,cl i⟩:=kB _ _ h
theorem Vf.gr {n:Nat} {q:Nat->Rat} {cl:Nat->List qn} {A:Nat->List (List (List n9))} {ds:List tw} {vE vD:Value} {ev:Nat->Value×Value} {av:Nat->List Value} {pv:Nat->List (List Value)} {dv:List Value} {LE:List lj} {LC:List (List lj)} {DA:List lj}
  (h:Vf n q cl A ds vE vD ev av pv dv LE LC DA) {w0 w:World} (hS:St w0 w ((LE++LC.flatten)++DA)):EG w vE vD (DM n q cl ds) (kD n ev) dv/\∀i,i<(DM n q cl ds).n->L8 w ((kD n ev).getD i rM).2 (A i) (av i) (pv i):=by
 have hE:=h.e.XI (hS.drop (ap _ _));have hD:=h.d.g _ _ (hS.drop (ao _ _));have hes:(kD n λi=>(q i,ev i))=kD (DM n q cl ds).n λi=>(((DM n q cl ds).e i).cash,(kD n ev).getD i rM):=by
  rw[Kj];exact kN λi hi=>by rw[E2 q cl ds hi,kB _ _ hi]
 refine⟨⟨by rw[<-hes];exact hE.es,hD.sl,λi hi=> ?_,hD.lg,λi hi=> ?_⟩,λi hi=> ?_⟩;all_goals rw[Kj]at hi
 ·rw[kB _ _ hi,E2 q cl ds hi];exact hE.cl i hi
 ·rw[kB _ _ hi];exact h.e.a i hi
 ·rw[kB _ _ hi];exact(h.a i hi).g _ _ (hS.drop (ao _ _))
theorem M2 (va vb:Value) (A:List RR) (w:World) (ha:Sl ke 3 w va A) (hb:Sl ke 3 w vb A):
  mb Tryz.prog 17 #[va,vb] w λv w'=>v= .bool true/\Below w.heap.size w w':=
 mb.mono (A1 va vb A A w ha hb) λv w' ⟨h1,h2⟩=>⟨by rw[h1,ai rfl],h2⟩
theorem Np (va vb:Value) (A:List (List RR)) (us vs:List Value) (w:World) (ha:rB ke 3 w va A us) (hb:rB ke 3 w vb A vs):
  mb Tryz.prog 19 #[va,vb] w λv w'=>v= .bool true/\Below w.heap.size w w':=by
 have hS:=St.init w;have hla:=ha.len;have hlb:=hb.len;have hmx:=ha.sl.maxLen;refine enter Tryz.func19 rfl Tryz.ntmps19 rfl ?_;refine J2 ?_;refine jp (ky rfl (ha.sl.kb hS.kb) ⟨_,Tryz.underlying35⟩ ?_);refine J1 ?_;refine jp (ky rfl (hb.sl.kb hS.kb) ⟨_,Tryz.underlying35⟩ ?_);refine V1 ?_;rw[hla,hlb];refine lH rfl (ae (λh=>h rfl)) ?_;refine V1 ?_;refine kF (σ:=Nat) (λi ρ w'=>i<=A.length/\ρ 0=va/\ρ 1=vb/\ρ 5=iB i/\St w w' []) (λi=>A.length-i) 0
  ⟨aw _,rfl,rfl,rfl,hS⟩ ?_
 clear hS;rintro i ρ w2 ⟨hi,h0,h1,h5,hS⟩;refine J2 ?_;refine jp (ky rfl (ha.sl.kb hS.kb) ⟨_,Tryz.underlying35⟩ ?_);refine V1 ?_;by_cases hlt:i<A.length
 ·refine V1 ?_;refine kK [jo 0,jo 1,jo 2,ju 3,jo 4,jo 5,jo 6,ju 7,jv 8,jo 9] kR kR hS ?_;intro wz1 hS hBz1;refine J2 ?_;refine jl rfl (ks (i:=i) rfl rfl (ha.sl.kb hS.kb) oO dO lS (jm rfl (kC (i:=i) undef rfl md (ha.sl.kb hS.kb) dO rfl rfl (.inr rfl) ?_)));refine J2 ?_;refine jl rfl (ks (i:=i) rfl rfl (hb.sl.kb hS.kb) oO dO lS (jm rfl (kC (i:=i) undef rfl md (hb.sl.kb hS.kb) dO rfl rfl (.inr rfl) (jn rfl (kf Tryz.call17 rfl (M2 _ _ (A.getD i []) _ ((ha.row i hlt).kb hS.kb) ((hb.row i hlt).kb hS.kb)) ?_)))));rintro r w3 ⟨rfl,hB3⟩;refine⟨hB3,?_⟩;replace hS:=hS.kx hB3;refine V1 ?_;refine lH rfl (rfl) ?_;refine V3 ?_;exact⟨i+1,_,rfl,⟨hlt,jY,jY,vi rfl oO,hS⟩,oO⟩
 ·refine J2 ?_;refine jt ?_;refine kJ rfl rfl ?_;exact⟨rfl,hS.kb⟩
def V0 (i:Nat):Rat:=if i=0 then((30:Int):Rat)else 0
def SM (i:Nat):List qn:=if i=0 then [⟨-1,2,((40:Int):Rat)⟩,⟨1,2,((20:Int):Rat)⟩]else [⟨-1,2,((50:Int):Rat)⟩]
theorem MR (r:RR) (a:Option Addr) (n c:Nat):Tryz.prog.built 51 [(0,lC r),(1,.slice a n c)]=some #[.bool r.neg,.string r.num,.string r.den,.slice a n c,kp]:=by kernel_rfl
theorem MD (a:Option Addr) (n c:Nat):Tryz.prog.built 51 [(1,.slice a n c)]=some #[.bool false,.string ⟨#[]⟩,.string ⟨#[]⟩,.slice a n c,kp]:=by kernel_rfl
theorem Og (a:Option Addr) (n c:Nat):Tryz.prog.built 29 [(0,.slice a n c)]=some #[.slice a n c,kp]:=by kernel_rfl
theorem R8 (w:World):
  mb Tryz.prog 32 #[] w λr w'=>∃(vE vD:Value) (ev:Nat->Value×Value) (LE DA:List lj) (LC:List (List lj)),r= .agg #[vE,vD]/\Vf 2 V0 SM (λ_=>[]) [] vE vD ev (λ_=>[]) (λ_=>[]) [] LE LC DA/\St w w' ((LE++LC.flatten)++DA):=by
 have hS:=St.init w;refine enter Tryz.func32 rfl Tryz.ntmps32 rfl ?_;refine J1 ?_;intro br wz1 hS hBz1;refine ja ?_;obtain⟨q3,hq3⟩:∃q:Rat,q=((30:Int):Rat):=⟨_,rfl⟩;obtain⟨q4,hq4⟩:∃q:Rat,q=((40:Int):Rat):=⟨_,rfl⟩;obtain⟨q2,hq2⟩:∃q:Rat,q=((20:Int):Rat):=⟨_,rfl⟩;obtain⟨q5,hq5⟩:∃q:Rat,q=((50:Int):Rat):=⟨_,rfl⟩;have h3:=λw=>mY 30 w dD dD;have h4:=λw=>mY 40 w dD dD;have h2:=λw=>mY 20 w dD dD;have h5:=λw=>mY 50 w dD dD;rw[<-hq3]at h3;rw[<-hq4]at h4;rw[<-hq2]at h2;rw[<-hq5]at h5;refine jr ?_;refine jh (kf Tryz.call33 rfl (h3 _) ?_);rintro r w1 ⟨rfl,hB1⟩;replace hS:=hS.kx hB1;refine jh (kf Tryz.call33 rfl (h4 _) ?_);rintro r w2 ⟨rfl,hB2⟩;replace hS:=hS.kx hB2;refine jp (lr rfl (xo _ _ _) (jh (kf Tryz.call33 rfl (h2 _) ?_)));rintro r w3 ⟨rfl,hB3⟩;replace hS:=hS.kx hB3;refine jp (lr rfl (xo _ _ _) (jh (np (vs:=[_,_]) rfl pG rfl dD dD dD (by simp[Value.cells]) rfl hS ?_)));intro b6 wz2 hS hBz2;refine jp (lr rfl (MR _ _ _ _) (jh (kf Tryz.call33 rfl (h5 _) ?_)));rintro r w4 ⟨rfl,hB4⟩;replace hS:=hS.kx hB4;refine jp (lr rfl (xo _ _ _) (jh (np (vs:=[_]) rfl pG rfl dD dD dD (by simp[Value.cells]) rfl hS ?_)));intro b7 wz3 hS hBz3;refine jp (lr rfl (MD _ _ _) (jh (np (vs:=[_,_]) rfl nW rfl dD dD dD (by simp[Value.cells]) rfl hS ?_)));intro bE wz4 hS hBz4;refine jp (lr rfl (Og _ _ _) ?_);refine J1 ?_;intro wz5 hS;refine jt ?_;refine mA (k:=3) rfl rfl uX hS rfl rfl ?_;obtain⟨s6,hs6⟩:=jz (Value.slice (some ⟨b6,0,none⟩) 2 2);obtain⟨s7,hs7⟩:=jz (Value.slice (some ⟨b7,0,none⟩) 1 1);have hS1:St w _ ([(bE,51,kI (q3,Value.slice (some ⟨b6,0,none⟩) 2 2,kp)++[.bool false,.string ⟨#[]⟩,.string ⟨#[]⟩,Value.slice (some ⟨b7,0,none⟩) 1 1,kp]),(b7,53,lz ⟨-1,2,q5⟩),(b6,53,lz ⟨-1,2,q4⟩++lz ⟨1,2,q2⟩)]++[_]):=hS;have hS2:=hS1.drop (ap _ _);clear hS hS1;rw[<-hs6,<-hs7]at hS2;have e7: [Value.bool false,.string ⟨#[]⟩,.string ⟨#[]⟩,s7,kp]=kI (0,s7,kp):=by
  show _=ke (ki 0)++_;rw[oD];rfl
 rw[e7]at hS2;obtain⟨ev,hev⟩:∃ev:Nat->Value×Value,ev=λi=>if i=0 then(s6,kp)else(s7,kp):=⟨_,rfl⟩
 have hE:(kD 2 λi=>(V0 i,ev i)).flatMap kI=kI (q3,s6,kp)++kI (0,s7,kp):=by rw[hev,hq3];rfl
 have h6:(SM 0).flatMap lz=lz ⟨-1,2,q4⟩++lz ⟨1,2,q2⟩:=by rw[hq4,hq2];rfl
 have h7:(SM 1).flatMap lz=lz ⟨-1,2,q5⟩:=by rw[hq5];rfl
 rw[<-hE,<-h6,<-h7]at hS2;have g0:=Su (enc:=kI) (b:=bE) (t:=51) (n:=2) (X:=kD 2 λi=>(V0 i,ev i)) mL (kj _ _) dD;have g6:=Su (enc:=lz) (b:=b6) (t:=53) (n:=2) (X:=SM 0) nv rfl dD;have g7:=Su (enc:=lz) (b:=b7) (t:=53) (n:=1) (X:=SM 1) nv rfl dD;have e0:ev 0=(s6,kp):=by rw[hev];rfl
 have e1:ev 1=(s7,kp):=by rw[hev];rfl
 refine⟨_,kp,ev,[(bE,51,(kD 2 λi=>(V0 i,ev i)).flatMap kI)],[],[[(b6,53,(SM 0).flatMap lz)],[(b7,53,(SM 1).flatMap lz)]],rfl,⟨⟨g0,?_,λi hi=> ?_⟩,λi hi=>⟨λwz wx _=> ?_⟩,⟨rfl,λwz wx _=>⟨Sl.nil _ _ _,λk hk=>absurd hk (aS _)⟩⟩⟩,?_⟩
 ·have h:=(mK.nil.snoc g6).snoc g7;rw[<-hs6,<-hs7]at h;have r1:(kD 2 λi=>(ev i).1)=([]++[s6])++[s7]:=by rw[hev];rfl
  rw[r1];exact h
 ·match i,hi with
  |0,_=>rw[e0];exact⟨none,0,0,rfl⟩
  |1,_=>rw[e1];exact⟨none,0,0,rfl⟩
 ·have h:(ev i).2=kp:=by
   match i,hi with
   |0,_=>rw[e0]
   |1,_=>rw[e1]
  rw[h];exact⟨rfl,Sl.nil _ _ _,λk hk=>absurd hk (aS _)⟩
 ·rw[aK];exact hS2.perm (List.Perm.cons _ (List.Perm.swap _ _ _))
noncomputable section
def s8 (g:nq) (A:Nat->List (List (List n9))) (i c:Nat):Rat:=lW (λi=>oo (g.e i).cl (A i)) (xS g A) i c-A2 g (lW (λi=>oo (g.e i).cl (A i)) (xS g A)) g.ds.length i c
def mM:nq:=DM 2 V0 SM []
theorem QC {D0:Nat} (w:World) (hh:TD D0 mM λ_=>[]) (h0:s8 mM (λ_=>[]) 0 0=((20:Int):Rat)) (h1:s8 mM (λ_=>[]) 1 0=((10:Int):Rat)):
  mb Tryz.prog 12 #[] w λr w'=>r= .bool true/\Below w.heap.size w w':=by
 have hS:=St.init w;refine enter Tryz.func12 rfl Tryz.ntmps12 rfl ?_;refine Y1 ?_;refine jh (kf Tryz.call32 rfl (R8 _) ?_);rintro r w2 ⟨vE,vD,ev,LE,DA,LC,rfl,hP,hS2⟩;obtain⟨hM,hA⟩:=hP.gr hS2;replace hS:=hS.kx hS2.kb;clear hS2;refine jh (kf Tryz.call9 rfl (CT vE vD mM _ _ (λ_=>[]) (λ_=>[]) (λ_=>[]) _ hM hA hh) ?_);rintro r w3 ⟨rs,LR,rfl,hR,hS3⟩;have hB3:=hS3.kb;replace hR:=hR _ _ hS3;clear hS3;obtain⟨vM,vG,vD',vF,vN,vS,vR,vU,uG,uD,uF,uN,e,m1,m2,m3,m4,m5,m6,m7,m8⟩:=hR;obtain⟨a1,c1,e1,_⟩:=m1.form;obtain⟨a2,c2,e2,_⟩:=m2.sl.form;obtain⟨a3,c3,e3,_⟩:=m3.sl.form;obtain⟨a4,c4,e4,_⟩:=m4.sl.form;obtain⟨a5,c5,e5,_⟩:=m5.sl.form;obtain⟨a6,c6,e6,_⟩:=m6.form;obtain⟨a7,c7,e7,_⟩:=m7.form;obtain⟨a8,c8,e8,_⟩:=m8.form;have hl5:uN.length=2:=by rw[m5.len];rfl
 rw[hl5]at e5;subst e1 e2 e3 e4 e5 e6 e7 e8 e;clear m1 m2 m3 m4 m6 m7 m8 hA hM;replace hS:=hS.kx hB3;have hW:=hS.kb;clear hS;have hS:=St.init w3;have r0:=m5.row 0 dD;have r1:=m5.row 1 dD;have t0:(tU mM.n mM.cn (s8 mM λ_=>[])).getD 0 []=kD 2 λc=>ki (s8 mM (λ_=>[]) 0 c):=kB _ _ dD;have t1:(tU mM.n mM.cn (s8 mM λ_=>[])).getD 1 []=kD 1 λc=>ki (s8 mM (λ_=>[]) 1 c):=kB _ _ dD;replace r0:Sl ke 3 w3 (uN.getD 0 undef) (kD 2 λc=>ki (s8 mM (λ_=>[]) 0 c)):=t0▸r0;replace r1:Sl ke 3 w3 (uN.getD 1 undef) (kD 1 λc=>ki (s8 mM (λ_=>[]) 1 c)):=t1▸r1;obtain⟨b0,d0,f0,_⟩:=r0.form;obtain⟨b1,d1,f1,_⟩:=r1.form;rw[kj]at f0 f1;rw[f0]at r0;rw[f1]at r1;have l0:=kj 2 λc=>ki (s8 mM (λ_=>[]) 0 c);have l1:=kj 1 λc=>ki (s8 mM (λ_=>[]) 1 c);have hq0:decide ((kD 2 λc=>ki (s8 mM (λ_=>[]) 0 c)).getD 0 kZ=ki ((20:Int):Rat))=true:=ai (by rw[kB _ _ dD,h0]);have hq1:decide ((kD 1 λc=>ki (s8 mM (λ_=>[]) 1 c)).getD 0 kZ=ki ((10:Int):Rat))=true:=ai (by rw[kB _ _ dD,h1]);refine J4 ?_;intro bs wz1 hS hBz1;refine J1 ?_;intro wz2 hS;refine V1 ?_;refine K6 [0,1,3,7,15,31,63,127,255,511,1023,2047,4095,8191,16383,32767,65535,131071,262143,524287,1048575,2097151,4194303,8388607,16777215,33554431,67108863,134217727,268435455,536870911,1073741823,33554431,4294967295,8589934591,17179869183,34359738367,68719476735,137438953471,274877906943,549755813887,1099511627775,34359738367,4398046511103,8796093022207,17592186044415] [jo 0,jo 1,jo 2,jo 3,ju 4,jo 5,jo 6,jo 7,jo 8,jo 9,ju 10,jo 11,ju 12,jo 13,jo 14,jo 15,jo 16,jo 17,ju 18,jo 19,ju 20,jo 21,jo 22,jo 23,jo 24,jo 25,ju 26,jo 27,ju 28,jo 29,ju 30,jv 31,jo 32,jo 33,jo 34,jo 35,ju 36,jo 37,ju 38,jo 39,ju 40,jv 41,jo 42,jo 43,jo 44] kR kR hS ?_;intro wz3 hS hBz3;refine J3 ?_;refine kL rfl (kd 10 kR rfl rfl) (lD rfl sL (mC rfl (kd 10 kR rfl rfl) (kP (k:=0) rfl pz hS rfl rfl rfl (.inr rfl) (kL rfl (kd 10 kR rfl rfl) (ky rfl (m5.sl.kb hS.kb) ⟨_,Tryz.underlying35⟩ (kL rfl (kd 10 kR rfl rfl) (qO rfl rfl (jl rfl (kH (vb rfl rfl) rfl ?_)))))))));refine J1 ?_;refine kL rfl (kd 16 kR rfl dT) (lD rfl sL (mC rfl (kd 16 kR rfl dT) (kP (k:=0) rfl pz hS rfl rfl rfl (.inr rfl) (kL rfl (kd 16 kR rfl dT) (ks (i:=0) rfl rfl (m5.sl.kb hS.kb) oO dO lS (mC rfl (kd 16 kR rfl dT) (kC (v:= .slice b0 2 d0) (i:=0) undef rfl md (m5.sl.kb hS.kb) (by rw[hl5];decide) rfl (by rw[f0];rfl) (.inr rfl) (kL rfl (kd 16 kR rfl dT) (ky rfl (r0.kb hS.kb) ⟨_,Tryz.underlying34⟩ (kL rfl (kd 16 kR rfl dT) (qO rfl rfl (jl rfl (kH (vb rfl dT) rfl ?_)))))))))))));refine J1 ?_;refine kL rfl (kd 24 kR rfl dT) (lD rfl sL (mC rfl (kd 24 kR rfl dT) (kP (k:=0) rfl pz hS rfl rfl rfl (.inr rfl) (kL rfl (kd 24 kR rfl dT) (ks (i:=1) rfl rfl (m5.sl.kb hS.kb) oO dO lS (mC rfl (kd 24 kR rfl dT) (kC (v:= .slice b1 1 d1) (i:=1) undef rfl md (m5.sl.kb hS.kb) (by rw[hl5];decide) rfl (by rw[f1];rfl) (.inr rfl) (kL rfl (kd 24 kR rfl dT) (ky rfl (r1.kb hS.kb) ⟨_,Tryz.underlying34⟩ (kL rfl (kd 24 kR rfl dT) (qO rfl rfl (jl rfl (kH (vb rfl dT) rfl ?_)))))))))))));refine J1 ?_;refine kL rfl (kd 32 kR rfl dT) (lD rfl sL (mC rfl (kd 32 kR rfl dT) (kP (k:=0) rfl pz hS rfl rfl rfl (.inr rfl) (kL rfl (kd 32 kR rfl dT) (ks (i:=0) rfl rfl (m5.sl.kb hS.kb) oO dO lS (mC rfl (kd 32 kR rfl dT) (kC (v:= .slice b0 2 d0) (i:=0) undef rfl md (m5.sl.kb hS.kb) (by rw[hl5];decide) rfl (by rw[f0];rfl) (.inr rfl) (kL rfl (kd 32 kR rfl dT) (ks (i:=0) rfl rfl (r0.kb hS.kb) rfl dO kW (mC rfl (kd 32 kR rfl dT) (kC (i:=0) kZ rfl kt (r0.kb hS.kb) dO rfl rfl (.inl rfl) (vB rfl (kd 32 kR rfl dT) (kf Tryz.call33 rfl (mY 20 _ dD dD) ?_)))))))))))));rintro r w5 ⟨rfl,hB5⟩;refine⟨hB5,?_⟩;replace hS:=hS.kx hB5;refine kL rfl (kd 32 kR rfl dT) (OD rfl rfl (jl rfl (kH (vb rfl dT) rfl ?_)));refine J1 ?_;refine kL rfl (kd 42 kR rfl hq0) (lD rfl sL (mC rfl (kd 42 kR rfl hq0) (kP (k:=0) rfl pz hS rfl rfl rfl (.inr rfl) (kL rfl (kd 42 kR rfl hq0) (ks (i:=1) rfl rfl (m5.sl.kb hS.kb) oO dO lS (mC rfl (kd 42 kR rfl hq0) (kC (v:= .slice b1 1 d1) (i:=1) undef rfl md (m5.sl.kb hS.kb) (by rw[hl5];decide) rfl (by rw[f1];rfl) (.inr rfl) (kL rfl (kd 42 kR rfl hq0) (ks (i:=0) rfl rfl (r1.kb hS.kb) rfl dO kW (mC rfl (kd 42 kR rfl hq0) (kC (i:=0) kZ rfl kt (r1.kb hS.kb) dO rfl rfl (.inl rfl) (vB rfl (kd 42 kR rfl hq0) (kf Tryz.call33 rfl (mY 10 _ dD dD) ?_)))))))))))));rintro r w6 ⟨rfl,hB6⟩;refine⟨hB6,?_⟩;replace hS:=hS.kx hB6;refine kL rfl (kd 42 kR rfl hq0) (OD rfl rfl (jl rfl (kH (vb rfl hq0) rfl ?_)));refine J1 ?_;refine jt ?_;refine kJ rfl rfl ?_;exact⟨vb rfl hq1,hW.trans (hS.kb.mono hW.size)⟩
end
structure rQ (D0:Nat) (q:Rat):Prop where
 nn:0<=q
 mu:Mu D0 q
 le:q<=((2000:Nat):Rat)
theorem rQ.L {D0:Nat} {q:Rat} (h:rQ D0 q) (d0:0<D0) (s0:sz D0<=2):Sx.L q<=4:=by
 have h1:=h.mu.size d0 h.nn h.le;have h2:sz 2000<=2:=lK dD;omega
structure Gw (P:Rat->Prop) (n i:Nat) (e:QJ) (A:List (List (List n9))):Prop where
 cash:P e.cash
 cn:e.cl.length<=7
 cl:∀c∈e.cl,-1<=c.h/\c.h<n/\c.h≠i/\0<=c.rk/\c.rk<=7/\P c.q
 an:A.length<=2
 tn:∀X∈A,X.length<=3
 pn:∀X∈A,∀l∈X,l.length<=8
 pt:∀X∈A,∀l∈X,∀p∈l,(p.c= -1/\p.cap=true\/0<=p.c/\p.c<e.cl.length)/\P p.q
 nd:(zh A).Nodup
abbrev KH (D0:Nat):=Gw (rQ D0)
structure QH (P:Rat->Prop) (g:nq) (A:Nat->List (List (List n9))):Prop where
 n0:0<g.n
 n:g.n<=8
 dn:g.ds.length<=6
 es:∀i,i<g.n->Gw P g.n i (g.e i) (A i)
 W:∀d,d<g.ds.length->P (g.d d).W
 ln:∀d,d<g.ds.length->(g.d d).legs.length<=4
 lg:r6 g
 ho:NQ g
 hl:∀d,d<g.ds.length->∀j,j<(g.d d).legs.length->(g.c (g.lg d j).1 (g.lg d j).2).h=(g.c (g.lg d 0).1 (g.lg d 0).2).h
 nd:(AL g).Nodup
structure GV (D0:Nat) (g:nq) (A:Nat->List (List (List n9))):Prop extends QH (rQ D0) g A where
 d0:0<D0
 s0:sz D0<=2
theorem G4 {α:Type} {k:Nat}:∀ {X:List (List α)},(∀l∈X,l.length<=k)->X.flatten.length<=X.length*k
 | [],_=>aw _
 |l::X,h=>by
  have h1:=h l (aH ..);have h2:=G4 (X:=X) λl hl=>h l (aJ _ hl);rw[List.flatten_cons,ax,aZ,bn];omega
theorem Ef (A:List (List (List n9))) {k:Nat} (h:k<A.length):∃R,zh A=(zh (A.take k)++oh (A.getD k []).flatten)++R:=by
 refine⟨zh (A.drop (k+1)),?_⟩;rw[<-HF A h];unfold zh;rw[<-fb,<-bS,dc]
section
variable {D0 n i : Nat} {e : QJ} {A : List (List (List n9))}
theorem Gw.fl (h:KH D0 n i e A) {X:List (List n9)} (hX:X∈A):X.flatten.length<=24:=by
 have h1:=G4 (h.pn X hX);have h2:=h.tn X hX;omega
theorem Gw.m7 (h:KH D0 n i e A):(zh A).length<=7:=by
 have h1:∀c∈zh A,0<=c/\c<e.cl.length:=λc hc=>by
  unfold zh at hc;rw[eu]at hc;obtain⟨l,hl,hc⟩:=hc;rw[ca]at hl;obtain⟨X,hX,rfl⟩:=hl;obtain⟨p,hp,e1,e2⟩:=uO hc;rw[eu]at hp;obtain⟨l,hl,hp⟩:=hp;rcases(h.pt X hX l hl p hp).1 with q|q
  ·exact absurd (e1▸q.1) e2
  ·rw[<-e1];exact q
 have h2:((zh A).map Int.toNat).Nodup:=by
  refine List.pairwise_map.2 (List.Pairwise.imp_of_mem (fun {a b} ha hb hne hab=>hne ?_) h.nd);have:=h1 a ha;have:=h1 b hb;omega
 have h3:((zh A).map Int.toNat).length<=(List.range e.cl.length).length:=List.Nodup.length_le_of_subset h2 λx hx=>by
  obtain⟨c,hc,rfl⟩:=ca.1 hx;have:=h1 c hc;rw[cZ];omega
 rw[bj,dE]at h3;have:=h.cn;omega
theorem Gw.W2 (h:KH D0 n i e A) (d0:0<D0) (s0:sz D0<=2) (hn:n<=8):UJ e.cash e.cl A:=by
 have hMX:MX=1099511627776:=rfl;have hcn:=h.cn;have han:=h.an;refine⟨oO,oO,h.cash.nn,by have:=h.cash.L d0 s0;omega,λc hc=> ?_,λk hk=> ?_⟩
 ·obtain⟨a1,a2,_,a4,a5,a6⟩:=h.cl c hc;exact⟨⟨a1,oO⟩,⟨a4,a5⟩,a6.nn,by have:=a6.L d0 s0;omega⟩
 ·have hX:=kO A k [] hk;obtain⟨R,hR⟩:=Ef A hk;have hnd:=h.nd;rw[hR,cW,cW]at hnd;obtain⟨⟨n1,n2,n3⟩,_,_⟩:=hnd;have hfl:=h.fl hX;have h7:=h.m7;rw[hR,ax,ax]at h7;refine⟨by have:=h.tn _ hX;omega,λj hj=>by have:=h.pn _ hX _ (kO _ j [] hj);omega,oO,n2,oO,λp hp=> ?_⟩;rw[eu]at hp;obtain⟨l,hl,hpl⟩:=hp;obtain⟨q1,q2⟩:=h.pt _ hX l hl p hpl;refine⟨?_,λ_=>q2.nn,by have:=q2.L d0 s0;omega⟩;rcases q1 with q|q
  ·exact .inl q
  ·refine .inr ⟨q.1,q.2,λhm=> ?_⟩;refine n3 p.c hm p.c ?_ rfl;unfold oh;exact ca.2 ⟨p,dS.2 ⟨eu.2 ⟨l,hl,hpl⟩,ai oO⟩,rfl⟩
end
theorem Ip {l:List (Nat×Nat)} {j:Nat} (h:l.Nodup) (hj:j<l.length):l.getD j (0,0)∉l.take j:=by
 have e:l=l.take j++(l.getD j (0,0)::l.drop (j+1)):=by
  conv=>lhs;rw[<-dc j l,dX hj]
  rw[ak,aF hj];rfl
 rw[e,cW]at h;exact λhm=>h.2.2 _ hm _ (aH ..) rfl
theorem Ny (ds:List tw) {k:Nat} (h:k<ds.length):ds.flatMap tw.legs=((ds.take k).flatMap tw.legs++(ds.getD k uh).legs)++(ds.drop (k+1)).flatMap tw.legs:=by
 conv=>lhs;rw[<-dc k ds,dX h]
 rw[du,cj,ak,aF h,aG];rfl
theorem OH (ds:List tw):∀k,k<=ds.length->mT (λd=>(ds.getD d uh).legs) k=(ds.take k).flatMap tw.legs
 |0,_=>rfl
 |k+1,h=>by
  rw[lT ds k uh oO,du,da,<-OH ds k oO];exact pd _ _
theorem N3 (P l:List (Nat×Nat)) (j:Nat):(P++l).getD (P.length+j) (0,0)=l.getD j (0,0):=by
 rw[ak,cH oO,fH,<-ak]
theorem Tb (g:nq):AL g=g.ds.flatMap tw.legs:=by
 have:=OH g.ds g.ds.length (aB _);rw[bO]at this;exact this
section
variable {D0 : Nat} {g : nq} {A : Nat → List (List (List n9))}
theorem GV.W2 (h:GV D0 g A):Qm g A:=by
 have hMX:MX=1099511627776:=rfl;refine⟨h.n,by have:=h.dn;omega,λi hi=>(h.es i hi).W2 h.d0 h.s0 h.n,λi hi c hc=> ?_,λk hk=> ?_⟩
 ·obtain⟨_,a2,a3,_⟩:=(h.es i hi).cl (g.c i c) (kO _ _ _ hc);exact⟨a3,a2⟩
 ·have hnd:=h.nd;rw[Tb,Ny g.ds hk,cW]at hnd;have hl:=h.ln k hk;have hw:=h.W k hk;refine⟨oO,hw.nn,by have:=hw.L h.d0 h.s0;omega,h.lg k hk,h.hl k hk,λj hj=> ?_⟩;have h1:=hnd.1;have h2:=Ip h1 (j:=((g.ds.take k).flatMap tw.legs).length+j) (by rw[ax];exact Nat.add_lt_add_left hj _);rw[N3,iL,aU oO,fH]at h2;exact h2
end
theorem rQ.sub {D0:Nat} {p q:Rat} (h:rQ D0 p) (g:rQ D0 q) (hle:q<=p):rQ D0 (p-q):=by
 have h1:=g.nn;have h2:=h.le;exact⟨by grind,h.mu.sub g.mu,by grind⟩
theorem rQ.min {D0:Nat} {p q:Rat} (h:rQ D0 p) (g:rQ D0 q):rQ D0 (z6 p q):=by
 unfold z6;split
 ·assumption
 ·assumption
theorem rQ.zero (D0:Nat):rQ D0 0:=⟨bP,Mu.zero,dD⟩
theorem US (p q:Rat):z6 p q<=p:=by
 unfold z6;split
 ·grind
 ·grind
theorem OY {D0:Nat} {f:Nat->Rat} {p:n9} (hf:∀k,rQ D0 (f k)) (hp:rQ D0 p.q):rQ D0 (MQ f p):=by
 unfold MQ;split
 ·exact hp
 ·split
  ·exact(hf _).min hp
  ·exact hf _
theorem Uj {f:Nat->Rat} {p:n9} (h:p.c≠-1):MQ f p<=f p.c.toNat:=by
 unfold MQ;rw[ah h];split
 ·exact US _ _
 ·exact bP
theorem TZ {D0:Nat} {s:(Nat->Rat)×Tr} {p:n9} (hf:∀k,rQ D0 (s.1 k)) (hp:rQ D0 p.q):∀k,rQ D0 ((Ve s p).1 k):=by
 intro k;unfold Ve;by_cases h:p.c= -1
 ·simp only[aj h];exact hf k
 ·simp only[ah h];unfold Jz;split
  ·exact(hf _).sub (OY hf hp) (Uj h)
  ·exact hf k
theorem Pc:∀(l m:List Pa),qs (l++m)=qs l+qs m
 | [],m=>by show qs m=0+qs m;grind
 |p::l,m=>by
  show p.q+qs (l++m)=p.q+qs l+qs m;rw[Pc l m];grind
structure TA (D0:Nat) (t:Tr):Prop where
 q:∀p∈t.ps,rQ D0 p.q
 s:t.sm=qs t.ps
theorem TA.add {D0:Nat} {t:Tr} (h:TA D0 t) {c:Int} {q:Rat} (hq:rQ D0 q):TA D0 (Ac t ⟨c,q⟩):=by
 refine⟨λp hp=> ?_,?_⟩
 ·rcases bN.1 hp with h1|h1
  ·exact h.q p h1
  ·rw[aO.1 h1];exact hq
 ·show t.sm+q=qs (t.ps++[⟨c,q⟩]);rw[Pc,<-h.s];show _=t.sm+(q+0);grind
theorem TA.zero (D0:Nat):TA D0 sw:=⟨λp hp=>(by cases hp),rfl⟩
theorem I5 {D0:Nat} {f:Nat->Rat} {l:List n9} (hf:∀k,rQ D0 (f k)) (hp:∀p∈l,rQ D0 p.q):∀j,j<=l.length->(∀k,rQ D0 ((Bg f l j).1 k))/\TA D0 (Bg f l j).2
 |0,_=>⟨hf,TA.zero D0⟩
 |j+1,h=>by
  obtain⟨h1,h2⟩:=I5 hf hp j oO;have h3:=hp _ (kO l j uW oO);rw[zb f l oO];exact⟨TZ h1 h3,h2.add (OY h1 h3)⟩
theorem Jw {D0:Nat} {f:Nat->Rat} {m:List Int} (hf:∀k,rQ D0 (f k)):∀j,j<=m.length->TA D0 (GS f m j)
 |0,_=>TA.zero D0
 |j+1,h=>by
  rw[zT f m oO];exact(Jw hf j oO).add (hf _)
theorem Gm {D0:Nat} {f:Nat->Rat} {X:List (List n9)} (hf:∀k,rQ D0 (f k)) (hp:∀l∈X,∀p∈l,rQ D0 p.q):∀i,i<=X.length->(∀k,rQ D0 ((yq f X i).1 k))/\∀t∈(yq f X i).2,TA D0 t
 |0,_=>⟨hf,λt ht=>(by cases ht)⟩
 |i+1,h=>by
  obtain⟨h1,h2⟩:=Gm hf hp i oO;obtain⟨h3,h4⟩:=I5 h1 (hp _ (kO X i [] oO)) (X.getD i []).length (aB _);refine⟨h3,λt ht=> ?_⟩;rcases bN.1 ht with q|q
  ·exact h2 t q
  ·rw[aO.1 q];exact h4
theorem rQ.aa {D0:Nat} {q:Rat} (h:rQ D0 q):q<=(AA:Rat):=by
 have h1:=h.le;have h2:((2000:Nat):Rat)<=(AA:Rat):=by exact_mod_cast (show 2000<=AA by decide)
 grind
theorem TA.nn {D0:Nat}:∀ {l:List Pa},(∀p∈l,rQ D0 p.q)->0<=qs l
 | [],_=>bP
 |p::l,h=>by
  have h1:=(h p (aH ..)).nn;have h2:=TA.nn (l:=l) λp hp=>h p (aJ _ hp);show 0<=p.q+qs l;grind
theorem TA.L {D0:Nat} {t:Tr} (h:TA D0 t) (d0:0<D0) (s0:sz D0<=2) (hn:t.ps.length<=24):Sx.L t.sm<=6:=by
 obtain⟨h1,h2,_⟩:=QO (D0:=D0) (l:=t.ps) λp hp=>⟨(h.q p hp).mu,(h.q p hp).aa⟩;rw[h.s];have h3:=h1.size d0 (TA.nn h.q) h2;have h4:sz (t.ps.length*AA)<=4:=lK (bZ (aI _ hn) dD);omega
section
variable {D0 n i : Nat} {e : QJ} {A : List (List (List n9))}
theorem Gw.q (h:KH D0 n i e A) (k:Nat):rQ D0 (o7 e.cl k):=by
 unfold o7;by_cases hk:k<e.cl.length
 ·exact(h.cl _ (kO _ _ _ hk)).2.2.2.2.2
 ·rw[ak,dj oO];exact rQ.zero D0
theorem Gw.Xm (h:KH D0 n i e A) {X:List (List n9)} (hX:X∈A):(oh X.flatten).Nodup/\(oh X.flatten).length<=7:=by
 obtain⟨k,hk,rfl⟩:=dY hX;obtain⟨R,hR⟩:=Ef A hk;have e1:A.getD k []=A[k]:=by rw[ak,aF hk];rfl
 rw[e1]at hR;have h1:=h.nd;have h2:=h.m7;rw[hR,cW,cW]at h1;rw[hR,ax,ax]at h2;exact⟨h1.1.2.1,oO⟩
theorem Gw.lay (h:KH D0 n i e A) (d0:0<D0) (s0:sz D0<=2) {X:List (List n9)} (hX:X∈A):Pk e.cl X:=by
 have hcn:=h.cn;have hq:=h.q;have hp:∀l∈X,∀p∈l,rQ D0 p.q:=λl hl p hp=>(h.pt X hX l hl p hp).2;have hfl:=h.fl hX;have htn:=h.tn X hX;obtain⟨x1,x2⟩:=h.Xm hX;have hml:(uU X).length<=7:=by
  unfold uU;rw[(re DL _).length_eq];exact x2
 refine⟨oO,λk _=>by have:=(hq k).L d0 s0;omega,oO,oO,λj hj=>by have:=h.pn X hX _ (kO X j [] hj);omega,λj hj c hc=> ?_,λj hj c hc=> ?_,λj hj=> ?_,x1,oO⟩
 ·rcases(h.pt X hX _ (kO X j [] hj) _ (kO _ c uW hc)).1 with q|q
  ·exact .inl q.1
  ·exact .inr q
 ·have hl8:=h.pn X hX _ (kO X j [] hj);have hpl:=hp _ (kO X j [] hj);obtain⟨a1,_⟩:=Gm hq hp j oO;obtain⟨b1,b2⟩:=I5 a1 hpl c oO;have b3:=BR (yq (o7 e.cl) X j).1 (X.getD j []) c oO;refine⟨by have:=b2.L d0 s0 oO;omega,λk _=>by have:=(b1 k).L d0 s0;omega,by have:=(hpl _ (kO _ c uW hc)).L d0 s0;omega⟩
 ·obtain⟨a1,_⟩:=Gm hq hp X.length (aB _);have b2:=Jw (m:=uU X) a1 j oO;have b3:=BH (yq (o7 e.cl) X X.length).1 (uU X) j oO;exact⟨by have:=b2.L d0 s0 oO;omega,by have:=(a1 ((uU X).getD j 0).toNat).L d0 s0;omega⟩
theorem Fy {cl:List qn} (hq:∀k,rQ D0 (o7 cl k)) (r:Nat):∀i,TA D0 (sb cl i r)
 |0=>TA.zero D0
 |i+1=>by
  unfold sb;split
  ·exact(Fy hq r i).add (hq i)
  ·exact Fy hq r i
theorem NV {f:Nat->Rat} (hf:∀k,rQ D0 (f k)):∀n,0<=ku f n/\Mu D0 (ku f n)/\ku f n<=((n*2000:Nat):Rat)
 |0=>⟨bP,Mu.zero,by rw[fA];exact bP⟩
 |n+1=>by
  obtain⟨h1,h2,h3⟩:=NV hf n;have h:=hf n;have h4:=h.nn;have h5:=h.le;refine⟨?_,h2.add h.mu,?_⟩
  ·show 0<=ku f n+f n;grind
  ·show ku f n+f n<=_;rw[bn,dG,gV];grind
theorem SL {f:Nat->Rat} (hf:∀k,rQ D0 (f k)) (d0:0<D0) (s0:sz D0<=2) {k:Nat} (hk:k<=7):Sx.L (ku f k)<=4:=by
 obtain⟨h1,h2,h3⟩:=NV hf k;have h4:=h2.size d0 h1 h3;have h5:sz (k*2000)<=2:=lK (bZ (aI _ hk) dD);omega
theorem Gw.Xw (h:KH D0 n i e A) (d0:0<D0) (s0:sz D0<=2):Rz e.cl A:=by
 have hcn:=h.cn;have han:=h.an;refine⟨oO,λk _=>by have:=(h.q k).L d0 s0;omega,λk hk=> ?_,λj hj r=> ?_,λj hj=>by have:=SL h.q d0 s0 (k:=j) oO;omega,oO,λk hk=>h.lay d0 s0 (kO A k [] hk)⟩
 ·obtain⟨_,_,_,a4,a5,_⟩:=h.cl _ (kO e.cl k nK hk);exact⟨a4,oO⟩
 ·have h1:=(Fy h.q r j).L d0 s0 (by have:=BN e.cl j r;omega);omega
end
def z9 (n:Nat) (t:Tr):Prop:=∀p∈t.ps,p.c= -1\/0<=p.c/\p.c<n
theorem z9.add {n:Nat} {t:Tr} (h:z9 n t) {c:Int} {q:Rat} (hc:c= -1\/0<=c/\c<n):z9 n (Ac t ⟨c,q⟩):=λp hp=>by
 rcases bN.1 hp with h1|h1
 ·exact h p h1
 ·rw[aO.1 h1];exact hc
theorem z9.zero (n:Nat):z9 n sw:=λp hp=>by cases hp
theorem P3 {n:Nat} {f:Nat->Rat} {l:List n9} (hp:∀p∈l,p.c= -1\/0<=p.c/\p.c<n):∀j,j<=l.length->z9 n (Bg f l j).2
 |0,_=>z9.zero n
 |j+1,h=>by
  rw[zb f l oO];exact(P3 hp j oO).add (hp _ (kO l j uW oO))
theorem Qe {n:Nat} {f:Nat->Rat} {m:List Int} (hm:∀c∈m,0<=c/\c<n):∀j,j<=m.length->z9 n (GS f m j)
 |0,_=>z9.zero n
 |j+1,h=>by
  rw[zT f m oO];exact(Qe hm j oO).add (.inr (hm _ (kO m j 0 oO)))
theorem QE {n:Nat} {f:Nat->Rat} {X:List (List n9)} (hp:∀l∈X,∀p∈l,p.c= -1\/0<=p.c/\p.c<n):∀i,i<=X.length->∀t∈(yq f X i).2,z9 n t/\∃l∈X,t.ps.length<=l.length
 |0,_,t,ht=>by cases ht
 |i+1,h,t,ht=>by
  rcases bN.1 ht with q|q
  ·exact QE hp i oO t q
  ·rw[aO.1 q];exact⟨P3 (hp _ (kO X i [] oO)) _ (aB _),_,kO X i [] oO,by rw[BR _ _ _ (aB _)];exact aB _⟩
theorem Jj (cl:List qn) (r:Nat):∀i,i<=cl.length->z9 cl.length (sb cl i r)
 |0,_=>z9.zero _
 |i+1,h=>by
  unfold sb;split
  ·exact(Jj cl r i oO).add (.inr ⟨oO,oO⟩)
  ·exact Jj cl r i oO
theorem TA.ok {D0:Nat} {t:Tr} (h:TA D0 t):Ea t:=⟨λp hp=>(h.q p hp).nn,h.s⟩
theorem TA.b {D0:Nat} {t:Tr} (h:TA D0 t) (hn:t.ps.length<=8):IK D0 t:=⟨hn,λp hp=>⟨(h.q p hp).mu,(h.q p hp).aa⟩⟩
section
variable {D0 n i : Nat} {e : QJ} {A : List (List (List n9))}
theorem Gw.pc (h:KH D0 n i e A) {X:List (List n9)} (hX:X∈A):∀l∈X,∀p∈l,p.c= -1\/0<=p.c/\p.c<e.cl.length:=λl hl p hp=>by
 rcases(h.pt X hX l hl p hp).1 with q|q
 ·exact .inl q.1
 ·exact .inr q
theorem Gw.mm (h:KH D0 n i e A) {X:List (List n9)} (hX:X∈A):(∀c∈uU X,0<=c/\c<e.cl.length)/\(uU X).length<=7:=by
 obtain⟨x1,x2⟩:=h.Xm hX;have hp:=re DL (oh X.flatten);refine⟨λc hc=> ?_,by unfold uU;rw[hp.length_eq];exact x2⟩;obtain⟨p,hp1,e1,e2⟩:=uO (hp.mem_iff.1 hc);rw[eu]at hp1;obtain⟨l,hl,hpl⟩:=hp1;rcases h.pc hX l hl p hpl with q|q
 ·exact absurd (e1▸q) e2
 ·rw[<-e1];exact q
theorem Gw.Si (h:KH D0 n i e A) {X:List (List n9)} (hX:X∈A):(I9 e.cl X).length<=4/\∀t∈I9 e.cl X,TA D0 t/\z9 e.cl.length t/\t.ps.length<=8:=by
 have hp:∀l∈X,∀p∈l,rQ D0 p.q:=λl hl p hp=>(h.pt X hX l hl p hp).2;obtain⟨m1,m2⟩:=h.mm hX;obtain⟨a1,a2⟩:=Gm h.q hp X.length (aB _);have hl:=BG (o7 e.cl) X X.length;have htn:=h.tn X hX;refine⟨by unfold I9;rw[ax,hl];show _+1<=_;omega,λt ht=> ?_⟩;rcases bN.1 ht with q|q
 ·obtain⟨b1,l,hl,b2⟩:=QE (h.pc hX) X.length (aB _) t q;have:=h.pn X hX l hl;exact⟨a2 t q,b1,oO⟩
 ·rw[aO.1 q];exact⟨Jw a1 _ (aB _),Qe m1 _ (aB _),by rw[BH _ _ _ (aB _)];omega⟩
theorem Gw.VO (h:KH D0 n i e A):∀t∈(oo e.cl A).rk,TA D0 t/\z9 e.cl.length t/\t.ps.length<=8:=λt ht=>by
 obtain⟨r,_,rfl⟩:=tG ht;exact⟨Fy h.q r _,Jj _ _ _ (aB _),by have:=BN e.cl e.cl.length r;have:=h.cn;omega⟩
theorem UG (A:List (List (List n9))) (cl:List qn):((A.map (JU cl)).flatMap Pl.mem).Perm ((zh A).map Int.toNat):=by
 induction A with
 |nil=>exact dP _
 |cons X A ih=>
  rw[cJ,cj];have e1:zh (X::A)=oh X.flatten++zh A:=rfl;rw[e1,bS];exact((re DL (oh X.flatten)).map Int.toNat).append ih
theorem Gw.nn (h:KH D0 n i e A):∀c∈zh A,0<=c/\c<e.cl.length:=λc hc=>by
 unfold zh at hc;rw[eu]at hc;obtain⟨l,hl,hc⟩:=hc;rw[ca]at hl;obtain⟨X,hX,rfl⟩:=hl;obtain⟨p,hp,e1,e2⟩:=uO hc;rw[eu]at hp;obtain⟨l,hl,hp⟩:=hp;rcases h.pc hX l hl p hp with q|q
 ·exact absurd (e1▸q) e2
 ·rw[<-e1];exact q
theorem Gw.W4 (h:KH D0 n i e A):pY (oo e.cl A):=by
 have hr:=h.VO;refine⟨λt ht=>(hr t ht).1.ok,λt ht p hp=>(hr t ht).2.1 p hp,λp hp t ht=> ?_,λp hp t ht q hq=> ?_,?_,λp hp k hk=> ?_⟩
 ·obtain⟨X,hX,rfl⟩:=ca.1 hp;exact((h.Si hX).2 t ht).1.ok
 ·obtain⟨X,hX,rfl⟩:=ca.1 hp;exact((h.Si hX).2 t ht).2.1 q hq
 ·refine(UG A e.cl).nodup_iff.2 ?_;refine List.pairwise_map.2 (List.Pairwise.imp_of_mem (fun {a b} ha hb hne hab=>hne ?_) h.nd);have:=h.nn a ha;have:=h.nn b hb;omega
 ·obtain⟨X,hX,rfl⟩:=ca.1 hp;obtain⟨c,hc,rfl⟩:=ca.1 hk;have:=(h.mm hX).1 c hc;show c.toNat<e.cl.length;omega
theorem Gw.Xz (h:KH D0 n i e A):JW D0 (oo e.cl A):=by
 have hr:=h.VO;refine⟨h.cn,by show(kD 8 _).length<=8;rw[kj];exact aB _,by show(A.map _).length<=2;rw[bj];exact h.an,λp hp=> ?_,λp hp=> ?_,λt ht=>(hr t ht).1.b (hr t ht).2.2,λp hp t ht=> ?_⟩
 ·obtain⟨X,hX,rfl⟩:=ca.1 hp;show((uU X).map Int.toNat).length<=7;rw[bj];exact(h.mm hX).2
 ·obtain⟨X,hX,rfl⟩:=ca.1 hp;exact(h.Si hX).1
 ·obtain⟨X,hX,rfl⟩:=ca.1 hp;have:=(h.Si hX).2 t ht;exact this.1.b this.2.2
end
section
variable {D0 : Nat} {g : nq} {A : Nat → List (List (List n9))}
theorem GV.ok (h:GV D0 g A):n7 g (λi=>oo (g.e i).cl (A i)) (wQ (AL g)):=
 ⟨λi hi=>(h.es i hi).W4,λ_ _=>rfl,λi hi=>(h.es i hi).cash.nn,h.ho,h.lg,λ_ _ _ _=>by unfold wQ;exact fo,h.nd⟩
theorem GV.b (h:GV D0 g A):xq D0 g (λi=>oo (g.e i).cl (A i)):=
 ⟨h.d0,h.s0,h.n0,h.n,h.dn,h.ln,λi hi=>(h.es i hi).Xz,λi hi=>⟨(h.es i hi).cash.mu,(h.es i hi).cash.aa⟩,λd hd=>⟨(h.W d hd).nn,(h.W d hd).mu,(h.W d hd).aa⟩,λi hi=>cQ (SL (h.es i hi).q h.d0 h.s0 (k:=(g.e i).cl.length) (h.es i hi).cn) dD⟩
theorem GV.WQ (h:GV D0 g A):TD D0 g A:=⟨h.W2,λi hi=>(h.es i hi).Xw h.d0 h.s0,h.ok,h.b⟩
theorem GV.W3 (h:GV D0 g A):S6 g (λi=>oo (g.e i).cl (A i)) (wQ (AL g)) (xS g A):=(Qr h.ok h.b).2.1
end
theorem Mu.nat (D m:Nat):Mu D ((m:Int):Rat):=⟨(m:Int)*(D:Int),by rw[eJ,cx D]⟩
theorem rQ.nat {D m:Nat} (h:m<=2000):rQ D ((m:Int):Rat):=by
 refine⟨?_,Mu.nat D m,?_⟩
 ·rw[cx];exact Rat.natCast_nonneg
 ·rw[cx];exact t5 h
def yv (q:Rat):Prop:=rQ 60 q/\q<=((30:Nat):Rat)
theorem yv.nat {m:Nat} (h:m<=30):yv ((m:Int):Rat):=⟨rQ.nat oO,by rw[cx];exact t5 h⟩
theorem yv.zero:yv 0:=⟨rQ.zero 60,dD⟩
theorem yv.qU (x:Nat):yv (o9 x):=by
 unfold o9;split
 ·obtain⟨a,ha⟩:=jz (x/5%23);obtain⟨b,hb⟩:=jz (x/115%6);have ha2:a<23:=by rw[ha];exact bl _ dD
  have hb2:b<6:=by rw[hb];exact bl _ dD
  rw[<-ha,<-hb];have key:∀b,b<6->∀a,a<23->(0<=mkRat ((a:Nat):Int) (1+b)/\mkRat ((a:Nat):Int) (1+b)<=30)/\mkRat ((a:Nat):Int) (1+b)*60=(((a*(60/(1+b)):Nat):Int):Rat):=by decide+kernel
  obtain⟨⟨h1,h2⟩,h3⟩:=key b hb2 a ha2;exact⟨⟨h1,⟨_,h3⟩,eW h2 dD⟩,h2⟩
 ·split
  ·have h:x/5%4<4:=bl _ dD;exact yv.nat oO
  ·have h:x/5%13<13:=bl _ dD;exact yv.nat oO
theorem Ag (l m:List n9):oh (l++m)=oh l++oh m:=by
 unfold oh;rw[im,bS]
theorem P8 {A:List (List (List n9))} {k:Nat} (h:(k:Int)∈zh A):FI k A=true:=by
 unfold zh at h;rw[eu]at h;obtain⟨l,hl,h⟩:=h;rw[ca]at hl;obtain⟨X,hX,rfl⟩:=hl;obtain⟨p,hp,e1,e2⟩:=uO h;rw[eu]at hp;obtain⟨l,hl,hp⟩:=hp;exact dB.2 ⟨X,hX,dB.2 ⟨l,hl,dB.2 ⟨p,hp,ai e1⟩⟩⟩
section
variable (A : List (List (List n9))) (p : Nat → Nat)
theorem BZ:∀n t,∀q∈pw A p n t,∃k:Nat,k<n/\q.c=k/\Mz (p 1) k=t+1/\FI k A=false/\yv q.q
 |0,_,q,hq=>by cases hq
 |n+1,t,q,hq=>by
  unfold pw at hq;split at hq
  ·rename_i h;rcases bN.1 hq with h1|h1
   ·obtain⟨k,k1,k2⟩:=BZ n t q h1;exact⟨k,oO,k2⟩
   ·rw[aO.1 h1];refine⟨n,dV _,?_,h.1,h.2,?_⟩
    ·unfold zL;split<;>rfl
    ·unfold zL;split
     ·have:p 2/64%9<9:=bl _ dD;exact yv.nat oO
     ·exact yv.zero
  ·obtain⟨k,k1,k2⟩:=BZ n t q hq;exact⟨k,oO,k2⟩
theorem IA (n t:Nat):∀c∈oh (pw A p n t),∃k:Nat,k<n/\c=k/\Mz (p 1) k=t+1/\FI k A=false:=λc hc=>by
 obtain⟨q,hq,e1,_⟩:=uO hc;obtain⟨k,k1,k2,k3,k4,_⟩:=BZ A p n t q hq;exact⟨k,k1,e1▸k2,k3,k4⟩
theorem zN:∀n t,(oh (pw A p n t)).Nodup
 |0,_=>fu
 |n+1,t=>by
  unfold pw;split
  ·rw[Ag,cW];have e:oh [zL p n]=[(n:Int)]:=by
    unfold zL;split<;>(unfold oh;rw[fK,aj (ai (show(n:Int)≠-1 by omega))];rfl)
   rw[e];refine⟨zN n t,by simp,λa ha b hb hab=> ?_⟩;rw[aO]at hb;obtain⟨k,k1,k2,_⟩:=IA A p n t a ha;omega
  ·exact zN n t
theorem Q6 (n:Nat):oh (xj A n p).flatten=oh (pw A p n 0)++(oh (pw A p n 1)++oh (pw A p n 2)):=by
 have e:∀t,oh (if p 0/8%4=0/\t=p 0/32%3 then pw A p n t++[SA p]else pw A p n t)=oh (pw A p n t):=λt=>by
  split
  ·rw[Ag];show _++[]=_;rw[aK]
  ·rfl
 show oh (_++(_++(_++[])))=_;rw[aK,Ag,Ag,e,e,e]
theorem Sy (n:Nat):(oh (xj A n p).flatten).Nodup/\∀c∈oh (xj A n p).flatten,∃k:Nat,k<n/\c=k/\FI k A=false:=by
 rw[Q6];have hm:=IA A p n;refine⟨?_,λc hc=> ?_⟩
 ·rw[cW,cW];refine⟨zN A p n 0,⟨zN A p n 1,zN A p n 2,λa ha b hb hab=> ?_⟩,λa ha b hb hab=> ?_⟩
  ·obtain⟨k,_,k2,k3,_⟩:=hm 1 a ha;obtain⟨l,_,l2,l3,_⟩:=hm 2 b hb;have:k=l:=oO;subst this;omega
  ·obtain⟨k,_,k2,k3,_⟩:=hm 0 a ha;rcases bN.1 hb with hb|hb
   ·obtain⟨l,_,l2,l3,_⟩:=hm 1 b hb;have:k=l:=oO;subst this;omega
   ·obtain⟨l,_,l2,l3,_⟩:=hm 2 b hb;have:k=l:=oO;subst this;omega
 ·rcases bN.1 hc with hc|hc
  ·obtain⟨k,k1,k2,_,k4⟩:=hm 0 c hc;exact⟨k,k1,k2,k4⟩
  ·rcases bN.1 hc with hc|hc
   ·obtain⟨k,k1,k2,_,k4⟩:=hm 1 c hc;exact⟨k,k1,k2,k4⟩
   ·obtain⟨k,k1,k2,_,k4⟩:=hm 2 c hc;exact⟨k,k1,k2,k4⟩
structure VD (n:Nat):Prop where
 an:A.length<=2
 tn:∀X∈A,X.length<=3
 pn:∀X∈A,∀l∈X,l.length<=8
 pt:∀X∈A,∀l∈X,∀p∈l,(p.c= -1/\p.cap=true\/0<=p.c/\p.c<n)/\yv p.q
 nd:(zh A).Nodup
end
theorem VD.snoc {n:Nat} {A:List (List (List n9))} (h:VD A n) (h2:A.length<2) (hn:n<=6) (p:Nat->Nat):VD (A++[xj A n p]) n:=by
 have hm:∀ {P:List (List n9)->Prop},(∀X∈A,P X)->P (xj A n p)->∀X∈A++[xj A n p],P X:=λh1 h2 X hX=>by
  rcases bN.1 hX with h|h
  ·exact h1 X h
  ·rw[aO.1 h];exact h2
 have hx:∀ {P:List n9->Prop},(∀t,P (pw A p n t))->(∀t,P (pw A p n t++[SA p]))->∀l∈xj A n p,P l:=λh1 h2 l hl=>by
  obtain⟨t,_,rfl⟩:=tG hl;by_cases e:p 0/8%4=0/\t=p 0/32%3
  ·rw[aj e];exact h2 t
  ·rw[ah e];exact h1 t
 have hl:=yX A p n;have hq:∀t,∀q∈pw A p n t,(q.c= -1/\q.cap=true\/0<=q.c/\q.c<n)/\yv q.q:=λt q hq=>by
  obtain⟨k,k1,k2,_,_,k5⟩:=BZ A p n t q hq;exact⟨.inr ⟨oO,oO⟩,k5⟩
 refine⟨by rw[ax];show _+1<=2;omega,hm h.tn (by unfold xj;rw[kj];exact aB _),hm h.pn (hx (λt=>by have:=hl t;omega) λt=>by rw[ax];have:=hl t;show _+1<=8;omega),hm h.pt (hx hq λt q hq2=> ?_),?_⟩
 ·rcases bN.1 hq2 with h1|h1
  ·exact hq t q h1
  ·rw[aO.1 h1];have:p 0/96%7<7:=bl _ dD;exact⟨.inl ⟨rfl,rfl⟩,yv.nat oO⟩
 ·obtain⟨n1,n2⟩:=Sy A p n;have e:zh (A++[xj A n p])=zh A++oh (xj A n p).flatten:=by
   unfold zh;rw[bS,fb,jG,gE]
  rw[e,cW];refine⟨h.nd,n1,λa ha b hb hab=> ?_⟩;obtain⟨k,_,k2,k3⟩:=n2 b hb;rw[hab,k2]at ha;rw[P8 ha]at k3;exact Bool.noConfusion k3
theorem Ta (size:Nat) (n:Nat->Nat) (Q:List (Nat->Nat)) (hn:∀i,n i<=6):∀j i,VD (uR size n Q j i) (n i)
 |0,_=>⟨aw _,λ_ h=>absurd h (cG),λ_ h=>absurd h (cG),λ_ h=>absurd h (cG),fu⟩
 |j+1,i=>by
  have h:=Ta size n Q hn j i;unfold uR;split
  ·rename_i e;exact h.snoc e.2 (hn i) _
  ·exact h
theorem Qv (size:Nat) (L:List (Nat->Nat)):∀j i,∀c∈zM size L j i,-1<=c.h/\c.h<size/\c.h≠i/\0<=c.rk/\c.rk<=2/\yv c.q
 |0,_,c,hc=>by cases hc
 |j+1,i,c,hc=>by
  unfold zM at hc;split at hc
  ·rename_i e;rcases bN.1 hc with h|h
   ·exact Qv size L j i c h
   ·rw[aO.1 h];have h2:(L.getD j z4) 2%3<3:=bl _ dD;obtain⟨h,hh⟩:=jz ((L.getD j z4) 1% (size+1));obtain⟨k,hk⟩:=jz ((L.getD j z4) 0%size);have e1:=e.1;have h1:(Ub size (L.getD j z4)).h=if h=k\/size<=h then-1 else(h:Int):=by rw[hh,hk];rfl
    rw[<-hk]at e1;refine⟨?_,?_,?_,by show(0:Int)<=((_:Nat):Int);omega,by show((_:Nat):Int)<=2;omega,yv.qU _⟩;all_goals
     rw[h1];split
     ·omega
     ·omega
  ·exact Qv size L j i c hc
theorem O4 {p:Nat×Nat} {ds:List tw} (h:p∈ds.flatMap tw.legs):GJ p ds=true:=by
 obtain⟨d,hd,h⟩:=dK.1 h;exact dB.2 ⟨d,hd,dB.2 ⟨p,h,ai rfl⟩⟩
structure Sm (ds:List tw) (n:Nat) (cl:Nat->List qn) (i c:Nat) (s:QL):Prop where
 m:∀q∈s.l,q.1<n/\q.2<(cl q.1).length/\GJ q ds=false/\((cl q.1).getD q.2 nK).h=s.ho/\(q.1<i\/q.1=i/\q.2<c)
 nd:s.l.Nodup
section
variable {ds : List tw} {n : Nat} {cl : Nat → List qn} {i c : Nat} {s : QL}
theorem Sm.mono (h:Sm ds n cl i c s) {i' c':Nat} (hl:i<i'\/i=i'/\c<=c'):Sm ds n cl i' c' s:=⟨λq hq=>by
 obtain⟨a1,a2,a3,a4,a5⟩:=h.m q hq;exact⟨a1,a2,a3,a4,oO⟩,h.nd⟩
theorem Sm.step (h:Sm ds n cl i c s) (d:Nat->Nat) (hi:i<n) (hc:c<(cl i).length):Sm ds n cl i (c+1) (ry ds d i ((cl i).getD c nK) c s):=by
 have h0:=h.mono (i':=i) (c':=c+1) (.inr ⟨rfl,Nat.le_succ _⟩);unfold ry;split
 ·exact h0
 ·rename_i e1;split
  ·rename_i e2;refine⟨λq hq=> ?_,?_⟩
   ·rcases bN.1 hq with h1|h1
    ·obtain⟨a1,a2,a3,a4,a5⟩:=h0.m q h1;refine⟨a1,a2,a3,?_,a5⟩;rcases e2.2 with e3|e3
     ·rw[e3]at h1;cases h1
     ·exact a4.trans e3.symm
    ·rw[aO.1 h1];refine⟨hi,hc,?_,rfl,.inr ⟨rfl,dV _⟩⟩;cases hg:GJ (i,c) ds
     ·rfl
     ·exact absurd (.inl hg) e1
   ·rw[cW];refine⟨h.nd,by simp,λa ha b hb hab=> ?_⟩;rw[aO]at hb;have:=(h.m a ha).2.2.2.2;rw[hab,hb]at this;rcases this with h1|h1
    ·exact absurd h1 (dt _)
    ·exact absurd h1.2 (dt _)
  ·exact⟨h0.m,h0.nd⟩
theorem SD (d:Nat->Nat) (hi:i<n) (h:Sm ds n cl i 0 s):∀c,c<=(cl i).length->Sm ds n cl i c (IG ds d i (cl i) c s)
 |0,_=>h
 |c+1,hc=>(SD d hi h c oO).step d hi oO
theorem SK (ds:List tw) (n:Nat) (cl:Nat->List qn) (d:Nat->Nat):∀i,i<=n->Sm ds n cl i 0 (JT ds d cl i)
 |0,_=>⟨λq hq=>(by cases hq),fu⟩
 |i+1,hi=>(SD d oO (SK ds n cl d i oO) (cl i).length (aB _)).mono (.inl (dV _))
end
structure Xi (n:Nat) (cl:Nat->List qn) (ds:List tw):Prop where
 k:ds.length<=3
 m:∀d∈ds,yv d.W/\d.legs.length<=4/\∃ho:Int,∀q∈d.legs,q.1<n/\q.2<(cl q.1).length/\((cl q.1).getD q.2 nK).h=ho
 nd:(ds.flatMap tw.legs).Nodup
theorem SE (n:Nat) (cl:Nat->List qn) (hc:∀i,i<n->(cl i).length<=10) (D:List (Nat->Nat)):∀j,Xi n cl (GQ n cl D j)
 |0=>⟨aw _,λd hd=>(by cases hd),fu⟩
 |j+1=>by
  have h:=SE n cl hc D j;unfold GQ;split
  ·rename_i e;obtain⟨d,hd⟩:=jz (D.getD j z4);obtain⟨ds,hds⟩:=jz (GQ n cl D j);rw[<-hds]at h e;rw[<-hd,<-hds];have b:=SK ds n cl d n (aB _);have b4:=(KW ds d cl n hc n (aB _)).2;have hp:(R4 ds d cl n).Perm (JT ds d cl n).l:=by
    unfold R4;split
    ·exact List.reverse_perm _
    ·exact dP _
   refine⟨by rw[ax];show _+1<=3;omega,λx hx=> ?_,?_⟩
   ·rcases bN.1 hx with h1|h1
    ·exact h.m x h1
    ·rw[aO.1 h1];refine⟨yv.qU _,by show(R4 ds d cl n).length<=4;rw[hp.length_eq];exact b4,(JT ds d cl n).ho,λq hq=> ?_⟩;obtain⟨a1,a2,_,a4,_⟩:=b.m q (hp.mem_iff.1 hq);exact⟨a1,a2,a4⟩
   ·rw[du,da,cW];refine⟨h.nd,hp.nodup_iff.2 b.nd,λx hx y hy hxy=> ?_⟩;have h1:=(b.m y (hp.mem_iff.1 hy)).2.2.1;rw[<-hxy,O4 hx]at h1;exact Bool.noConfusion h1
  ·exact h
def WG (n:Nat) (cash:List Nat) (L D:List (Nat->Nat)):nq:=DM (1+n%4) (nM cash) (zM (1+n%4) L L.length) (GQ (1+n%4) (zM (1+n%4) L L.length) D D.length)
def Wy (n:Nat) (L Q:List (Nat->Nat)):Nat->List (List (List n9)):=uR (1+n%4) (λi=>(zM (1+n%4) L L.length i).length) Q Q.length
theorem UW (cash:List Nat) (i:Nat):yv (nM cash i):=by
 unfold nM;split
 ·exact yv.qU _
 ·exact yv.zero
theorem TX (n:Nat) (cash:List Nat) (L Q D:List (Nat->Nat)):QH yv (WG n cash L D) (Wy n L Q):=by
 obtain⟨m,hm⟩:=jz (1+n%4);have hm4:m<=4/\0<m:=oO;obtain⟨cl,hcl⟩:=jz (zM m L L.length);have hc6:∀i,(cl i).length<=6:=λi=>by rw[hcl];exact Ae m L _ i
 have hcc:∀i,∀c∈cl i,-1<=c.h/\c.h<m/\c.h≠i/\0<=c.rk/\c.rk<=2/\yv c.q:=λi=>by rw[hcl];exact Qv m L L.length i
 obtain⟨ds,hds⟩:=jz (GQ m cl D D.length);have hd:Xi m cl ds:=by rw[hds];exact SE m cl (λi _=>cQ (hc6 i) dD) D D.length
 have hA:∀i,VD (Wy n L Q i) (cl i).length:=λi=>by
  unfold Wy;rw[<-hm,<-hcl];exact Ta m _ Q hc6 Q.length i
 have hg:WG n cash L D=DM m (nM cash) cl ds:=by unfold WG;rw[<-hm,<-hcl,<-hds]
 rw[hg];obtain⟨A,hAe⟩:=jz (Wy n L Q);rw[<-hAe]at hA⊢;have hn:(DM m (nM cash) cl ds).n=m:=Kj _ _ _ _;have he:∀i,i<m->(DM m (nM cash) cl ds).e i=⟨nM cash i,cl i⟩:=λi hi=>E2 _ _ _ hi;have hcx:∀i,i<m->∀c,(DM m (nM cash) cl ds).c i c=(cl i).getD c nK:=λi hi c=>by unfold nq.c;rw[he i hi]
 have hcn:∀i,i<m->(DM m (nM cash) cl ds).cn i=(cl i).length:=λi hi=>by unfold nq.cn;rw[he i hi]
 have hdm:∀k,k<ds.length->((DM m (nM cash) cl ds).d k)∈ds:=λk hk=>kO ds k uh hk;have hlg:∀k,k<ds.length->∀j,j<((DM m (nM cash) cl ds).d k).legs.length->(DM m (nM cash) cl ds).lg k j∈((DM m (nM cash) cl ds).d k).legs:=λk hk j hj=>kO _ j (0,0) hj;refine⟨oO,oO,by have:=hd.k;show ds.length<=6;omega,λi hi=> ?_,λd h=>((hd.m _ (hdm d h))).1,λd h=>((hd.m _ (hdm d h))).2.1,λk hk j hj=> ?_,λi hi c hc hh=> ?_,λk hk j hj=> ?_,by rw[Tb];exact hd.nd⟩
 ·rw[hn]at hi⊢;rw[he i hi];have a:=hA i;refine⟨UW cash i,by have:=hc6 i;show(cl i).length<=7;omega,λc hc=> ?_,a.an,a.tn,a.pn,a.pt,a.nd⟩;obtain⟨a1,a2,a3,a4,a5,a6⟩:=hcc i c hc;exact⟨a1,a2,a3,a4,oO,a6⟩
 ·obtain⟨_,_,ho,h⟩:=hd.m _ (hdm k hk);obtain⟨h1,h2,h3⟩:=h _ (hlg k hk j hj);exact⟨by rw[hn];exact h1,by rw[hcn _ h1];exact h2⟩
 ·rw[hn]at hi;rw[hcn i hi]at hc;rw[hcx i hi]at hh⊢;obtain⟨a1,a2,_⟩:=hcc i _ (kO (cl i) c nK hc);refine⟨((cl i).getD c nK).h.toNat,by rw[hn];omega,oO⟩
 ·obtain⟨_,_,ho,h⟩:=hd.m _ (hdm k hk);obtain⟨h1,_,h3⟩:=h _ (hlg k hk j hj);obtain⟨g1,_,g3⟩:=h _ (hlg k hk 0 oO);rw[hcx _ h1,hcx _ g1,h3,g3]
theorem Gw.mono {P Q:Rat->Prop} (h:∀q,P q->Q q) {n i:Nat} {e:QJ} {A:List (List (List n9))} (a:Gw P n i e A):Gw Q n i e A:=
 ⟨h _ a.cash,a.cn,λc hc=>by obtain⟨a1,a2,a3,a4,a5,a6⟩:=a.cl c hc;exact⟨a1,a2,a3,a4,a5,h _ a6⟩,a.an,a.tn,a.pn,λX hX l hl p hp=>⟨(a.pt X hX l hl p hp).1,h _ (a.pt X hX l hl p hp).2⟩,a.nd⟩
theorem QH.mono {P Q:Rat->Prop} (h:∀q,P q->Q q) {g:nq} {A:Nat->List (List (List n9))} (a:QH P g A):QH Q g A:=
 ⟨a.n0,a.n,a.dn,λi hi=>(a.es i hi).mono h,λd hd=>h _ (a.W d hd),a.ln,a.lg,a.ho,a.hl,a.nd⟩
theorem QH.v {g:nq} {A:Nat->List (List (List n9))} (a:QH yv g A):GV 60 g A:=⟨a.mono λ_ h=>h.1,dD,lK dD⟩
section
variable {f : Rat}
theorem Vk (hf:0<f) {p q:Rat}:p*f<q*f↔p<q:=by
 have key:∀ {a b:Rat},a<b->a*f<b*f:=fun {a b} h=>by
  have:=Rat.mul_pos (show 0<b-a by grind) hf;grind
 refine⟨λh=> ?_,key⟩;by_cases h1:p<q
 ·exact h1
 ·by_cases h2:q<p
  ·have:=key h2;grind
  ·have:p=q:=Rat.le_antisymm (gk.1 h2) (gk.1 h1);rw[this]at h;exact absurd h dy
theorem Hv (hf:0<f) {p q:Rat}:p*f<=q*f↔p<=q:=by
 rw[<-gk,<-gk,Vk hf]
theorem PX (hf:0<f) (p:Rat):pQ (p*f)=pQ p*f:=by
 have h0:(0:Rat)=0*f:=(eD f).symm;unfold pQ DO;by_cases h:0<=p
 ·rw[aj h,aj (by rw[h0];exact(Hv hf).2 h)]
 ·rw[ah h,ah λg=>h (by rw[h0]at g;exact(Hv hf).1 g)];exact h0
theorem xU {g h:Nat->Rat} {n:Nat} (e:∀i,i<n->g i=h i*f):ku g n=ku h n*f:=by
 rw[kz e,gC,<-qR];exact kz λi _=>gC _ _
theorem Rq (hf:0<f) {q q':Nat->Rat} {k:Nat} (h:∀j,j<k->q' j=q j*f):oC q' k=oC q k*f:=xU λj hj=>by rw[h j hj,PX hf]
theorem Qy (hf:0<f) {W:Rat} {q q':Nat->Rat} {k:Nat} (h:∀j,j<k->q' j=q j*f):wM (W*f) q' k=wM W q k*f:=by
 rw[qw,qw,Rq hf h,PX hf W,<-PX hf (oC q k-pQ W)];congr 1;grind
theorem IT (hf:0<f) {W:Rat} {q q':Nat->Rat} {k:Nat} (h:∀j,j<k+1->q' j=q j*f):tX (W*f) q' k=tX W q k*f:=by
 unfold tX;rw[Qy hf h,Qy hf λj hj=>h j oO];grind
theorem UZ (hf:0<f) {W:Rat} {q q':Nat->Rat} {n:Nat} (h:∀j,j<n->q' j=q j*f):yI (W*f) q' n=yI W q n*f:=by
 unfold yI;rw[xU h,xU λk hk=>IT hf λj hj=>h j oO];grind
structure Rn (f:Rat) (g g':nq):Prop where
 n:g'.n=g.n
 dn:g'.ds.length=g.ds.length
 W:∀d,d<g.ds.length->(g'.d d).W=(g.d d).W*f
 lg:∀d,d<g.ds.length->(g'.d d).legs=(g.d d).legs
 cash:∀i,i<g.n->Bu g' i=Bu g i*f
 ho:∀d,d<g.ds.length->0<mJ g d->HI g' d=HI g d
section
variable {g g' : nq} {B B' : Nat → Nat → Bool} {dl dl' : Nat → Nat → Rat} {Y Y' : Nat → Ly}
def VS (f:Rat) (g:nq) (dl dl':Nat->Nat->Rat):Prop:=∀d,d<g.ds.length->∀k,k<mJ g d->dl' (g.lg d k).1 (g.lg d k).2=dl (g.lg d k).1 (g.lg d k).2*f
theorem Rn.l (S:Rn f g g') {d:Nat} (hd:d<g.ds.length):(∀k,g'.lg d k=g.lg d k)/\mJ g' d=mJ g d:=by
 unfold nq.lg mJ;rw[S.lg d hd];exact⟨λ_=>rfl,rfl⟩
theorem Rn.q (S:Rn f g g') (h:VS f g dl dl') {d:Nat} (hd:d<g.ds.length):∀k,k<mJ g d->qD g' dl' d k=qD g dl d k*f:=λk hk=>by
 unfold qD;rw[(S.l hd).1];exact h d hd k hk
theorem UD (hf:0<f) (S:Rn f g g') (h:VS f g dl dl') {j:Nat} (hr:∀i,i<g.n->pT g' B' dl' j i=pT g B dl j i*f):F0 g' B' dl' j=F0 g B dl j*f:=by
 unfold F0;rw[S.n,S.dn,xU hr,i7];congr 1;refine xU λd hd=> ?_;obtain⟨l1,l2⟩:=S.l hd;have hq:=S.q h hd;unfold pA;rw[l2,S.W d hd,i7];congr 1
 ·refine xU λk hk=> ?_;rw[l1,IT hf λj hj=>hq j oO];split
  ·rfl
  ·exact(eD f).symm
 ·by_cases h0:0<mJ g d
  ·rw[S.ho d hd h0,UZ hf hq];split
   ·rfl
   ·exact(eD f).symm
  ·rw[ah λe=>h0 e.1,ah λe=>h0 e.1];exact(eD f).symm
theorem Kl (hf:0<f) (S:Rn f g g') (h:VS f g dl dl') {d:Nat} (hd:d<g.ds.length) {u u':Nat->Nat->Rat} (hu:∀i c,u' i c=u i c*f):∀k,k<=mJ g d->∀i c,IE g' dl' d u' k i c=IE g dl d u k i c*f
 |0,_,i,c=>hu i c
 |k+1,hk,i,c=>by
  have ih:=Kl hf S h hd hu k oO i c;show Bv (IE g' dl' d u' k) (g'.lg d k).1 (g'.lg d k).2 (tX (g'.d d).W (qD g' dl' d) k) i c=Bv (IE g dl d u k) (g.lg d k).1 (g.lg d k).2 (tX (g.d d).W (qD g dl d) k) i c*f;rw[(S.l hd).1,S.W d hd,IT hf λj hj=>S.q h hd j oO];unfold Bv;split
  ·rfl
  ·exact ih
theorem Ks (hf:0<f) (S:Rn f g g') (h:VS f g dl dl'):∀d,d<=g.ds.length->∀i c,A2 g' dl' d i c=A2 g dl d i c*f
 |0,_,_,_=>(eD f).symm
 |d+1,hd,i,c=>by
  have ih:=Ks hf S h d oO;show IE g' dl' d (A2 g' dl' d) (mJ g' d) i c=IE g dl d (A2 g dl d) (mJ g d) i c*f;rw[(S.l (d:=d) oO).2];exact Kl hf S h oO ih _ (aB _) i c
theorem QP (hf:0<f) (S:Rn f g g') {x:Nat->Rat} (G:S6 g Y B x) (hF:∀y:Nat->Rat,(∀i,i<g.n->0<=y i)->∀j,j<g.n->F0 g' B' (lW Y' λi=>y i*f) j=F0 g B (lW Y y) j*f):S6 g' Y' B' λi=>x i*f:=by
 refine⟨λi hi=> ?_,λj hj=> ?_,λy h0 h1 j hj=> ?_⟩
 ·rw[S.n]at hi;exact i6 (G.nn i hi) (di hf)
 ·rw[S.n]at hj;rw[hF x G.nn j hj,S.cash j hj,<-i7,<-G.fx j hj]
 ·rw[S.n]at h0 h1 hj;obtain⟨z,hz⟩:∃z:Nat->Rat,z=λi=>y i/f:=⟨_,rfl⟩;have hy:y=λi=>z i*f:=by
   funext i;rw[hz];exact(gl (wv hf)).symm
  rw[hy]at h0 h1⊢;have z0:∀i,i<g.n->0<=z i:=λi hi=>by
   have:=h0 i hi;rw[<-eD f]at this;exact(Hv hf).1 this
  refine(Hv hf).2 (G.top z z0 (λi hi=> ?_) j hj);have:=h1 i hi;rw[hF z z0 i hi,S.cash i hi,<-i7]at this;exact(Hv hf).1 this
theorem Xn {a b:Rat} (h:a=b):a<=b:=h▸bP
theorem Rc {x y:Nat->Rat} (G:S6 g Y B x) (H:S6 g Y B y):∀i,i<g.n->x i=y i:=λi hi=>
 Rat.le_antisymm (H.top x G.nn (λj hj=>Xn (G.fx j hj)) i hi) (G.top y H.nn (λj hj=>Xn (H.fx j hj)) i hi)
end
end
section
variable {f : Rat} {g : nq} {A : Nat → List (List (List n9))}
end
theorem yv.sc {a b:Nat} (ha:a<=40) (hb:0<b) {q:Rat} (h:yv q):rQ (60*b) (q*mkRat (a:Int) b):=by
 obtain⟨⟨h1,⟨z,hz⟩,_⟩,h4⟩:=h;have hb0:(b:Rat)≠0:=λe=>by(have:b=0:=by exact_mod_cast e);omega
 have e1:mkRat (a:Int) b*(b:Rat)=(a:Rat):=by
  rw[fh,cx];exact gl hb0
 have hb1:(1:Rat)<=(b:Rat):=t5 hb;have f0:0<=mkRat (a:Int) b:=by
  rw[fh,cx];exact C5 Rat.natCast_nonneg (by grind)
 have f1:mkRat (a:Int) b<=((40:Nat):Rat):=by
  have h2:(a:Rat)<=((40:Nat):Rat):=t5 ha;have h3:=nT hb1 f0;grind
 refine⟨i6 h1 f0,⟨z*a,?_⟩,?_⟩
 ·rw[ga,eJ,<-hz,cx,<-e1];grind
 ·have h2:=nT f1 h1;have h3:=nT h4 (show(0:Rat)<=((40:Nat):Rat) by decide);have h5:((40:Nat):Rat)*((30:Nat):Rat)<=((2000:Nat):Rat):=by
   rw[<-ga];exact t5 dD
  grind
theorem Qw:GV 60 mM λ_=>[]:=by
 have hn:mM.n=2:=rfl;have h30:rQ 60 ((30:Int):Rat):=rQ.nat (m:=30) dD;have h40:rQ 60 ((40:Int):Rat):=rQ.nat (m:=40) dD;have h20:rQ 60 ((20:Int):Rat):=rQ.nat (m:=20) dD;have h50:rQ 60 ((50:Int):Rat):=rQ.nat (m:=50) dD;refine⟨⟨dD,dD,dD,λi hi=> ?_,λd hd=>absurd hd (aS _),λd hd=>absurd hd (aS _),λd hd=>absurd hd (aS _),λi hi c hc hh=> ?_,λd hd=>absurd hd (aS _),fu⟩,dD,lK dD⟩
 ·rw[hn]at hi⊢;match i,hi with
  |0,_=>
   refine⟨h30,dD,λc hc=> ?_,dD,λX hX=>(by cases hX),λX hX=>(by cases hX),λX hX=>(by cases hX),fu⟩;rcases bM.1 hc with rfl|hc
   ·exact⟨dD,dD,dD,dD,dD,h40⟩
   ·rw[aO.1 hc];exact⟨dD,dD,dD,dD,dD,h20⟩
  |1,_=>
   refine⟨rQ.zero 60,dD,λc hc=> ?_,dD,λX hX=>(by cases hX),λX hX=>(by cases hX),λX hX=>(by cases hX),fu⟩;rw[aO.1 hc];exact⟨dD,dD,dD,dD,dD,h50⟩
 ·rw[hn]at hi;match i,hi,c,hc with
  |0,_,0,_=>exact absurd rfl hh
  |0,_,1,_=>exact⟨1,dD,rfl⟩
  |1,_,0,_=>exact absurd rfl hh
  |0,_,c+2,h=>exact absurd (show c+2<2 from h) oO
  |1,_,c+1,h=>exact absurd (show c+1<1 from h) oO
noncomputable section
theorem Ft (x:Nat->Rat) (i c:Nat) (m:Rat) (h:x i=m):lW (λi=>oo (mM.e i).cl []) x i c=dC (oo (mM.e i).cl []) m c:=by
 rw[<-h];rfl
theorem UK:xS mM (λ_=>[]) 0=30/\xS mM (λ_=>[]) 1=10:=by
 have G:=Qw.W3;have hB:∀i c,wQ (AL mM) i c=false:=λ_ _=>rfl;have h0:∀dl,F0 mM (wQ (AL mM)) dl 0=0:=λdl=>by
  show(0+pT mM (wQ (AL mM)) dl 0 0+pT mM (wQ (AL mM)) dl 0 1)+0=0;have a:∀i,i<2->pT mM (wQ (AL mM)) dl 0 i=0:=λi hi=>lJ λc hc=>ah λe=>by
   match i,hi,c,hc with
   |0,_,0,_=>exact absurd e.1 dD
   |0,_,1,_=>exact absurd e.1 dD
   |1,_,0,_=>exact absurd e.1 dD
   |0,_,c+2,h=>exact absurd (show c+2<2 from h) oO
   |1,_,c+1,h=>exact absurd (show c+1<1 from h) oO
  rw[a 0 dD,a 1 dD];grind
 have h1:∀dl:Nat->Nat->Rat,F0 mM (wQ (AL mM)) dl 1=dl 0 1:=λdl=>by
  show(0+pT mM (wQ (AL mM)) dl 1 0+pT mM (wQ (AL mM)) dl 1 1)+0=dl 0 1;have a:pT mM (wQ (AL mM)) dl 1 1=0:=lJ λc hc=>ah λe=>by
   match c,hc with
   |0,_=>exact absurd e.1 dD
   |c+1,h=>exact absurd (show c+1<1 from h) oO
  have b:pT mM (wQ (AL mM)) dl 1 0=dl 0 1:=by
   show 0+(if(-1:Int)=((1:Nat):Int)/\wQ (AL mM) 0 0=false then dl 0 0 else 0)+(if(1:Int)=((1:Nat):Int)/\wQ (AL mM) 0 1=false then dl 0 1 else 0)=_;rw[ah (λe=>absurd e.1 dD),aj ⟨rfl,rfl⟩];grind
  rw[a,b];grind
 have e0:xS mM (λ_=>[]) 0=30:=by
  rw[G.fx 0 dD,h0];decide+kernel
 refine⟨e0,?_⟩;rw[G.fx 1 dD,h1,Ft _ 0 1 30 e0];decide+kernel
theorem Lu:s8 mM (λ_=>[]) 0 0=((20:Int):Rat)/\s8 mM (λ_=>[]) 1 0=((10:Int):Rat):=by
 obtain⟨e0,e1⟩:=UK;unfold s8;rw[Ft _ 0 0 30 e0,Ft _ 1 0 10 e1];refine⟨?_,?_⟩
 ·show dC (oo (mM.e 0).cl []) 30 0-0=_;decide+kernel
 ·show dC (oo (mM.e 1).cl []) 10 0-0=_;decide+kernel
theorem Gv (w:World):mb Tryz.prog 12 #[] w λr w'=>r= .bool true/\Below w.heap.size w w':=QC w Qw.WQ Lu.1 Lu.2
end
def tag (cl:List qn) (k:Nat):Nat:=(cl.getD k nK).rk.toNat
theorem RD (k i:Nat) (q:Rat):qU (k:Int) [⟨(i:Int),q⟩]=if k=i then q else 0:=by
 show(if(i:Int)=(k:Int)then q else 0)+0=_;by_cases h:k=i
 ·rw[aj h,aj (by rw[h])];grind
 ·rw[ah h,ah oO];grind
theorem x8 (cl:List qn) (k r:Nat):∀i,qU (k:Int) (sb cl i r).ps=if k<i/\r=tag cl k then o7 cl k else 0
 |0=>by rw[ah λh=>absurd h.1 (aS _)];rfl
 |i+1=>by
  have ih:=x8 cl k r i;unfold sb;by_cases e:r=(cl.getD i nK).rk.toNat
  ·rw[aj e];show qU _ ((sb cl i r).ps++[_])=_;rw[yA,ih,RD];by_cases h:k=i
   ·rw[aj h,ah λg=>oO,aj ⟨oO,by rw[h];exact e⟩,h];grind
   ·rw[ah h];by_cases h2:k<i/\r=tag cl k
    ·rw[aj h2,aj ⟨oO,h2.2⟩];grind
    ·rw[ah h2,ah λg=>h2 ⟨oO,g.2⟩];grind
  ·rw[ah e,ih];by_cases h2:k<i/\r=tag cl k
   ·rw[aj h2,aj ⟨oO,h2.2⟩]
   ·rw[ah h2,ah λg=> ?_];by_cases h:k=i
    ·exact e (by rw[g.2,h];rfl)
    ·exact h2 ⟨oO,g.2⟩
theorem IR (cl:List qn) (r:Nat):∀i,(sb cl i r).sm=ku (λk=>if r=tag cl k then o7 cl k else 0) i
 |0=>rfl
 |i+1=>by
  have ih:=IR cl r i;unfold sb;by_cases e:r=(cl.getD i nK).rk.toNat
  ·rw[aj e];show(sb cl i r).sm+o7 cl i=ku _ i+(if r=tag cl i then _ else _);rw[ih,aj (show r=tag cl i from e)]
  ·rw[ah e];show _=ku _ i+(if r=tag cl i then _ else _);rw[ih,ah (show¬r=tag cl i from e)];grind
section
variable {F F' : Nat → Tr}
theorem K0 {k:Int} (hs:∀r,(F' r).sm=(F r).sm) (ha:∀r,qU k (F' r).ps=qU k (F r).ps):∀(l:List Nat) (m:Rat),tP (l.map F') m k=tP (l.map F) m k
 | [],_=>rfl
 |r::l,m=>by
  rw[cJ,cJ,oE,oE,hs,ha,K0 hs ha l]
theorem OU {a b c:Int} (hs:∀r,(F' r).sm=(F r).sm) (ha:∀r,qU a (F' r).ps+qU b (F' r).ps=qU c (F r).ps):∀(l:List Nat) (m:Rat),tP (l.map F') m a+tP (l.map F') m b=tP (l.map F) m c
 | [],_=>by show(0:Rat)+0=0;grind
 |r::l,m=>by
  have ih:=OU hs ha l (m-(F r).sm);rw[cJ,cJ,oE,oE,oE,hs];have:=ha r;split
  ·rw[<-this];grind
  ·rw[<-ih,<-this];grind
end
def yJ (cl:List qn) (c:Nat) (a:Rat):List qn:=cl.set c ⟨(cl.getD c nK).h,(cl.getD c nK).rk,o7 cl c*a⟩++[⟨(cl.getD c nK).h,(cl.getD c nK).rk,o7 cl c-o7 cl c*a⟩]
section
variable {cl : List qn} {c : Nat} {a : Rat}
theorem xR (cl:List qn) (c:Nat) (a:Rat):(yJ cl c a).length=cl.length+1:=by
 unfold yJ;rw[ax,bG];rfl
theorem Gd {k:Nat} (hk:k<cl.length) (h:k≠c):(yJ cl c a).getD k nK=cl.getD k nK:=by
 unfold yJ;rw[ak,ak,cK (by rw[bG];exact hk),List.getElem?_set_ne λe=>h e.symm,ak]
theorem Lf (hc:c<cl.length):(yJ cl c a).getD c nK=⟨(cl.getD c nK).h,(cl.getD c nK).rk,o7 cl c*a⟩:=by
 unfold yJ;rw[ak,cK (by rw[bG];exact hc),List.getElem?_set_self hc];rfl
theorem Lp (cl:List qn) (c:Nat) (a:Rat):(yJ cl c a).getD cl.length nK=⟨(cl.getD c nK).h,(cl.getD c nK).rk,o7 cl c-o7 cl c*a⟩:=by
 unfold yJ;rw[ak,cH (by rw[bG];exact aB _),bG,dU];rfl
theorem Ja (hc:c<cl.length) {k:Nat} (hk:k<cl.length):tag (yJ cl c a) k=tag cl k:=by
 unfold tag;by_cases h:k=c
 ·rw[h,Lf hc]
 ·rw[Gd hk h]
theorem Tc (cl:List qn) (c:Nat) (a:Rat):tag (yJ cl c a) cl.length=tag cl c:=by
 unfold tag;rw[Lp]
theorem Tl (hc:c<cl.length) (r:Nat):(sb (yJ cl c a) (cl.length+1) r).sm=(sb cl cl.length r).sm:=by
 rw[IR,IR];show ku _ cl.length+(if r=tag (yJ cl c a) cl.length then o7 (yJ cl c a) cl.length else 0)=_;rw[Tc];have e:(if r=tag cl c then o7 (yJ cl c a) cl.length else 0)=ku (λk=>if k=c then(if r=tag cl c then o7 (yJ cl c a) cl.length else 0)else 0) cl.length:=by
  rw[nz (p:=c) hc λi _ hi=>ah hi,aj rfl]
 rw[e,<-n4];refine kz λk hk=> ?_;rw[Ja hc hk];by_cases h:k=c
 ·rw[aj h,h];unfold o7;rw[Lf hc,Lp];split<;>grind [o7]
 ·rw[ah h];unfold o7;rw[Gd hk h];grind
theorem H8 (hc:c<cl.length) (m:Rat):(∀k,k<cl.length->k≠c->lP (oo (yJ cl c a) []) m k=lP (oo cl []) m k)/\lP (oo (yJ cl c a) []) m c+lP (oo (yJ cl c a) []) m cl.length=lP (oo cl []) m c:=by
 have e:(oo (yJ cl c a) []).rk=(List.range 8).map λr=>sb (yJ cl c a) (cl.length+1) r:=by
  show kD 8 _=_;rw[xR];rfl
 have e2:(oo cl []).rk=(List.range 8).map λr=>sb cl cl.length r:=rfl;refine⟨λk hk h=> ?_,?_⟩
 ·rw[oS,oS,e,e2];refine K0 (λr=>Tl hc r) (λr=> ?_) _ m;rw[x8,x8,Ja hc hk];unfold o7;rw[Gd hk h];by_cases g:k<cl.length/\r=tag cl k
  ·rw[aj g,aj ⟨oO,g.2⟩]
  ·rw[ah g,ah λq=>g ⟨hk,q.2⟩]
 ·rw[oS,oS,oS,e,e2];refine OU (λr=>Tl hc r) (λr=> ?_) _ m;rw[x8,x8,x8,Ja hc hc,Tc];have q1:o7 (yJ cl c a) c=o7 cl c*a:=by
   have:=bB qn.q (Lf (a:=a) hc);exact this
  have q2:o7 (yJ cl c a) cl.length=o7 cl c-o7 cl c*a:=by
   have:=bB qn.q (Lp cl c a);exact this
  rw[q1,q2];by_cases g:r=tag cl c
  ·rw[aj ⟨oO,g⟩,aj ⟨oO,g⟩,aj ⟨hc,g⟩];grind
  ·rw[ah λq=>g q.2,ah λq=>g q.2,ah λq=>g q.2];grind
theorem Du (cl:List qn) (m:Rat) (k:Nat):dC (oo cl []) m k=lP (oo cl []) m k:=by
 rw[yk,pH];show(if k∈[]then _ else _)+0=_;rw[ah cG];grind
end
def oP (g:nq) (i c:Nat) (a:Rat):nq:=⟨g.es.set i ⟨(g.e i).cash,yJ (g.e i).cl c a⟩,g.ds⟩
def nA:Nat->List (List (List n9)):=λ_=>[]
section
variable {g : nq} {i c : Nat} {a : Rat}
theorem yt (g:nq) (i c:Nat) (a:Rat):(oP g i c a).n=g.n:=bG
theorem Cr (hi:i<g.n):(oP g i c a).e i=⟨(g.e i).cash,yJ (g.e i).cl c a⟩:=by
 unfold nq.e oP;rw[ak,List.getElem?_set_self hi];rfl
theorem Co {j:Nat} (h:j≠i):(oP g i c a).e j=g.e j:=by
 unfold nq.e oP;rw[ak,ak,List.getElem?_set_ne λe=>h e.symm]
theorem FJ (hi:i<g.n):(oP g i c a).cn i=g.cn i+1:=by
 unfold nq.cn;rw[Cr hi];exact xR _ _ _
theorem BQ {j:Nat} (h:j≠i):(oP g i c a).cn j=g.cn j:=by
 unfold nq.cn;rw[Co h]
theorem CP (hi:i<g.n) (hc:c<g.cn i) {j k:Nat} (hk:k<g.cn j):((oP g i c a).c j k).h=(g.c j k).h:=by
 unfold nq.c;by_cases h:j=i
 ·subst h;rw[Cr hi];by_cases e:k=c
  ·rw[e,Lf hc]
  ·rw[Gd hk e]
 ·rw[Co h]
theorem Oo (hi:i<g.n):((oP g i c a).c i (g.cn i)).h=(g.c i c).h:=by
 unfold nq.c;rw[Cr hi];have:=bB qn.h (Lp (g.e i).cl c a);exact this
theorem Lw (hi:i<g.n) (hc:c<g.cn i) (hl:r6 g):Rn 1 g (oP g i c a):=by
 refine⟨yt g i c a,rfl,λd _=>(fg _).symm,λd _=>rfl,λj _=> ?_,λd hd h0=>CP hi hc (hl d hd 0 h0).2⟩;rw[fg];unfold Bu;by_cases h:j=i
 ·rw[h,Cr hi]
 ·rw[Co h]
def dN (g:nq) (y:Nat->Rat):Nat->Nat->Rat:=lW (λi=>oo (g.e i).cl []) y
theorem L9 (hi:i<g.n) (hc:c<g.cn i) (y:Nat->Rat) {j k:Nat} (hk:k<g.cn j) (h:¬(j=i/\k=c)):dN (oP g i c a) y j k=dN g y j k:=by
 show dC (oo ((oP g i c a).e j).cl []) (y j) k=dC (oo (g.e j).cl []) (y j) k;by_cases e:j=i
 ·subst e;rw[Cr hi,Du,Du];exact(H8 hc (y j)).1 k hk λq=>h ⟨rfl,q⟩
 ·rw[Co e]
theorem Qb (hi:i<g.n) (hc:c<g.cn i) (y:Nat->Rat):dN (oP g i c a) y i c+dN (oP g i c a) y i (g.cn i)=dN g y i c:=by
 show dC (oo ((oP g i c a).e i).cl []) (y i) c+dC (oo ((oP g i c a).e i).cl []) (y i) (g.cn i)=dC (oo (g.e i).cl []) (y i) c;rw[Cr hi,Du,Du,Du];exact(H8 hc (y i)).2
theorem Qp (hi:i<g.n) (hc:c<g.cn i) (hl:r6 g) (hn:(i,c)∉AL g) (y:Nat->Rat):VS 1 g (dN g y) (dN (oP g i c a) y):=λd hd k hk=>by
 rw[fg];refine L9 hi hc y (hl d hd k hk).2 λe=>hn (AM.2 ⟨d,hd,?_⟩);rw[<-e.1,<-e.2];exact kO _ k (0,0) hk
theorem UM (hi:i<g.n) (hc:c<g.cn i) (hl:r6 g) (hn:(i,c)∉AL g) (y:Nat->Rat) (j i':Nat):pT (oP g i c a) (wQ (AL g)) (dN (oP g i c a) y) j i'=pT g (wQ (AL g)) (dN g y) j i'*1:=by
 rw[fg];by_cases e:i'=i
 ·subst e;have b1:wQ (AL g) i' c=false:=ae hn;have b2:wQ (AL g) i' (g.cn i')=false:=ae λh=>by
   obtain⟨d,hd,hm⟩:=AM.1 h;obtain⟨k,hk,e⟩:=dY hm;have h2:=(hl d hd k hk).2;have e2:g.lg d k=(i',g.cn i'):=by
    unfold nq.lg;rw[ak,aF hk];exact e
   rw[e2]at h2;exact absurd h2 (dt _)
  unfold pT;rw[FJ hi];show ku _ (g.cn i')+(if((oP g i' c a).c i' (g.cn i')).h=_/\_ then dN (oP g i' c a) y i' (g.cn i')else 0)=_;rw[Oo hi,b2];have e3:(if(g.c i' c).h=(j:Int)/\false=false then dN (oP g i' c a) y i' (g.cn i')else 0)=ku (λk=>if k=c then(if(g.c i' c).h=(j:Int)/\false=false then dN (oP g i' c a) y i' (g.cn i')else 0)else 0) (g.cn i'):=by
   rw[nz (p:=c) hc λk _ hk=>ah hk,aj rfl]
  rw[e3,<-n4];refine kz λk hk=> ?_;rw[CP hi hc hk];by_cases h:k=c
  ·rw[aj h,h,b1,<-Qb (a:=a) hi hc y];split
   ·rfl
   ·grind
  ·rw[ah h,L9 hi hc y hk λq=>h q.2];grind
 ·unfold pT;rw[BQ e];refine kz λk hk=> ?_;rw[CP hi hc hk,L9 hi hc y hk λq=>e q.1]
theorem Vi {D0 D1:Nat} (h:GV D0 g nA) (h':GV D1 (oP g i c a) nA) (hi:i<g.n) (hc:c<g.cn i) (hn:(i,c)∉AL g):∀j,j<g.n->xS (oP g i c a) nA j=xS g nA j:=by
 have h1:(0:Rat)<1:=dD;have hs:=Lw (a:=a) hi hc h.lg;have e2:=QP (Y':=λj=>oo ((oP g i c a).e j).cl []) (B':=wQ (AL g)) h1 hs h.W3 λy _ j _=>by
  have e:(λi=>y i*1)=y:=funext λi=>fg _;rw[e];exact UD h1 hs (Qp hi hc h.lg hn y) λi' _=>UM hi hc h.lg hn y j i'
 intro j hj;have:=Rc h'.W3 e2 j (by rw[yt];exact hj);rw[this,fg]
theorem OZ {g:nq} {dl:Nat->Nat->Rat} {d:Nat} {u:Nat->Nat->Rat} {i c:Nat} (hu:u i c=0) (h:(i,c)∉(g.d d).legs):∀k,k<=mJ g d->IE g dl d u k i c=0
 |0,_=>hu
 |k+1,hk=>by
  show Bv (IE g dl d u k) (g.lg d k).1 (g.lg d k).2 _ i c=0;unfold Bv;rw[ah λe=>h (by
   have:g.lg d k∈(g.d d).legs:=kO _ k (0,0) hk;rw[show(i,c)=g.lg d k from jP e.1 e.2];exact this)]
  exact OZ hu h k oO
theorem Qn {g:nq} {dl:Nat->Nat->Rat} {i c:Nat} (h:(i,c)∉AL g):∀d,d<=g.ds.length->A2 g dl d i c=0
 |0,_=>rfl
 |d+1,hd=>OZ (Qn h d oO) (λe=>h (AM.2 ⟨d,hd,e⟩)) _ (aB _)
theorem Vy {D0 D1:Nat} (h:GV D0 g nA) (h':GV D1 (oP g i c a) nA) (hi:i<g.n) (hc:c<g.cn i) (hn:(i,c)∉AL g):(∀j,j<g.n->∀k,k<g.cn j->¬(j=i/\k=c)->s8 (oP g i c a) nA j k=s8 g nA j k)/\s8 (oP g i c a) nA i c+s8 (oP g i c a) nA i (g.cn i)=s8 g nA i c:=by
 have hx:=Vi h h' hi hc hn;obtain⟨X,hX⟩:=jz (xS g nA);have hd:∀j,j<g.n->∀k,lW (λi_1=>oo ((oP g i c a).e i_1).cl (nA i_1)) (xS (oP g i c a) nA) j k=dN (oP g i c a) X j k:=λj hj k=>by
  show dC _ (xS (oP g i c a) nA j) k=dC _ (X j) k;rw[hx j hj,hX];rfl
 have hd0:∀j k,lW (λi=>oo (g.e i).cl (nA i)) (xS g nA) j k=dN g X j k:=λj k=>by rw[hX];rfl
 have h1:(0:Rat)<1:=dD;have hs:=Lw (a:=a) hi hc h.lg;have hl0:=Qp (a:=a) hi hc h.lg hn X;have hf:∀j k,A2 (oP g i c a) (lW (λi_1=>oo ((oP g i c a).e i_1).cl (nA i_1)) (xS (oP g i c a) nA)) (oP g i c a).ds.length j k=A2 g (lW (λi=>oo (g.e i).cl (nA i)) (xS g nA)) g.ds.length j k:=λj k=>by
  have:=Ks h1 hs (dl:=lW (λi=>oo (g.e i).cl (nA i)) (xS g nA)) (dl':=lW (λi_1=>oo ((oP g i c a).e i_1).cl (nA i_1)) (xS (oP g i c a) nA)) (λd hd2 k hk=>by rw[hd _ (h.lg d hd2 k hk).1,hd0];exact hl0 d hd2 k hk) g.ds.length (aB _) j k;rw[fg]at this;exact this
 refine⟨λj hj k hk e=> ?_,?_⟩
 ·unfold s8;rw[hd j hj,hd0,hf,L9 hi hc X hk e]
 ·have hz:A2 g (lW (λi=>oo (g.e i).cl (nA i)) (xS g nA)) g.ds.length i (g.cn i)=0:=Qn (λe=>by
   obtain⟨d,hd,hm⟩:=AM.1 e;obtain⟨k,hk,e⟩:=dY hm;have h2:=(h.lg d hd k hk).2;have e2:g.lg d k=(i,g.cn i):=by
    unfold nq.lg;rw[ak,aF hk];exact e
   rw[e2]at h2;exact absurd h2 (dt _)) _ (aB _)
  unfold s8;rw[hd i hi,hd i hi,hd0,hf,hf,hz,<-Qb (a:=a) hi hc X];grind
theorem rQ.up {q:Rat} (h:rQ 60 q):rQ (60*7) q:=⟨h.nn,h.mu.wO 7,h.le⟩
theorem QH.sp {p:Nat} (hp:p<=7) (b:QH yv g nA) (h6:∀j,j<g.n->g.cn j<=6) (hi:i<g.n) (hc:c<g.cn i):GV (60*7) (oP g i c (mkRat (p:Int) 7)) nA:=by
 have hn:=yt g i c (mkRat (p:Int) 7);have e1:mkRat (p:Int) 7*((7:Nat):Rat)=(p:Rat):=by
  rw[fh,cx];exact gl dD
 have ha:mkRat (p:Int) 7<=1:=by
  have h2:(p:Rat)<=((7:Nat):Rat):=t5 hp;have h3:((7:Nat):Rat)=7:=rfl;grind
 refine⟨⟨by rw[hn];exact b.n0,by rw[hn];exact b.n,b.dn,λj hj=> ?_,λd hd=>(b.W d hd).1.up,b.ln,λd hd k hk=> ?_,λj hj k hk hh=> ?_,λd hd k hk=> ?_,b.nd⟩,dD,lK dD⟩
 ·rw[hn]at hj⊢;have e:=b.es j hj;by_cases h:j=i
  ·subst h;rw[Cr hi];have hl:=xR (g.e j).cl c (mkRat (p:Int) 7);refine⟨e.cash.1.up,by have:=h6 j hj;show(yJ _ _ _).length<=7;rw[hl];exact Nat.succ_le_succ this,λx hx=> ?_,aw _,λX hX=>absurd hX cG,λX hX=>absurd hX cG,λX hX=>absurd hX cG,fu⟩;obtain⟨c1,c2,c3,c4,c5,c6⟩:=e.cl _ (kO (g.e j).cl c nK hc);have c7:rQ (60*7) (o7 (g.e j).cl c*mkRat (p:Int) 7):=yv.sc oO dD c6;have c8:o7 (g.e j).cl c*mkRat (p:Int) 7<=o7 (g.e j).cl c:=by
    have:=nT ha (show 0<=o7 (g.e j).cl c from c6.1.nn);grind
   rcases bN.1 hx with h1|h1
   ·rcases List.mem_or_eq_of_mem_set h1 with h2|h2
    ·obtain⟨d1,d2,d3,d4,d5,d6⟩:=e.cl x h2;exact⟨d1,d2,d3,d4,d5,d6.1.up⟩
    ·rw[h2];exact⟨c1,c2,c3,c4,c5,c7⟩
   ·rw[aO.1 h1];exact⟨c1,c2,c3,c4,c5,(show rQ (60*7) (o7 (g.e j).cl c)from c6.1.up).sub c7 c8⟩
  ·rw[Co h];exact e.mono λ_ h=>h.1.up
 ·obtain⟨h1,h2⟩:=b.lg d hd k hk;rw[hn];refine⟨h1,?_⟩;show(g.lg d k).2<(oP g i c (mkRat (p:Int) 7)).cn (g.lg d k).1;by_cases h:(g.lg d k).1=i
  ·rw[h]at h2⊢;rw[FJ hi];omega
  ·rw[BQ h];exact h2
 ·rw[hn]at hj⊢;by_cases h:j=i
  ·subst h;rw[FJ hi]at hk;by_cases h2:k<g.cn j
   ·rw[CP hi hc h2]at hh⊢;exact b.ho j hj k h2 hh
   ·have h3:k=g.cn j:=oO;rw[h3,Oo hi]at hh⊢;exact b.ho j hj c hc hh
  ·rw[BQ h]at hk;rw[CP hi hc hk]at hh⊢;exact b.ho j hj k hk hh
 ·obtain⟨_,h2⟩:=b.lg d hd k hk;obtain⟨_,h4⟩:=b.lg d hd 0 (bZ (aw _) hk);have e:=b.hl d hd k hk;show((oP g i c (mkRat (p:Int) 7)).c (g.lg d k).1 (g.lg d k).2).h=((oP g i c (mkRat (p:Int) 7)).c (g.lg d 0).1 (g.lg d 0).2).h;rw[CP hi hc h2,CP hi hc h4];exact e
end
end Go.Proofs.YtoeiejliehgopaaGreatDoor
namespace Go.Sx
open Go Go.RowKit Go.ChangeShapes Go.WideShapes Go.Proofs.YtoeiejliehgopaaGreatDoor
section
variable {H : Type} {enc : TypeId × Value → H} {P : Program} {w : World}
theorem ET {K:Nat} {eK:(Nat->Nat)->List Value} (hK:∀x j u,(eK x)[j]?=some u->j<K/\u= .int .u16 (x j)) {t e q:TypeId} {v:Value} {d:DataW H} {ps:List MemPlace} {b0:Nat} (ht:P.underlying t=some (.slice e)) (he:P.underlying e=some (.array K q)) (hq:P.underlying q=some (.int .u16)) (hce:P.cellsOf e=K) (hcq:P.cellsOf q=1)
  (hval:Value.okWide P w .any b0 t v) (h:DataW.Trod enc P w 0 (λ_=>true) true t v d ps):∃l:List (Nat->Nat),Sl eK K w v l/\∀x∈l,∀i,i<K->x i<65536:=by
 obtain⟨a0,len0,cap0,rfl⟩:=okWide_slice ht hval;obtain⟨fuel,hf⟩:=h;rcases DataW.trod_slice ht hf with⟨h1,_⟩|⟨a,len,cap,elems,rest,n,_,h1,_,_,hlc,hm,hlen,hel,_,_⟩
 ·simp only[Value.cells,gi,and_true]at h1;rw[h1];exact⟨[],Sl.nil _ _ _,λx hx=>by cases hx⟩
 ·simp only[Value.cells,gi,and_true]at h1;rw[h1];have each:∀i,i<len->∃x:Nat->Nat,(∀j,j<K->x j<65536)/\∀j,j<K->w.cell? (a.add (i*K+j))=some (.int .u16 (x j)):=by
   intro i hi;have h2:=hel i hi;rw[hce,aF (by omega:i<elems.length),Option.bind_eq_some_iff]at h2;obtain⟨cs,hcs,htr⟩:=h2;obtain⟨_,hcl,hcell⟩:=World.cells?_some hcs;obtain⟨xs,m,_,_,_,hxl,hxs⟩:=DataW.trod_array he htr;have hone:∀j,j<K->∃z:Nat,z<65536/\cs[j]?=some (.int .u16 (z:Int)):=by
    intro j hj;have h3:=hxs j hj;rw[hcq,eN,aF oO]at h3;obtain⟨z,e1,_,hw⟩:=DataW.trod_int hq h3;have hb:=bounds_u16 hw;refine⟨z.toNat,oO,?_⟩;have h0:((cs.drop j).take 1)[0]?=some (.int .u16 z):=by rw[e1];rfl
    rw[fG hb.1];simpa using h0
   refine⟨λj=>if hj:j<K then Classical.choose (hone j hj)else 0,λj hj=> ?_,λj hj=> ?_⟩
   ·simp only[hj,gq];exact(gJ (hone j hj)).1
   ·simp only[hj,gq];rw[<-(gJ (hone j hj)).2,<-hcell j hj,add_add]
  refine⟨(List.range len).map λi=>if hi:i<len then Classical.choose (each i hi)else λ_=>0,⟨⟨some a,cap,by simp,by simp;exact hlc,hm,λq=>by cases q⟩,λi hi=> ?_⟩,λx hx i hi=> ?_⟩
  ·have hil:i<len:=by simpa using hi
   intro j u hu;rw[ew,jH]at hu;simp only[hil,gq]at hu;obtain⟨hj,rfl⟩:=hK _ _ _ hu;show w.cell? ((a.add (i*K)).add j)=_;rw[add_add];exact(gJ (each i hil)).2 j hj
  ·obtain⟨k,hk,rfl⟩:=ca.1 hx;have hkl:=cZ.1 hk;simp only[hkl,gq];exact(gJ (each k hkl)).1 i hi
end
theorem Q9 (x:Nat->Nat) (j:Nat) (u:Value) (h:(pC x)[j]?=some u):j<3/\u= .int .u16 (x j):=by
 match j,h with
 |0,h=>exact⟨dD,(bK h).symm⟩
 |1,h=>exact⟨dD,(bK h).symm⟩
 |2,h=>exact⟨dD,(bK h).symm⟩
 |j+3,h=>cases h
theorem Se (x:Nat->Nat) (j:Nat) (u:Value) (h:(zA x)[j]?=some u):j<4/\u= .int .u16 (x j):=by
 match j,h with
 |0,h=>exact⟨dD,(bK h).symm⟩
 |1,h=>exact⟨dD,(bK h).symm⟩
 |2,h=>exact⟨dD,(bK h).symm⟩
 |3,h=>exact⟨dD,(bK h).symm⟩
 |j+4,h=>cases h
end Go.Sx
namespace Go.Proofs.YtoeiejliehgopaaGreatDoor
open Go Go.RowKit Go.Sx
theorem Wt {w0 w:World} {H:List lj} (_:St w0 w H):St w w []:=St.init w
section
variable {w : World} {g : nq} {A : Nat → List (List (List n9))}
theorem HC {r:Value} (h:TI w g (λi=>oo (g.e i).cl (A i)) (xS g A) r):∃a1 c1 a2 l2 c2 a3 l3 c3 a4 l4 c4 a5 c5 a6 l6 c6 a7 l7 c7 a8 l8 c8,r= .agg #[.slice a1 g.n c1,.slice a2 l2 c2,.slice a3 l3 c3,.slice a4 l4 c4,.slice a5 g.n c5,.slice a6 l6 c6,.slice a7 l7 c7,.slice a8 l8 c8]:=by
 obtain⟨vM,vG,vD,vF,vN,vS,vR,vU,uG,uD,uF,uN,e,h1,h2,h3,h4,h5,h6,h7,h8⟩:=h;obtain⟨a1,c1,e1,_⟩:=h1.form;obtain⟨a2,c2,e2,_⟩:=h2.sl.form;obtain⟨a3,c3,e3,_⟩:=h3.sl.form;obtain⟨a4,c4,e4,_⟩:=h4.sl.form;obtain⟨a5,c5,e5,_⟩:=h5.sl.form;obtain⟨a6,c6,e6,_⟩:=h6.form;obtain⟨a7,c7,e7,_⟩:=h7.form;obtain⟨a8,c8,e8,_⟩:=h8.form;rw[kj]at e1;rw[h5.len,mW]at e5;rw[e1,e2,e3,e4,e5,e6,e7,e8]at e;exact⟨_,_,_,_,_,_,_,_,_,_,_,_,_,_,_,_,_,_,_,_,_,_,e⟩
end
section
variable {w : World} {vE vD : Value} {g : nq} {ev : List (Value × Value)} {dv : List Value}
end
theorem JA (va vb:Value) (A:List RR) (w:World) (ha:Sl ke 3 w va A) (hb:Sl ke 3 w vb A):
  mb Tryz.prog 17 #[va,vb] w λv w'=>v= .bool true/\Below w.heap.size w w':=
 (A1 va vb A A w ha hb).mono λ_ _ ⟨h,hB⟩=>⟨by rw[h,ai rfl],hB⟩
section
variable {w : World} {g : nq} {A : Nat → List (List (List n9))}
theorem K8 {v1 v2 v3 v4 v5 v6 v7 v8:Value} (h:TI w g (λi=>oo (g.e i).cl (A i)) (xS g A) (.agg #[v1,v2,v3,v4,v5,v6,v7,v8])):Sl ke 3 w v1 (kD g.n λi=>ki (xS g A i))/\∃uN,rB ke 3 w v5 (tU g.n g.cn (s8 g A)) uN:=by
 obtain⟨vM,vG,vD,vF,vN,vS,vR,vU,uG,uD,uF,uN,e,h1,_,_,_,h5,_⟩:=h;injection e with e;injection e with e;simp only[gi,and_true]at e;obtain⟨rfl,_,_,_,rfl,_⟩:=e;exact⟨h1,uN,h5⟩
theorem O8 {B:List (List RR)} {v:Value} {us:List Value} (h:rB ke 3 w v B us):∀u∈us.flatMap se,u.oneCell'=true:=by
 intro u hu;rw[CQ]at hu;obtain⟨i,hi,rfl⟩:=List.mem_iff_getElem.1 hu;obtain⟨a,c,e,_⟩:=(h.row i (by rw[<-h.len];exact hi)).form;rw[ak,aF hi]at e;show Value.oneCell' us[i]=true;rw[show us[i]=_ from e];rfl
end
def Ud (g:nq) (p:Nat×Nat) (d k:Nat) (b:Bool):Prop:=(b=true->d<g.ds.length/\k<mJ g d/\g.lg d k=p)/\(b=false->∀d k,d<g.ds.length->k<mJ g d->g.lg d k≠p)
theorem Gi {P:Nat->Prop} {n:Nat} (h:∀k,k<n->P k) (hn:P n):∀k,k<n+1->P k:=λk hk=>by
 rcases Nat.lt_succ_iff_lt_or_eq.1 hk with h2|rfl
 ·exact h k h2
 ·exact hn
theorem Qa (vE vD:Value) (g:nq) (ev:List (Value×Value)) (dv:List Value) (e c:Nat) (w:World) (hM:EG w vE vD g ev dv):
  mb Tryz.prog 35 #[.agg #[vE,vD],.int .i64 e,.int .i64 c] w λr w'=>(∃d k b,r= .tuple #[.int .i64 (d:Nat),.int .i64 (k:Nat),.bool b]/\Ud g (e,c) d k b)/\Below w.heap.size w w':=by
 have hS:=St.init w;obtain⟨aE,cE,hvE,_⟩:=hM.es.form;obtain⟨aD,cD,hvD,_⟩:=hM.ds.form;have hdm:=hM.ds.maxLen;rw[kj]at hvE hvD hdm;subst hvE hvD;have htd:=kj g.ds.length λk=>((g.d k).W,dv.getD k undef);refine enter Tryz.func35 rfl Tryz.ntmps35 rfl ?_;refine jr ?_;refine jh (lx (new:=[.slice aE g.n cE,.slice aD g.ds.length cD]) rfl rfl hS ?_);intro b3 wz1 hS hBz1;refine V3 ?_;replace hS:St w _ [(b3,29,[.slice aE g.n cE,.slice aD g.ds.length cD])]:=hS;refine J1 ?_;refine jb ?_;refine kG (λρ w'=>(∀d k,d<g.ds.length->k<mJ g d->g.lg d k≠(e,c))/\St w w' [(b3,29,[.slice aE g.n cE,.slice aD g.ds.length cD])]) ?_ ?_
 ·refine ja ?_;refine kF (σ:=Nat) (λd ρ w'=>d<=g.ds.length/\(∀d' k,d'<d->k<mJ g d'->g.lg d' k≠(e,c))/\ρ 1=iB e/\ρ 2=iB c/\ρ 3=pB b3/\ρ 9=iB d/\St w w' [(b3,29,[.slice aE g.n cE,.slice aD g.ds.length cD])]) (λd=>g.ds.length-d) 0
   ⟨aw _,λ_ _ h=>absurd h (aS _),rfl,rfl,rfl,rfl,hS⟩ ?_
  clear hS;rintro d ρ w3 ⟨hd,hno,h1,h2,h3,h9,hS⟩;refine V5 ?_;by_cases hlt:d<g.ds.length
  ·refine V1 ?_;have hlg:=hM.lg d hlt;have hlm:=hlg.maxLen;obtain⟨al,cl,hvl,_⟩:=hlg.form;have hel:((kD g.ds.length λk=>((g.d k).W,dv.getD k undef)).getD d Ch).2= .slice al (g.d d).legs.length cl:=by rw[kB _ _ hlt];exact hvl
   rw[hvl]at hlg;refine J1 ?_;refine jb ?_;refine kG (λρ w'=>(∀k,k<(g.d d).legs.length->g.lg d k≠(e,c))/\ρ 1=iB e/\ρ 2=iB c/\ρ 3=pB b3/\ρ 9=iB d/\St w w' [(b3,29,[.slice aE g.n cE,.slice aD g.ds.length cD])]) ?_ ?_
   ·refine ja ?_;refine kF (σ:=Nat) (λk ρ w'=>k<=(g.d d).legs.length/\(∀k',k'<k->g.lg d k'≠(e,c))/\ρ 1=iB e/\ρ 2=iB c/\ρ 3=pB b3/\ρ 9=iB d/\ρ 10=iB k/\St w w' [(b3,29,[.slice aE g.n cE,.slice aD g.ds.length cD])]) (λk=>(g.d d).legs.length-k) 0
     ⟨aw _,λ_ h=>absurd h (aS _),h1,h2,h3,h9,rfl,hS⟩ ?_
    clear hS h1 h2 h3 h9;rintro k ρ w4 ⟨hk,hno2,h1,h2,h3,h9,h10,hS⟩;refine J2 ?_;refine jq (kP (k:=0) (v:= .slice aD g.ds.length cD) rfl qm hS rfl rfl rfl (.inr rfl) ?_);refine J1 ?_;refine jp (ks (i:=d) rfl rfl (hM.ds.kb hS.kb) oO dO rH ?_);refine jp (lU rfl (lG (hM.ds.kb hS.kb) (λ_=>rfl) dD dO) pm ?_);refine jq (lV (v:= .slice al (g.d d).legs.length cl) (i:=d) (off:=3) Ch rfl pD (hM.ds.kb hS.kb) (λ_=>rfl) dD oO rfl (by rw[<-hel];rfl) (.inr rfl) ?_);refine jp (ky rfl (hlg.kb hS.kb) ⟨_,Tryz.underlying62⟩ ?_);refine V1 ?_;by_cases hkl:k<(g.d d).legs.length
    ·refine V1 ?_;obtain⟨p,hp⟩:=jz (g.lg d k);have hpg:(g.d d).legs.getD k (0,0)=p:=hp.symm;by_cases e1:p.1=e
     ·by_cases e2:p.2=c
      ·refine J1 ?_;refine jq (kP (k:=0) (v:= .slice aD g.ds.length cD) rfl qm hS rfl rfl rfl (.inr rfl) ?_);refine J1 ?_;refine jp (ks (i:=d) rfl rfl (hM.ds.kb hS.kb) oO dO rH ?_);refine jp (lU rfl (lG (hM.ds.kb hS.kb) (λ_=>rfl) dD dO) pm ?_);refine jq (lV (v:= .slice al (g.d d).legs.length cl) (i:=d) (off:=3) Ch rfl pD (hM.ds.kb hS.kb) (λ_=>rfl) dD oO rfl (by rw[<-hel];rfl) (.inr rfl) ?_);refine J1 ?_;refine jp (ks (i:=k) rfl rfl (hlg.kb hS.kb) oO dO nV ?_);refine jp (lU rfl (lG (hlg.kb hS.kb) (λ_=>rfl) dD dO) qh ?_);refine jq (lV (v:= .int .i64 p.1) (i:=k) (off:=0) (0,0) rfl mR (hlg.kb hS.kb) (λ_=>rfl) dD hkl rfl (by rw[hpg];rfl) (.inr rfl) ?_);refine J3 ?_;refine ko (kd 41 kR rfl dT) (lD h3 vO (lA (kd 41 kR rfl dT) (kP (k:=0) (v:= .slice aD g.ds.length cD) rfl qm hS rfl rfl rfl (.inr rfl) (ko (kd 41 kR rfl dT) (kw h9 (ko (kd 41 kR rfl dT) (ks (i:=d) rfl rfl (hM.ds.kb hS.kb) oO dO rH ?_)))))));refine ko (kd 41 kR rfl dT) (lU rfl (lG (hM.ds.kb hS.kb) (λ_=>rfl) dD dO) pm ?_);refine lA (kd 41 kR rfl dT) (lV (v:= .slice al (g.d d).legs.length cl) (i:=d) (off:=3) Ch rfl pD (hM.ds.kb hS.kb) (λ_=>rfl) dD oO rfl (by rw[<-hel];rfl) (.inr rfl) ?_);refine ko (kd 41 kR rfl dT) (kw h10 (ko (kd 41 kR rfl dT) (ks (i:=k) rfl rfl (hlg.kb hS.kb) oO dO nV ?_)));refine ko (kd 41 kR rfl dT) (lU rfl (lG (hlg.kb hS.kb) (λ_=>rfl) dD dO) qE ?_);refine lA (kd 41 kR rfl dT) (lV (v:= .int .i64 p.2) (i:=k) (off:=1) (0,0) rfl mR (hlg.kb hS.kb) (λ_=>rfl) dD hkl rfl (by rw[hpg];rfl) (.inr rfl) ?_);refine ko (kd 41 kR rfl dT) (kw h2 (ko (kd 41 kR rfl dT) (qO rfl rfl (jp (kH (vb rfl dT) rfl ?_)))));refine J6 ?_;refine jt ?_;refine xI rfl rfl rfl rfl ?_;exact⟨⟨d,k,true,rfl,λ_=>⟨hlt,hkl,by rw[<-hp];exact jP e1 e2⟩,λh=>by cases h⟩,hS.kb⟩
      ·refine J1 ?_;refine jq (kP (k:=0) (v:= .slice aD g.ds.length cD) rfl qm hS rfl rfl rfl (.inr rfl) ?_);refine J1 ?_;refine jp (ks (i:=d) rfl rfl (hM.ds.kb hS.kb) oO dO rH ?_);refine jp (lU rfl (lG (hM.ds.kb hS.kb) (λ_=>rfl) dD dO) pm ?_);refine jq (lV (v:= .slice al (g.d d).legs.length cl) (i:=d) (off:=3) Ch rfl pD (hM.ds.kb hS.kb) (λ_=>rfl) dD oO rfl (by rw[<-hel];rfl) (.inr rfl) ?_);refine J1 ?_;refine jp (ks (i:=k) rfl rfl (hlg.kb hS.kb) oO dO nV ?_);refine jp (lU rfl (lG (hlg.kb hS.kb) (λ_=>rfl) dD dO) qh ?_);refine jq (lV (v:= .int .i64 p.1) (i:=k) (off:=0) (0,0) rfl mR (hlg.kb hS.kb) (λ_=>rfl) dD hkl rfl (by rw[hpg];rfl) (.inr rfl) ?_);refine J3 ?_;refine ko (kd 41 kR rfl dT) (lD h3 vO (lA (kd 41 kR rfl dT) (kP (k:=0) (v:= .slice aD g.ds.length cD) rfl qm hS rfl rfl rfl (.inr rfl) (ko (kd 41 kR rfl dT) (kw h9 (ko (kd 41 kR rfl dT) (ks (i:=d) rfl rfl (hM.ds.kb hS.kb) oO dO rH ?_)))))));refine ko (kd 41 kR rfl dT) (lU rfl (lG (hM.ds.kb hS.kb) (λ_=>rfl) dD dO) pm ?_);refine lA (kd 41 kR rfl dT) (lV (v:= .slice al (g.d d).legs.length cl) (i:=d) (off:=3) Ch rfl pD (hM.ds.kb hS.kb) (λ_=>rfl) dD oO rfl (by rw[<-hel];rfl) (.inr rfl) ?_);refine ko (kd 41 kR rfl dT) (kw h10 (ko (kd 41 kR rfl dT) (ks (i:=k) rfl rfl (hlg.kb hS.kb) oO dO nV ?_)));refine ko (kd 41 kR rfl dT) (lU rfl (lG (hlg.kb hS.kb) (λ_=>rfl) dD dO) qE ?_);refine lA (kd 41 kR rfl dT) (lV (v:= .int .i64 p.2) (i:=k) (off:=1) (0,0) rfl mR (hlg.kb hS.kb) (λ_=>rfl) dD hkl rfl (by rw[hpg];rfl) (.inr rfl) ?_);refine ko (kd 41 kR rfl dT) (kw h2 (ko (kd 41 kR rfl dT) (qO rfl rfl (jp (kH (vb rfl dT) rfl ?_)))));refine V4 ?_;exact⟨k+1,_,rfl,⟨hkl,Gi (P:=λk'=>g.lg d k'≠(e,c)) hno2 (by rw[<-hp];intro q;exact e2 (by rw[q])),jY,jY,jY,jY,vi rfl oO,hS⟩,oO⟩
     ·refine J1 ?_;refine jq (kP (k:=0) (v:= .slice aD g.ds.length cD) rfl qm hS rfl rfl rfl (.inr rfl) ?_);refine J1 ?_;refine jp (ks (i:=d) rfl rfl (hM.ds.kb hS.kb) oO dO rH ?_);refine jp (lU rfl (lG (hM.ds.kb hS.kb) (λ_=>rfl) dD dO) pm ?_);refine jq (lV (v:= .slice al (g.d d).legs.length cl) (i:=d) (off:=3) Ch rfl pD (hM.ds.kb hS.kb) (λ_=>rfl) dD oO rfl (by rw[<-hel];rfl) (.inr rfl) ?_);refine J1 ?_;refine jp (ks (i:=k) rfl rfl (hlg.kb hS.kb) oO dO nV ?_);refine jp (lU rfl (lG (hlg.kb hS.kb) (λ_=>rfl) dD dO) qh ?_);refine jq (lV (v:= .int .i64 p.1) (i:=k) (off:=0) (0,0) rfl mR (hlg.kb hS.kb) (λ_=>rfl) dD hkl rfl (by rw[hpg];rfl) (.inr rfl) ?_);refine J3 ?_;refine kS (kg 41 kR rfl dF) (kS (kg 41 kR rfl dF) (kS (kg 41 kR rfl dF) (kS (kg 41 kR rfl dF) (kS (kg 41 kR rfl dF) (kS (kg 41 kR rfl dF) (kS (kg 41 kR rfl dF) (kS (kg 41 kR rfl dF) (kS (kg 41 kR rfl dF) (kS (kg 41 kR rfl dF) (kS (kg 41 kR rfl dF) (kS (kg 41 kR rfl dF) (jp (kH (vb rfl dF) rfl ?_)))))))))))));refine ja ?_;refine lH rfl (rfl) ?_;refine V3 ?_;exact⟨k+1,_,rfl,⟨hkl,Gi (P:=λk'=>g.lg d k'≠(e,c)) hno2 (by rw[<-hp];intro q;exact e1 (by rw[q])),jY,jY,jY,jY,vi rfl oO,hS⟩,oO⟩
    ·refine J1 ?_;refine jt ?_;obtain rfl:k=(g.d d).legs.length:=oO;exact⟨_,rfl,hno2,h1,h2,h3,h9,hS⟩
   clear hS h1 h2 h3 h9;rintro ρ w5 ⟨hn2,h1,h2,h3,h9,hS⟩;refine V3 ?_;exact⟨d+1,_,rfl,⟨hlt,λd' k h hk=>Gi (P:=λd'=>∀k,k<mJ g d'->g.lg d' k≠(e,c)) (λd' h k hk=>hno d' k h hk) hn2 d' h k hk,jY,jY,jY,vi rfl oO,hS⟩,oO⟩
  ·refine J1 ?_;refine jt ?_;obtain rfl:d=g.ds.length:=oO;exact⟨_,rfl,hno,hS⟩
 clear hS;rintro ρ w3 ⟨hno,hS⟩;refine J3 ?_;refine jt ?_;refine xI rfl rfl rfl rfl ?_;exact⟨⟨0,0,false,rfl,λh=>(by cases h),λ_=>hno⟩,hS.kb⟩
def H3 (p:Nat×Nat):Value:= .agg #[.int .i64 p.1,.int .i64 p.2]
def WW (c:qn):Value:= .agg #[.int .i64 c.h,.int .i64 c.rk,.bool (ki c.q).neg,.string (ki c.q).num,.string (ki c.q).den]
theorem yZ (vE vD:Value) (g:nq) (ev:List (Value×Value)) (dv:List Value) (p:Nat×Nat) (w:World) (hM:EG w vE vD g ev dv) (h1:p.1<g.n) (h2:p.2<g.cn p.1):
  mb Tryz.prog 116 #[.agg #[vE,vD],H3 p] w λr w'=>r=WW (g.c p.1 p.2)/\Below w.heap.size w w':=by
 have hS:=St.init w;obtain⟨aE,cE,hvE,_⟩:=hM.es.form;obtain⟨aD,cD,hvD,_⟩:=hM.ds.form;rw[kj]at hvE hvD;subst hvE hvD;have hte:=kj g.n λi=>((g.e i).cash,ev.getD i rM);have hcl:=hM.cl p.1 h1;obtain⟨a1,c1,hv1,_⟩:=hcl.form;have hel:((kD g.n λi=>((g.e i).cash,ev.getD i rM)).getD p.1 nZ).2.1= .slice a1 (g.e p.1).cl.length c1:=by rw[kB _ _ h1];exact hv1
 rw[hv1]at hcl;refine enter Tryz.func116 rfl Tryz.ntmps116 rfl ?_;refine jr ?_;refine jh (lx (new:=[.slice aE g.n cE,.slice aD g.ds.length cD]) rfl rfl hS ?_);intro b2 wz1 hS hBz1;refine jh (lx (new:=nL p) rfl rfl hS ?_);intro b3 wz2 hS hBz2;refine J1 ?_;intro b4 wz3 hS hBz3;refine ja ?_;replace hS:St w _ [(b4,53,lz nK),(b3,66,nL p),(b2,29,[.slice aE g.n cE,.slice aD g.ds.length cD])]:=hS.cast (by unfold lz nK;rw[oD];rfl);refine ja ?_;refine kK [jo 0,ju 1,jo 2,ju 3,jo 4,jo 5,ju 6,jo 7,ju 8,jo 9,ju 10,jw 11] kR kR hS ?_;intro wz4 hS hBz4;refine J1 ?_;refine jm rfl (kP (k:=2) (v:= .slice aE g.n cE) rfl ng hS rfl rfl rfl (.inr rfl) ?_);refine J2 ?_;refine jl rfl (ks (i:=p.1) rfl rfl (hM.es.kb hS.kb) oO dO nW ?_);refine jl rfl (lU rfl (lG (hM.es.kb hS.kb) (λ_=>rfl) dD dO) mS ?_);refine jm rfl (lV (v:= .slice a1 (g.e p.1).cl.length c1) (i:=p.1) (off:=3) nZ rfl nY (hM.es.kb hS.kb) (λ_=>rfl) dD oO rfl (by rw[<-hel];rfl) (.inr rfl) ?_);refine J2 ?_;refine jl rfl (ks (i:=p.2) rfl rfl (hcl.kb hS.kb) oO h2 pG (jm rfl (kC (i:=p.2) nK rfl rO (hcl.kb hS.kb) h2 rfl rfl (.inl rfl) ?_)));refine J1 ?_;intro wz5 hS;refine jt ?_;refine mA (k:=0) rfl rfl rO hS rfl rfl ?_;exact⟨rfl,hS.kb⟩
theorem Jd {q:Rat} (h:0<=q):¬qW q<0:=λh2=>absurd (xd.1 h2) (gk.2 h)
structure Xb (q:Rat) (cl:List qn):Prop where
 q0:0<=q
 ql:L q<=MX
 n:cl.length<=24
 c:∀x∈cl,-1<=x.h/\x.h<8/\0<=x.rk/\x.rk<=7/\0<=x.q/\L x.q<=MX
theorem Dh (q:Rat) (vC:Value) (aA:Option Addr) (cA:Nat) (cl:List qn) (w:World) (hC:Sl lz 5 w vC cl) (hh:Xb q cl):
  mb Tryz.prog 72 #[Na q vC (.slice aA 0 cA)] w λr w'=>r= .int .i64 0/\Below w.heap.size w w':=by
 have hS:=St.init w;obtain⟨aC,cC,hvC,_⟩:=hC.form;subst hvC;have hn:=hh.n;have hsg:∀(p:Rat) (w:World),0<=p->L p<=MX->mb Tryz.prog 114 #[lC (ki p)] w λv w'=>(∃s:Int,v= .int .i64 s/\¬s<0)/\Below w.heap.size w w':=λp w h0 hl=>by
  have h:=CV (ki p) w (by rw[Lr_ofQ];exact hl);rw[toQ_ofQ]at h;exact h.mono λ_ _ ⟨h1,h2⟩=>⟨⟨_,h1,Jd h0⟩,h2⟩
 refine enter Tryz.func72 rfl Tryz.ntmps72 rfl ?_;refine jr ?_;refine jh (lx (new:=kI (q,.slice aC cl.length cC,.slice aA 0 cA)) rfl rfl hS ?_);intro b1 wz1 hS hBz1;refine V1 ?_;replace hS:St w _ [(b1,51,kI (q,.slice aC cl.length cC,.slice aA 0 cA))]:=hS;refine J1 ?_;refine jq (kP (k:=0) (v:= .slice aC cl.length cC) rfl nY hS rfl rfl rfl (.inr rfl) ?_);refine J3 ?_;refine ko (kd 11 kR rfl dF) (lD rfl zy (lA (kd 11 kR rfl dF) (kP (k:=0) (v:= .slice aA 0 cA) rfl u3 hS rfl rfl rfl (.inr rfl) (ko (kd 11 kR rfl dF) (oG rfl ⟨_,Tryz.underlying49⟩ (ko (kd 11 kR rfl dF) (sT rfl rfl (jp (kH (vb rfl dF) rfl ?_)))))))));refine J2 ?_;refine jq (kP (k:=0) (v:=lC (ki q)) rfl kt hS rfl rfl rfl (.inl rfl) (jh (kf Tryz.call114 rfl (hsg q _ hh.q0 hh.ql) ?_)));rintro r w2 ⟨⟨s,rfl,hs0⟩,hB2⟩;replace hS:=hS.kx hB2;refine V1 ?_;refine lH rfl (ae hs0) ?_;refine J1 ?_;refine jb ?_;refine kG (λρ w'=>ρ 1=pB b1/\St w w' [(b1,51,kI (q,.slice aC cl.length cC,.slice aA 0 cA))]) ?_ ?_
 ·refine ja ?_;refine kF (σ:=Nat) (λi ρ w'=>i<=cl.length/\ρ 1=pB b1/\ρ 3=iB i/\St w w' [(b1,51,kI (q,.slice aC cl.length cC,.slice aA 0 cA))]) (λi=>cl.length-i) 0
   ⟨aw _,rfl,rfl,hS⟩ ?_
  clear hS;rintro i ρ w3 ⟨hi,h1,h3,hS⟩;refine J2 ?_;refine jq (kP (k:=0) (v:= .slice aC cl.length cC) rfl nY hS rfl rfl rfl (.inr rfl) ?_);refine V2 ?_;by_cases hlt:i<cl.length
  ·refine V1 ?_;obtain⟨x,hx⟩:=jz (cl.getD i nK);obtain⟨x1,x2,x3,x4,x5,x6⟩:=hh.c x (by rw[hx];exact kO _ _ _ hlt);refine J1 ?_;refine jq (kP (k:=0) (v:= .slice aC cl.length cC) rfl nY hS rfl rfl rfl (.inr rfl) ?_);refine J1 ?_;refine jp (ks (i:=i) rfl rfl (hC.kb hS.kb) oO dO pG (jq (kC (i:=i) nK rfl rO (hC.kb hS.kb) dO rfl rfl (.inl rfl) ?_)));refine J1 ?_;intro b4 wz2 hS hBz2;refine J1 ?_;intro wz3 hS;refine ja ?_;rw[<-hx]at hS;replace hS:St w _ [(b4,53,lz x),(b1,51,kI (q,.slice aC cl.length cC,.slice aA 0 cA))]:=hS;refine J4 ?_;refine ko (kd 37 kR rfl dF) (lD rfl sK (lA (kd 37 kR rfl dF) (kP (k:=0) rfl mR hS rfl rfl rfl (.inr rfl) (ko (kd 37 kR rfl dF) (wA rfl rfl (jp (kH (vb rfl dF) rfl ?_)))))));refine J6 ?_;refine ko (kd 46 kR rfl dF) (lD rfl BA (lA (kd 46 kR rfl dF) (kP (k:=0) rfl mR hS rfl rfl rfl (.inr rfl) (ko (kd 46 kR rfl dF) (sT rfl rfl (jp (kH (vb rfl dF) rfl ?_)))))));refine J3 ?_;refine jq (kP (k:=0) (v:=lC (ki x.q)) rfl kt hS rfl rfl rfl (.inl rfl) (jh (kf Tryz.call114 rfl (hsg x.q _ x5 x6) ?_)));rintro r w4 ⟨⟨s2,rfl,hs2⟩,hB4⟩;replace hS:=hS.kx hB4;refine V2 ?_;refine lH rfl (ae hs2) ?_;refine V3 ?_;exact⟨i+1,_,rfl,⟨hlt,jY,vi rfl oO,hS.drop (ab _ _)⟩,oO⟩
  ·refine J1 ?_;refine jt ?_;exact⟨_,rfl,h1,hS⟩
 clear hS;rintro ρ w3 ⟨h1,hS⟩;refine J1 ?_;refine jb ?_;refine kG (λρ w'=>St w w' [(b1,51,kI (q,.slice aC cl.length cC,.slice aA 0 cA))]) ?_ ?_
 ·refine ja ?_;refine kF (σ:=Nat) (λi ρ w'=>ρ 1=pB b1/\ρ 5=iB 0/\St w w' [(b1,51,kI (q,.slice aC cl.length cC,.slice aA 0 cA))]) (λi=>i) 0 ⟨jY,rfl,hS⟩ ?_;clear hS h1;rintro i ρ w4 ⟨h1,h5,hS⟩;refine J2 ?_;refine jq (kP (k:=0) (v:= .slice aA 0 cA) rfl u3 hS rfl rfl rfl (.inr rfl) ?_);refine J3 ?_;refine jt ?_;exact⟨_,rfl,hS⟩
 clear hS h1;rintro ρ w4 hS;refine J1 ?_;refine jt ?_;refine kJ rfl rfl ?_;exact⟨rfl,hS.kb⟩
end Go.Proofs.YtoeiejliehgopaaGreatDoor
