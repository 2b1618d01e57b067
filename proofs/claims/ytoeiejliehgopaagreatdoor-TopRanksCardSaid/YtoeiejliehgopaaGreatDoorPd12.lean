import Derived.Test.YtoeiejliehgopaaGreatDoorPd11
set_option maxRecDepth 20000
set_option maxHeartbeats 8000000
namespace Go.Proofs.YtoeiejliehgopaaGreatDoor
open Go Go.RowKit Go.Sx
def z4:Nat->Nat:=λ_=>0
def gw (cash:List Nat) (i:Nat):Rat:=if i<cash.length then gy (cash.getD i 0)else 0
def NN (size:Nat) (c:Nat->Nat):iH:=⟨if c 1% (size+1)=c 0%size\/size<=c 1% (size+1)then-1 else((c 1% (size+1):Nat):Int),((c 2%3:Nat):Int),gy (c 3)⟩
def rU (size:Nat) (L:List (Nat->Nat)):Nat->Nat->List iH
 |0,_=>[]
 |j+1,i=>if(L.getD j z4) 0%size=i/\(rU size L j i).length<6 then rU size L j i++[NN size (L.getD j z4)]else rU size L j i
def nY (size:Nat) (n:Nat->Nat) (Q:List (Nat->Nat)):Nat->Nat->List (List (List fG))
 |0,_=>[]
 |j+1,i=>if(Q.getD j z4) 0%size=i/\(nY size n Q j i).length<2 then nY size n Q j i++[pA (nY size n Q j i) (n i) (Q.getD j z4)]else nY size n Q j i
def Bc (size:Nat) (cl:Nat->List iH) (D:List (Nat->Nat)):Nat->List lK
 |0=>[]
 |j+1=>if(Bc size cl D j).length<3 then Bc size cl D j++[⟨gy ((D.getD j z4) 2),Mb (Bc size cl D j) (D.getD j z4) cl size⟩]else Bc size cl D j
theorem re (size:Nat) (L:List (Nat->Nat)):∀j i,(rU size L j i).length<=6
 |0,_=>Nat.zero_le _
 |j+1,i=>by
  have:=re size L j i;unfold rU;split
  ·rename_i h;rw[List.length_append];show _+1<=_;omega
  ·exact this
theorem EJ (size:Nat) (n:Nat->Nat) (Q:List (Nat->Nat)):∀j i,(nY size n Q j i).length<=2
 |0,_=>Nat.zero_le _
 |j+1,i=>by
  have:=EJ size n Q j i;unfold nY;split
  ·rename_i h;rw[List.length_append];show _+1<=_;omega
  ·exact this
theorem F2 (size:Nat) (cl:Nat->List iH) (D:List (Nat->Nat)):∀j,(Bc size cl D j).length<=3
 |0=>Nat.zero_le _
 |j+1=>by
  have:=F2 size cl D j;unfold Bc;split
  ·rename_i h;rw[List.length_append];show _+1<=_;omega
  ·exact this
theorem Oq:([.bool false,.string ⟨#[]⟩,.string ⟨#[]⟩,aw,aw]:List Value)=bl (0,aw,aw):=by
 show _=ae (aj 0)++_;rw[gm];rfl
theorem Hd {A E R new:List Value} {off:Nat} (h:off+new.length<=E.length):splice (A++(E++R)) (A.length+off) new=A++(splice E off new++R):=by
 unfold splice;rw[List.take_append,List.take_of_length_le oO,Nat.add_sub_cancel_left,List.take_append_of_le_length oO,List.append_assoc,List.append_assoc];congr 1;rw[List.append_assoc,List.append_assoc];congr 2;rw[List.drop_append,List.drop_of_length_le oO,List.nil_append,show A.length+off+new.length-A.length=off+new.length by omega,List.drop_append_of_le_length h]
theorem pf (i j:Int) (r:RR):Tryz.prog.built 53 [(0,.int .i64 i),(1,.int .i64 j),(2,cw r)]=some #[.int .i64 i,.int .i64 j,.bool r.neg,.string r.num,.string r.den]:=by kernel_rfl
theorem pV (xs:List iH):∀u∈xs.flatMap dg,u.oneCell'=true:=by
 intro u hu;rw[List.mem_flatMap]at hu;obtain⟨x,_,h⟩:=hu;simp only[dg,ae,List.mem_cons,List.not_mem_nil,or_false]at h;rcases h with rfl|rfl|rfl|rfl|rfl<;>rfl
theorem Eu (q:Rat):∀u∈[(q,aw,aw)].flatMap bl,u.oneCell'=true:=by
 intro u hu;rw[List.flatMap_singleton]at hu;simp only[bl,ae,List.cons_append,List.nil_append,List.mem_cons,List.not_mem_nil,or_false]at hu;rcases hu with rfl|rfl|rfl|rfl|rfl<;>rfl
section
variable {P : Program} {N : Nat} {ρ : Nat → Value} {w0 w : World} {H : List bQ} {d : Option Tmp} {ty : TypeId} {pos : String} {aft : Array Edge} {g : Option (Nat × Bool)} {x y : Operand} {K2 : Value → World → Prop} {b o k : Nat} {t t' : TypeId} {v : Value}
theorem yP {α:Type} {enc:α->List Value} {size:Nat} {L:List α} {sp new:List Value} {i off n:Nat} {zz:List Value} {agg:Bool} (dd u:α) (hu:∀x,(enc x).length=size) (hx:ev N ρ x= .pointer (some ⟨b,o,none⟩)) (hy:ev N ρ y=v) (ht:da P t=some (n,agg,zz)) (hS:St w0 w H) (hk:H[k]?=some (b,t',L.flatMap enc++sp))
  (ho:o=i*size+off) (hi:i<L.length) (hv:v.cells.toList=new) (hn:new.length=n) (hf:off+n<=size) (he:enc u=splice (enc (L.getD i dd)) off new) (h1:new.all (·.oneCell')=true)
  (h:∀w',St w0 w' (H.set k (b,t',(L.set i u).flatMap enc++sp))->K2 undef w'):gZ P N ρ w ⟨d,.store t x y,ty,pos,aft,g⟩ K2:=by
 subst ho;have hle:(i+1)*size<=L.length*size:=Nat.mul_le_mul_right _ hi;rw[Nat.add_mul]at hle;refine cO hx hy ht hS hk hv hn ?_ h1 (λw' hS'=>h w' ?_)
 ·rw[List.length_append,cQ hu];omega
 ·have e:splice (L.flatMap enc++sp) (i*size+off) new=(L.set i u).flatMap enc++sp:=by
   have hA:((L.take i).flatMap enc).length=i*size:=by rw[cQ hu,List.length_take,Nat.min_eq_left oO]
   rw[wu enc L dd hi,Kt enc L u hi,he,List.append_assoc,List.append_assoc,<-hA,Hd (by rw[hu];omega)];simp only[List.append_assoc]
  rw[e]at hS';exact hS'
end
structure C7 (D:List bQ) (v:Value) (A:List (List (List fG))) (av:List Value) (pv:List (List Value)):Prop where
 g:∀wz wx,St wz wx D->ER wx v A av pv
theorem C7.mono {D D':List bQ} {v:Value} {A:List (List (List fG))} {av:List Value} {pv:List (List Value)} (h:C7 D v A av pv) (hs:D.Sublist D'):C7 D' v A av pv:=⟨λwz wx hS=>h.g wz wx (hS.drop hs)⟩
structure QQ (n:Nat) (q:Nat->Rat) (cl:Nat->List iH) (vE:Value) (ev:Nat->Value×Value) (LE:List bQ) (LC:List (List bQ)):Prop where
 e:Gl bl 51 5 vE (aS n λi=>(q i,ev i)) LE
 c:dw dg 53 5 (aS n λi=>(ev i).1) (aS n cl) LC
 a:∀i,i<n->∃a l c,(ev i).2= .slice a l c
theorem QQ.RU {n:Nat} {q:Nat->Rat} {cl:Nat->List iH} {vE:Value} {ev:Nat->Value×Value} {LE:List bQ} {LC:List (List bQ)} (h:QQ n q cl vE ev LE LC) {w0 w:World} (hS:St w0 w (LE++LC.flatten)):QM w vE n q ev cl:=by
 refine⟨h.e.sl (H:=[]) (hS.drop (List.sublist_append_left _ _)) fu,λi hi=> ?_⟩;have:=h.c.row (P:=LE) hS gz (i:=i) (by rw[ao];exact hi);rw[aV _ _ hi,aV _ _ hi]at this;exact this
structure OK (D:List bQ) (v:Value) (ds:List lK) (dv:List Value):Prop where
 len:dv.length=ds.length
 g:∀wz wx,St wz wx D->Nm wx v ds dv
structure P3 (n:Nat) (q:Nat->Rat) (cl:Nat->List iH) (A:Nat->List (List (List fG))) (ds:List lK) (vE vD:Value) (ev:Nat->Value×Value) (av:Nat->List Value) (pv:Nat->List (List Value)) (dv:List Value) (LE:List bQ) (LC:List (List bQ)) (DA:List bQ):Prop where
 e:QQ n q cl vE ev LE LC
 a:∀i,i<n->C7 DA (ev i).2 (A i) (av i) (pv i)
 d:OK DA vD ds dv
theorem PM (n:Nat) (L:List (Nat->Nat)):dw dg 53 5 (aS n λ_=>aw) (aS n (rU n L 0)) (aS n λ_=>[]):=by
 refine⟨by rw[ao,ao],by rw[ao,ao],λi hi=> ?_⟩;rw[ao]at hi;rw[aV _ _ hi,aV _ _ hi,aV _ _ hi];exact Gl.nil _ _ _
theorem Jo {β:Type} (n:Nat):(aS n λ_=>([]:List β)).flatten=[]:=by
 rw[List.flatten_eq_nil_iff];intro l hl;obtain⟨_,_,rfl⟩:=lR hl;rfl
theorem C7.snoc {D D2 LO:List bQ} {v v' x:Value} {A:List (List (List fG))} {X:List (List fG)} {av:List Value} {pv:List (List Value)} {vs:List Value} (h:C7 D v A av pv) (hl:av.length=A.length) (hp:pv.length=A.length) (hG:Gl lj 82 1 v' (av++[x]) LO) (hM:∀wz wx,St wz wx D2->kj eO 5 wx x X vs):C7 ((LO++D2)++D) v' (A++[X]) (av++[x]) (pv++[vs]):=by
 refine⟨λwz wx hS=>⟨by rw[List.length_append,List.length_append,hl];rfl,hG.sl (H:=[]) (hS.drop ((List.sublist_append_left LO D2).trans (List.sublist_append_left _ D))) (λ_=>rfl),λk hk=> ?_⟩⟩;have h1:=h.g wz wx (hS.drop (List.sublist_append_right _ D));rw[List.length_append]at hk;rw[dP,dP,dP,hl,hp];by_cases e:k<A.length
 ·rw[if_pos e,if_pos e,if_pos e];exact h1.m k e
 ·obtain rfl:k=A.length:=by have: [X].length=1:=rfl;omega
  rw[if_neg e,if_neg e,if_neg e,if_pos rfl,if_pos rfl,if_pos rfl];exact hM wz wx (hS.drop ((List.sublist_append_right LO D2).trans (List.sublist_append_left _ D)))
theorem OK.snoc {D D2 LO:List bQ} {v v' x:Value} {ds:List lK} {dv:List Value} {W:Rat} {l:List (Nat×Nat)} (h:OK D v ds dv) (hG:Gl df 64 4 v' ((aS ds.length λk=>((ds.getD k mP).W,dv.getD k undef))++[(W,x)]) LO) (hM:∀wz wx,St wz wx D2->Sl fA 2 wx x l):OK ((LO++D2)++D) v' (ds++[⟨W,l⟩]) (dv++[x]):=by
 have e:((aS ds.length λk=>((ds.getD k mP).W,dv.getD k undef))++[(W,x)])=aS (ds++[(⟨W,l⟩:lK)]).length λk=>(((ds++[(⟨W,l⟩:lK)]).getD k mP).W,(dv++[x]).getD k undef):=by
  rw[List.length_append,show [(⟨W,l⟩:lK)].length=1 from rfl,gU,dP,dP,h.len,if_neg (Nat.lt_irrefl _),if_neg (Nat.lt_irrefl _),if_pos rfl,if_pos rfl];congr 1;refine bA λk hk=> ?_;rw[dP,dP,h.len,if_pos hk,if_pos hk]
 rw[e]at hG;refine⟨by rw[List.length_append,List.length_append,h.len];rfl,λwz wx hS=>⟨hG.sl (H:=[]) (hS.drop ((List.sublist_append_left LO D2).trans (List.sublist_append_left _ D))) iX,λk hk=> ?_⟩⟩;have h1:=h.g wz wx (hS.drop (List.sublist_append_right _ D));rw[List.length_append]at hk;rw[dP,dP,h.len];by_cases e:k<ds.length
 ·rw[if_pos e,if_pos e];exact h1.lg k e
 ·obtain rfl:k=ds.length:=by have: [(⟨W,l⟩:lK)].length=1:=rfl;omega
  rw[if_neg e,if_neg e,if_pos rfl,if_pos rfl];exact hM wz wx (hS.drop ((List.sublist_append_right LO D2).trans (List.sublist_append_left _ D)))
theorem p7 {w wx:World} {m j i bE:Nat} {cash:List Nat} {sp:List Value} {ev:Nat->Value×Value} {LC:List (List bQ)} {L:List (Nat->Nat)} {C:List iH} {x:iH} {v:Value} {LN P:List bQ} (hev:∀i,(ev i).2=aw)
  (hR:dw dg 53 5 (aS m λi=>(ev i).1) (aS m (rU m L j)) LC) (him:i<m) (hcl:rU m L (j+1)=λk=>if k=i then C++[x]else rU m L j k) (hG:Gl dg 53 5 v (C++[x]) LN)
  (hS:St w wx ((P++([(bE,51,((aS m λk=>(gw cash k,ev k)).set i (gw cash i,v,(ev i).2)).flatMap bl++sp)]::LC.set i []).flatten)++LN)):
  ∃(ev':Nat->Value×Value) (LC':List (List bQ)),(∀i,(ev' i).2=aw)/\dw dg 53 5 (aS m λi=>(ev' i).1) (aS m (rU m L (j+1))) LC'/\St w wx (P++([(bE,51,(aS m λk=>(gw cash k,ev' k)).flatMap bl++sp)]::LC').flatten):=by
 have hlc:=hR.ln;rw[ao]at hlc;have hst:(aS m λk=>(gw cash k,ev k)).set i (gw cash i,v,(ev i).2)=aS m λk=>(gw cash k,if k=i then(v,(ev i).2)else ev k):=by
  rw[eP];refine bA λk _=> ?_;by_cases e:k=i
  ·rw[if_pos e,if_pos e,e]
  ·rw[if_neg e,if_neg e]
 rw[hst]at hS;have hS9:=eW (P:=P) (Ls:=[(bE,51,(aS m λk=>(gw cash k,if k=i then(v,(ev i).2)else ev k)).flatMap bl++sp)]::LC) (k:=i+1) hS (by rw[List.length_cons];omega);have hR2:=hR.Ax (i:=i) (by rw[ao];exact him) hG;rw[eP,eP]at hR2;refine⟨λk=>if k=i then(v,(ev i).2)else ev k,LC.set i LN,λk=> ?_,?_,hS9⟩
 ·show(if k=i then(v,(ev i).2)else ev k).2=aw;split
  ·exact hev i
  ·exact hev k
 ·rw[hcl];have e1:(aS m λk=>(if k=i then(v,(ev i).2)else ev k).1)=aS m λk=>if k=i then v else(ev k).1:=bA λk _=>by split<;>rfl
  rw[e1];exact hR2
theorem L7 {w wx:World} {m j i bE:Nat} {cash:List Nat} {sp:List Value} {nC:Nat->Nat} {cl:Nat->List iH} {ev:Nat->Value×Value} {DA D2 LO P:List bQ} {LC:List (List bQ)} {Q:List (Nat->Nat)} {av:Nat->List Value} {pv:Nat->List (List Value)} {X:List (List fG)} {v x:Value} {vs:List Value}
  (hPA:∀i,i<m->(av i).length=(nY m nC Q j i).length/\(pv i).length=(nY m nC Q j i).length/\C7 DA (ev i).2 (nY m nC Q j i) (av i) (pv i)) (hR:dw dg 53 5 (aS m λi=>(ev i).1) (aS m cl) LC) (him:i<m)
  (hag:∀k,nY m nC Q (j+1) k=if k=i then nY m nC Q j i++[X]else nY m nC Q j k) (hG:Gl lj 82 1 v (av i++[x]) LO) (hM:∀wz wx,St wz wx D2->kj eO 5 wx x X vs)
  (hS:St w wx ((P++([(bE,51,((aS m λk=>(gw cash k,ev k)).set i (gw cash i,(ev i).1,v)).flatMap bl++sp)]::DA::LC).flatten)++(LO++D2))):
  ∃(ev':Nat->Value×Value) (DA':List bQ) (av':Nat->List Value) (pv':Nat->List (List Value)),(∀i,i<m->(av' i).length=(nY m nC Q (j+1) i).length/\(pv' i).length=(nY m nC Q (j+1) i).length/\C7 DA' (ev' i).2 (nY m nC Q (j+1) i) (av' i) (pv' i))/\dw dg 53 5 (aS m λi=>(ev' i).1) (aS m cl) LC/\
   St w wx (P++([(bE,51,(aS m λk=>(gw cash k,ev' k)).flatMap bl++sp)]::DA'::LC).flatten):=by
 have hst:(aS m λk=>(gw cash k,ev k)).set i (gw cash i,(ev i).1,v)=aS m λk=>(gw cash k,if k=i then((ev i).1,v)else ev k):=by
  rw[eP];refine bA λk _=> ?_;by_cases e:k=i
  ·rw[if_pos e,if_pos e,e]
  ·rw[if_neg e,if_neg e]
 rw[hst]at hS;have hS9:=lW (P:=P) (Ls:=[(bE,51,(aS m λk=>(gw cash k,if k=i then((ev i).1,v)else ev k)).flatMap bl++sp)]::DA::LC) (k:=1) (A:=LO++D2) (hS.perm List.perm_append_comm) rfl (List.Perm.refl _);refine⟨λk=>if k=i then((ev i).1,v)else ev k,(LO++D2)++DA,λk=>if k=i then av i++[x]else av k,λk=>if k=i then pv i++[vs]else pv k,λk hk=> ?_,?_,hS9⟩
 ·obtain⟨l1,l2,hP⟩:=hPA k hk;rw[hag];by_cases e:k=i
  ·subst e;simp only[if_true];exact⟨by rw[List.length_append,List.length_append,l1];rfl,by rw[List.length_append,List.length_append,l2];rfl,hP.snoc l1 l2 hG hM⟩
  ·simp only[if_neg e];exact⟨l1,l2,hP.mono (List.sublist_append_right _ _)⟩
 ·have e1:(aS m λk=>(if k=i then((ev i).1,v)else ev k).1)=aS m λk=>(ev k).1:=bA λk _=>by
   split
   ·rename_i e;rw[e]
   ·rfl
  rw[e1];exact hR
theorem IM (n:Nat) (vC vL vQ vD:Value) (cash:List Nat) (L Q D:List (Nat->Nat)) (w:World) (hC:Sl (uk .u16) 1 w vC cash) (hL:Sl ss 4 w vL L) (hQ:Sl gP 3 w vQ Q) (hD:Sl gP 3 w vD D)
  (hc:∀x∈cash,x<65536) (hl:∀x∈L,∀i,i<4->x i<65536) (hq:∀x∈Q,∀i,i<3->x i<65536) (hd:∀x∈D,∀i,i<3->x i<65536):
  dj Tryz.prog 7 #[.int .u8 n,vC,vL,vQ,vD] w λr w'=>∃(vE vY:Value) (ev:Nat->Value×Value) (av:Nat->List Value) (pv:Nat->List (List Value)) (dv:List Value) (LE DA:List bQ) (LC:List (List bQ)),r= .agg #[vE,vY]/\P3 (1+n%4) (gw cash) (rU (1+n%4) L L.length) (nY (1+n%4) (λi=>(rU (1+n%4) L L.length i).length) Q Q.length) (Bc (1+n%4) (rU (1+n%4) L L.length) D D.length) vE vY ev av pv dv LE LC DA/\St w w' ((LE++LC.flatten)++DA):=by
 have hcm:=hC.maxLen;have hlm:=hL.maxLen;have hqm:=hQ.maxLen;have hdm:=hD.maxLen;have hS:=St.init w;have h4:n%4<4:=Nat.mod_lt _ dD;obtain⟨m,hm⟩:=jz (1+n%4);refine enter Tryz.func7 rfl Tryz.ntmps7 rfl ?_;refine J1 ?_;intro br wz1 hS hBz1;refine jr ?_;refine jp (bR rfl Pw ?_);refine J1 ?_;intro bg wz2 hS hBz2;refine J1 ?_;intro wz3 hS;refine ja ?_;replace hS:St w _ ([(bg,29,[aw,aw]),(br,29,[aw,aw])]++[]):=hS;refine J1 ?_;refine jp (iJ rfl rfl oO (r:=((n%4:Nat):Int)) (by exact gH _ 4) ?_);refine J1 ?_;refine jp (ia rfl rfl (r:=((m:Nat):Int)) (by exact iR _ ⟨oO,oO,oO⟩) ?_);refine J2 ?_;refine jb ?_;refine aW (λρ w'=>(ρ 2=vL/\ρ 3=vQ/\ρ 4=vD/\ρ 10=pB br/\ρ 11=pB bg/\ρ 12=iB m)/\∃vE LE,Gl bl 51 5 vE (aS m λk=>(gw cash k,aw,aw)) LE/\St w w' ([(bg,29,[vE,aw]),(br,29,[aw,aw])]++LE)) ?_ ?_
 ·refine ja ?_;refine aQ (σ:=Nat) (λi ρ w'=>i<=m/\ρ 1=vC/\(ρ 2=vL/\ρ 3=vQ/\ρ 4=vD/\ρ 10=pB br/\ρ 11=pB bg/\ρ 12=iB m)/\ρ 13=iB i/\∃vE LE,Gl bl 51 5 vE (aS i λk=>(gw cash k,aw,aw)) LE/\St w w' ([(bg,29,[vE,aw]),(br,29,[aw,aw])]++LE)) (λi=>m-i) 0
   ⟨Nat.zero_le _,rfl,⟨rfl,rfl,rfl,rfl,rfl,rfl⟩,rfl,aw,[],Gl.nil _ _ _,hS⟩ ?_
  clear hS;rintro i ρ w3 ⟨hi,h1,⟨h2,h3,h4,h10,h11,h12⟩,h13,vE,LE,hG,hS⟩;have htl:=ao i λk=>(gw cash k,aw,aw);refine V3 ?_;by_cases hlt:i<m
  ·refine Y1 ?_;refine jp (bR rfl PX ?_);refine J1 ?_;intro be wz4 hS hBz4;refine J1 ?_;intro wz5 hS;refine ja ?_;replace hS:St w _ ([(be,51,bl (0,aw,aw)),(bg,29,[vE,aw]),(br,29,[aw,aw])]++LE):=hS.cast (by rw[<-Oq];rfl);refine J2 ?_;refine jp (aF rfl (hC.ab hS.ab) ⟨_,Tryz.underlying22⟩ ?_);refine J1 ?_;refine jb ?_;refine aW (λρ w'=>ρ 1=vC/\(ρ 2=vL/\ρ 3=vQ/\ρ 4=vD/\ρ 10=pB br/\ρ 11=pB bg/\ρ 12=iB m)/\ρ 13=iB i/\ρ 14=pB be/\St w w' ([(be,51,bl ((gw cash i),aw,aw)),(bg,29,[vE,aw]),(br,29,[aw,aw])]++LE)) ?_ ?_
   ·refine ja ?_;by_cases hic:i<cash.length
    ·refine V1 ?_;have hx:=hc _ (bC cash i 0 hic);refine J2 ?_;refine jp (aH (i:=i) rfl rfl (hC.ab hS.ab) oO dO PT (jq (aO (i:=i) 0 rfl io (hC.ab hS.ab) dO rfl rfl (.inr rfl) (jh (ah Tryz.call20 rfl (pY (cash.getD i 0) _ hx) ?_)))));rintro r w5 ⟨rfl,hB5⟩;replace hS:=hS.aG hB5;refine J2 ?_;intro wz6 hS;refine ja ?_;refine⟨_,rfl,jY,⟨jY,jY,jY,jY,jY,jY⟩,jY,rfl,?_⟩;rw[show gw cash i=gy (cash.getD i 0)from if_pos hic];exact hS
    ·refine V1 ?_;refine⟨_,rfl,jY,⟨jY,jY,jY,jY,jY,jY⟩,jY,rfl,?_⟩;rw[show gw cash i=0 from if_neg hic];exact hS
   clear hS h1 h2 h3 h4 h10 h11 h12 h13;rintro ρ w5 ⟨h1,⟨h2,h3,h4,h10,h11,h12⟩,h13,h14,hS⟩;obtain⟨aE,cE,hvE⟩:=hG.len;subst hvE;refine J3 ?_;refine jh (dI (vs:=[_]) rfl iL rfl dD dD dD (by simp[Value.cells,fu]) rfl hS ?_);intro b7 wz8 hS hBz8;refine jh (dK [(gw cash i,aw,aw)] rfl rfl iL dD hG hS rfl rfl fu (Eu _) dL dL ?_);intro va9 La9 wa9 hG hS hga9;obtain⟨aN,cN,hvN⟩:=hG.len;subst hvN;obtain⟨LN,hLN⟩:∃L,L=La9:=⟨_,rfl⟩;rw[<-hLN]at hG hS;refine J1 ?_;refine jh (gl (k:=1) rfl rfl jB hS rfl (by simp) rfl ?_);intro wz10 hS;refine ja ?_;rw[<-gU i λk=>(gw cash k,aw,aw)]at hG hS;have hS9:St w _ ([(bg,29,[(.slice aN (aS (i+1) λk=>(gw cash k,aw,aw)).length cN),aw]),(br,29,[aw,aw])]++LN):=hS.drop (List.sublist_cons_self _ _);refine V3 ?_;exact⟨i+1,_,rfl,⟨hlt,jY,⟨jY,jY,jY,jY,jY,jY⟩,vi rfl oO,_,LN,hG,hS9⟩,oO⟩
  ·refine J1 ?_;refine jt ?_;obtain rfl:i=m:=oO;exact⟨_,rfl,⟨h2,h3,h4,h10,h11,h12⟩,vE,LE,hG,hS⟩
 clear hS;rintro ρ w3 ⟨⟨h2,h3,h4,h10,h11,h12⟩,vE,LE,hG,hS⟩;obtain⟨hX,⟨_,h0,_⟩|⟨bE,cE,sp,hv,hLE,k1,k2,k3⟩⟩:=hG
 ·rw[ao]at h0;omega
 rw[ao]at hv k1;rw[List.length_append,cQ fu,ao]at k3;subst hv hLE;obtain⟨vE,hvE⟩:=jz (Value.slice (some ⟨bE,0,none⟩) m cE);have hGE:∀ev:Nat->Value×Value,Gl bl 51 5 (Value.slice (some ⟨bE,0,none⟩) m cE) (aS m λi=>(gw cash i,ev i)) [(bE,51,(aS m λi=>(gw cash i,(ev) i)).flatMap bl++sp)]:=λev=>
  ⟨by rw[cQ fu],.inr ⟨bE,cE,sp,by rw[ao],rfl,by rw[ao];exact k1,k2,by rw[List.length_append,cQ fu,ao];exact k3⟩⟩
 have hEs:∀(wx:World) (ev:Nat->Value×Value) (H:List bQ),St w wx H->(bE,51,(aS m λi=>(gw cash i,(ev) i)).flatMap bl++sp)∈H->Sl bl 5 wx (Value.slice (some ⟨bE,0,none⟩) m cE) (aS m λi=>(gw cash i,ev i)):=λwx ev H h hm=>(hGE ev).sl (H:=[]) (h.drop (List.singleton_sublist.2 hm)) fu;replace hS:St w w3 ([(bg,29,[(Value.slice (some ⟨bE,0,none⟩) m cE),aw]),(br,29,[aw,aw])]++([(bE,51,(aS m λi=>(gw cash i,(λ_=>(aw,aw)) i)).flatMap bl++sp)]::aS m λ_=>[]).flatten):=by
  rw[List.flatten_cons,Jo];exact hS
 refine J1 ?_;refine jp (aF rfl (hL.ab hS.ab) ⟨_,Tryz.underlying23⟩ ?_);refine J1 ?_;refine jb ?_;refine aW (λρ w'=>(ρ 2=vL/\ρ 3=vQ/\ρ 4=vD/\ρ 10=pB br/\ρ 11=pB bg/\ρ 12=iB m)/\∃(ev:Nat->Value×Value) (LC:List (List bQ)),(∀i,(ev i).2=aw)/\dw dg 53 5 (aS m λi=>(ev i).1) (aS m (rU m L L.length)) LC/\St w w' ([(bg,29,[(Value.slice (some ⟨bE,0,none⟩) m cE),aw]),(br,29,[aw,aw])]++([(bE,51,(aS m λi=>(gw cash i,(ev) i)).flatMap bl++sp)]::LC).flatten)) ?_ ?_
 ·refine ja ?_;refine aQ (σ:=Nat) (λj ρ w'=>j<=L.length/\(ρ 2=vL/\ρ 3=vQ/\ρ 4=vD/\ρ 10=pB br/\ρ 11=pB bg/\ρ 12=iB m)/\ρ 51=vL/\ρ 52=iB L.length/\ρ 53=iB j/\∃(ev:Nat->Value×Value) (LC:List (List bQ)),(∀i,(ev i).2=aw)/\dw dg 53 5 (aS m λi=>(ev i).1) (aS m (rU m L j)) LC/\St w w' ([(bg,29,[(Value.slice (some ⟨bE,0,none⟩) m cE),aw]),(br,29,[aw,aw])]++([(bE,51,(aS m λi=>(gw cash i,(ev) i)).flatMap bl++sp)]::LC).flatten)) (λj=>L.length-j) 0
   ⟨Nat.zero_le _,⟨h2,h3,h4,h10,h11,h12⟩,rfl,rfl,rfl,_,_,(λ_=>rfl),PM m L,hS⟩ ?_
  clear hS h2 h3 h4 h10 h11 h12;rintro j ρ w4 ⟨hj,⟨h2,h3,h4,h10,h11,h12⟩,h51,h52,h53,ev,LC,hev,hR,hS⟩;refine V1 ?_;by_cases hlt:j<L.length
  ·refine J1 ?_;refine jb ?_;obtain⟨c,hcd⟩:=jz (L.getD j z4);have hcx:=hl c (by rw[hcd];exact bC _ _ _ hlt);have hc0:=hcx 0 dD;have hc1:=hcx 1 dD;have hc2:=hcx 2 dD;have hc3:=hcx 3 dD;obtain⟨i,hi⟩:=jz (c 0%m);have him:i<m:=by rw[hi];exact Nat.mod_lt _ oO
   refine aW (λρ w'=>(ρ 2=vL/\ρ 3=vQ/\ρ 4=vD/\ρ 10=pB br/\ρ 11=pB bg/\ρ 12=iB m)/\ρ 51=vL/\ρ 52=iB L.length/\ρ 53=iB j/\∃(ev:Nat->Value×Value) (LC:List (List bQ)),(∀i,(ev i).2=aw)/\dw dg 53 5 (aS m λi=>(ev i).1) (aS m (rU m L (j+1))) LC/\St w w' ([(bg,29,[(Value.slice (some ⟨bE,0,none⟩) m cE),aw]),(br,29,[aw,aw])]++([(bE,51,(aS m λi=>(gw cash i,(ev) i)).flatMap bl++sp)]::LC).flatten)) ?_ ?_
   ·refine jr ?_;refine jp (aH (i:=j) h51 h53 (hL.ab hS.ab) oO dO PH (jq (aO (i:=j) z4 rfl qZ (hL.ab hS.ab) dO rfl rfl (.inl rfl) ?_)));refine J1 ?_;intro bc wz11 hS hBz11;refine J1 ?_;intro wz12 hS;refine ja ?_;rw[<-hcd]at hS;replace hS:St w _ ([(bc,69,ss c),(bg,29,[(Value.slice (some ⟨bE,0,none⟩) m cE),aw]),(br,29,[aw,aw])]++([(bE,51,(aS m λi=>(gw cash i,(ev) i)).flatMap bl++sp)]::LC).flatten):=hS;have hdr:([(bg,29,[(Value.slice (some ⟨bE,0,none⟩) m cE),aw]),(br,29,[aw,aw])]++([(bE,51,(aS m λi=>(gw cash i,(ev) i)).flatMap bl++sp)]::LC).flatten).Sublist ([(bc,69,ss c),(bg,29,[(Value.slice (some ⟨bE,0,none⟩) m cE),aw]),(br,29,[aw,aw])]++([(bE,51,(aS m λi=>(gw cash i,(ev) i)).flatMap bl++sp)]::LC).flatten):=List.sublist_cons_self _ _;have hGi:=hR.g i (by rw[ao];exact him);rw[aV _ _ him,aV _ _ him]at hGi;obtain⟨a1,c1,hv1⟩:=hGi.len;have h6:=re m L j i;obtain⟨C,hC⟩:=jz (rU m L j i);rw[<-hC]at hGi hv1 h6;have hel1:((aS m λi=>(gw cash i,ev i)).getD i iu).2.1=Value.slice a1 C.length c1:=by rw[aV _ _ him];exact hv1
    have hmem:(bE,51,(aS m λi=>(gw cash i,(ev) i)).flatMap bl++sp)∈([(bc,69,ss c),(bg,29,[(Value.slice (some ⟨bE,0,none⟩) m cE),aw]),(br,29,[aw,aw])]++([(bE,51,(aS m λi=>(gw cash i,(ev) i)).flatMap bl++sp)]::LC).flatten):=by simp
    have hte:=ao m λi=>(gw cash i,ev i);refine jr ?_;refine jp (nb (n:=4) (i:=0) rfl rfl rfl dD Tryz.underlying69 io ?_);refine J3 ?_;refine jp (iJ rfl rfl oO (r:=((i:Nat):Int)) (by rw[hi];exact gH _ m) ?_);refine J4 ?_;refine jp (aH (i:=i) rfl rfl (hEs _ ev _ hS hmem) oO dO iL ?_);refine jp (fL rfl (dZ (hEs _ ev _ hS hmem) (λ_=>rfl) dD dO) gS ?_);refine jq (fJ (v:= .slice a1 C.length c1) (i:=i) (off:=3) iu rfl i6 (hEs _ ev _ hS hmem) (λ_=>rfl) dD oO rfl (by rw[<-hel1];rfl) (.inr rfl) ?_);refine V2 ?_;by_cases hc6:6<=C.length
    ·refine J1 ?_;refine jt ?_;have e:aS m (rU m L (j+1))=aS m (rU m L j):=bA λk _=>by
      show(if _ then _ else _)=_;rw[if_neg (by rw[<-hcd,<-hi];rintro⟨e1,e2⟩;rw[<-e1,<-hC]at e2;omega)]
     exact⟨_,rfl,⟨jY,jY,jY,jY,jY,jY⟩,jY,jY,jY,ev,LC,hev,by rw[e];exact hR,hS.drop hdr⟩
    ·refine V1 ?_;obtain⟨h,hh⟩:=jz (c 1% (m+1));have hhm:h<m+1:=by rw[hh];exact Nat.mod_lt _ oO
     refine jr ?_;refine jp (nb (n:=4) (i:=1) rfl rfl rfl dD Tryz.underlying69 io ?_);refine J3 ?_;refine jp (ia rfl rfl (r:=((m+1:Nat):Int)) (by exact iR _ ⟨oO,oO,oO⟩) (jp (iJ rfl rfl oO (r:=((h:Nat):Int)) (by rw[hh];exact gH _ (m+1)) ?_)));refine V1 ?_;refine aW (λρ w'=>((ρ 2=vL/\ρ 3=vQ/\ρ 4=vD/\ρ 10=pB br/\ρ 11=pB bg/\ρ 12=iB m)/\ρ 51=vL/\ρ 52=iB L.length/\ρ 53=iB j/\ρ 16=pB bc/\ρ 17=iB i)/\ρ 18=iB h/\ρ 83= .bool (decide (h=i\/m<=h))/\St w w' ([(bc,69,ss c),(bg,29,[(Value.slice (some ⟨bE,0,none⟩) m cE),aw]),(br,29,[aw,aw])]++([(bE,51,(aS m λi=>(gw cash i,(ev) i)).flatMap bl++sp)]::LC).flatten)) ?_ ?_
     ·by_cases e1:h=i
      ·refine J4 ?_;refine bI (ak 79 kR rfl dT) (bI (ak 79 kR rfl dT) (bI (ak 79 kR rfl dT) (jp (aZ (vb rfl dT) rfl ?_))));refine ja ?_;exact⟨_,rfl,⟨⟨jY,jY,jY,jY,jY,jY⟩,jY,jY,jY,by first|assumption|rfl,by first|assumption|rfl⟩,rfl,vb rfl (decide_eq_true (.inl e1)).symm,hS⟩
      ·refine J4 ?_;refine ax (ai 79 kR rfl dF) (aI rfl (ax (ai 79 kR rfl dF) (aI h12 (ax (ai 79 kR rfl dF) (rR rfl rfl (jp (aZ (vb rfl dF) rfl ?_)))))));refine ja ?_;exact⟨_,rfl,⟨⟨jY,jY,jY,jY,jY,jY⟩,jY,jY,jY,by first|assumption|rfl,by first|assumption|rfl⟩,rfl,vb rfl (by rw[decide_eq_decide];omega),hS⟩
     clear hS h2 h3 h4 h10 h11 h12 h51 h52 h53;rintro ρ w6 ⟨⟨⟨h2,h3,h4,h10,h11,h12⟩,h51,h52,h53,h16,h17⟩,h18,h83,hS⟩;obtain⟨x,hx⟩:=jz (NN m c);have hxh:x.h=if h=i\/m<=h then-1 else(h:Int):=by rw[hx,hh,hi];rfl
     refine ja ?_;refine aW (λρ w'=>((ρ 2=vL/\ρ 3=vQ/\ρ 4=vD/\ρ 10=pB br/\ρ 11=pB bg/\ρ 12=iB m)/\ρ 51=vL/\ρ 52=iB L.length/\ρ 53=iB j/\ρ 16=pB bc/\ρ 17=iB i)/\ρ 18=iB x.h/\St w w' ([(bc,69,ss c),(bg,29,[(Value.slice (some ⟨bE,0,none⟩) m cE),aw]),(br,29,[aw,aw])]++([(bE,51,(aS m λi=>(gw cash i,(ev) i)).flatMap bl++sp)]::LC).flatten)) ?_ ?_
     ·by_cases e1:h=i\/m<=h
      ·refine bZ h83 (decide_eq_true e1) ?_;refine V1 ?_;exact⟨_,rfl,⟨⟨jY,jY,jY,jY,jY,jY⟩,jY,jY,jY,by first|assumption|rfl,by first|assumption|rfl⟩,vi rfl (by rw[hxh,if_pos e1]),hS⟩
      ·refine ct h83 (decide_eq_false e1) ?_;refine ja ?_;exact⟨_,rfl,⟨⟨jY,jY,jY,jY,jY,jY⟩,jY,jY,jY,by first|assumption|rfl,by first|assumption|rfl⟩,by rw[hxh,if_neg e1];assumption,hS⟩
     clear hS h2 h3 h4 h10 h11 h12 h51 h52 h53 h16 h17 h18 h83;rintro ρ w6 ⟨⟨⟨h2,h3,h4,h10,h11,h12⟩,h51,h52,h53,h16,h17⟩,h18,hS⟩;have hlc:=hR.ln;rw[ao]at hlc;have hLi:([(bE,51,(aS m λi=>(gw cash i,(ev) i)).flatMap bl++sp)]::LC)[i+1]?=some (LC.getD i []):=by rw[List.getElem?_cons_succ];exact zP [] (show i<LC.length by omega)
     have hS9:=eh (P:=[(bc,69,ss c),(bg,29,[(Value.slice (some ⟨bE,0,none⟩) m cE),aw]),(br,29,[aw,aw])]) hS hLi;clear hS;have hS:St w _ (([(bc,69,ss c),(bg,29,[(Value.slice (some ⟨bE,0,none⟩) m cE),aw]),(br,29,[aw,aw])]++([(bE,51,(aS m λi=>(gw cash i,(ev) i)).flatMap bl++sp)]::LC.set i []).flatten)++LC.getD i []):=hS9;clear hS9;have hxv:dg x= #[.int .i64 x.h,.int .i64 ((c 2%3:Nat):Int),.bool (aj (gy (c 3))).neg,.string (aj (gy (c 3))).num,.string (aj (gy (c 3))).den].toList:=by rw[hx];rfl
     rw[hv1]at hGi;have hcl:rU m L (j+1)=λk=>if k=i then C++[x]else rU m L j k:=by
      funext k;show(if _ then _ else _)=_;rw[<-hcd,<-hi];by_cases e:k=i
      ·rw[if_pos e,if_pos ⟨e.symm,by rw[e,<-hC];omega⟩,e,<-hC,hx]
      ·rw[if_neg e,if_neg (λh=>e h.1.symm)]
     refine ja ?_;refine vV 23 [jo 0,jv 1,jo 2,jo 3,ju 4,jo 5,jo 6,jo 7,ju 8,jo 9,jo 10,ju 11,jo 12,jo 13,jo 14,ju 15,jv 16,jo 17,jv 18,jw 19,jo 20,jo 21,jw 22] kR kR hS ?_;intro wz13 hS hBz13;refine bN (i:=0) (U':=[jv 1,jo 2,jo 3,ju 4,jo 5,jo 6,jo 7,ju 8,jo 9,jo 10,ju 11,jo 12,jo 13,jo 14,ju 15,jv 16,jo 17,jv 18,jw 19,jo 20,jo 21,jw 22]) kR kR rfl rfl (cx h11 mX (bN (i:=2) (U':=[jv 1,jo 3,ju 4,jo 5,jo 6,jo 7,ju 8,jo 9,jo 10,ju 11,jo 12,jo 13,jo 14,ju 15,jv 16,jo 17,jv 18,jw 19,jo 20,jo 21,jw 22]) kR kR rfl rfl (aI h17 (bN (i:=3) (U':=[jv 1,ju 4,jo 5,jo 6,jo 7,ju 8,jo 9,jo 10,ju 11,jo 12,jo 13,jo 14,ju 15,jv 16,jo 17,jv 18,jw 19,jo 20,jo 21,jw 22]) kR kR rfl rfl (cx h11 mX (iG (i:=4) (U':=[jv 1,jo 5,jo 6,jo 7,ju 8,jo 9,jo 10,ju 11,jo 12,jo 13,jo 14,ju 15,jv 16,jo 17,jv 18,jw 19,jo 20,jo 21,jw 22]) kR kR rfl rfl (bT (k:=1) rfl jB hS rfl rfl rfl (.inr rfl) (bN (i:=5) (U':=[jv 1,jo 6,jo 7,ju 8,jo 9,jo 10,ju 11,jo 12,jo 13,jo 14,ju 15,jv 16,jo 17,jv 18,jw 19,jo 20,jo 21,jw 22]) kR kR rfl rfl (aI h17 (bN (i:=6) (U':=[jv 1,jo 7,ju 8,jo 9,jo 10,ju 11,jo 12,jo 13,jo 14,ju 15,jv 16,jo 17,jv 18,jw 19,jo 20,jo 21,jw 22]) kR kR rfl rfl (aH (i:=i) rfl rfl (hEs _ ev _ hS (by simp)) oO dO iL ?_)))))))))));refine bN (i:=7) (U':=[jv 1,ju 8,jo 9,jo 10,ju 11,jo 12,jo 13,jo 14,ju 15,jv 16,jo 17,jv 18,jw 19,jo 20,jo 21,jw 22]) kR kR rfl rfl (fL rfl (dZ (hEs _ ev _ hS (by simp)) (λ_=>rfl) dD dO) gS ?_);refine iG (i:=8) (U':=[jv 1,jo 9,jo 10,ju 11,jo 12,jo 13,jo 14,ju 15,jv 16,jo 17,jv 18,jw 19,jo 20,jo 21,jw 22]) kR kR rfl rfl (fJ (v:= .slice a1 C.length c1) (i:=i) (off:=3) iu rfl i6 (hEs _ ev _ hS (by simp)) (λ_=>rfl) dD oO rfl (by rw[<-hel1];rfl) (.inr rfl) ?_);refine bN (i:=9) (U':=[jv 1,jo 10,ju 11,jo 12,jo 13,jo 14,ju 15,jv 16,jo 17,jv 18,jw 19,jo 20,jo 21,jw 22]) kR kR rfl rfl (aI h18 (bN (i:=10) (U':=[jv 1,ju 11,jo 12,jo 13,jo 14,ju 15,jv 16,jo 17,jv 18,jw 19,jo 20,jo 21,jw 22]) kR kR rfl rfl (nb (n:=4) (i:=2) h16 rfl rfl dD Tryz.underlying69 io (iG (i:=11) (U':=[jv 1,jo 12,jo 13,jo 14,ju 15,jv 16,jo 17,jv 18,jw 19,jo 20,jo 21,jw 22]) kR kR rfl rfl (bT (k:=0) rfl io hS rfl rfl rfl (.inr rfl) (bN (i:=12) (U':=[jv 1,jo 13,jo 14,ju 15,jv 16,jo 17,jv 18,jw 19,jo 20,jo 21,jw 22]) kR kR rfl rfl (iJ rfl rfl oO (r:=((c 2%3:Nat):Int)) (by exact gH _ 3) (bN (i:=13) (U':=[jv 1,jo 14,ju 15,jv 16,jo 17,jv 18,jw 19,jo 20,jo 21,jw 22]) kR kR rfl rfl (bF rfl Tryz.underlying3 ⟨_,Tryz.underlying25⟩ (IntWalk.i64_in _ oO) (bN (i:=14) (U':=[jv 1,ju 15,jv 16,jo 17,jv 18,jw 19,jo 20,jo 21,jw 22]) kR kR rfl rfl (nb (n:=4) (i:=3) h16 rfl rfl dD Tryz.underlying69 io (iG (i:=15) (U':=[jv 1,jv 16,jo 17,jv 18,jw 19,jo 20,jo 21,jw 22]) kR kR rfl rfl (bT (k:=0) rfl io hS rfl rfl rfl (.inr rfl) ?_)))))))))))));refine jQ (x:=jv 1) (y:=jv 16) (U':=[jv 16,jo 17,jv 18,jw 19,jo 20,jo 21,jw 22]) (U'':=[jv 1,jo 17,jv 18,jw 19,jo 20,jo 21,jw 22]) kR kR kR ?_ ?_
     ·refine bK rfl rfl (jA (bT (k:=1) rfl jB hS rfl rfl rfl (.inr rfl) ?_));refine⟨Below.refl _ _,?_⟩;refine bS (x:=jv 16) (U':=[jo 17,jv 18,jw 19,jo 20,jo 21,jw 22]) kR kR (bK rfl rfl (ah Tryz.call20 rfl (pY (c 3) _ hc3) ?_));rintro r w7 ⟨rfl,hB7⟩;refine⟨hB7,?_⟩;replace hS:=hS.aG hB7;refine bN (i:=17) (U':=[jv 18,jw 19,jo 20,jo 21,jw 22]) kR kR rfl rfl (bR rfl (pf _ _ _) (bS (x:=jv 18) (U':=[jw 19,jo 20,jo 21,jw 22]) kR kR (bK rfl rfl (dI (vs:=[_]) rfl kd rfl dD dD dD (by simp[Value.cells]) rfl hS ?_))));intro bx wz14 hS hBz14;refine⟨hBz14,?_⟩;rw[show([Value.agg #[.int .i64 x.h,.int .i64 ((c 2%3:Nat):Int),.bool (aj (gy (c 3))).neg,.string (aj (gy (c 3))).num,.string (aj (gy (c 3))).den]]).flatMap (λv=>v.cells.toList)=[x].flatMap dg from(by rw[List.flatMap_singleton,List.flatMap_singleton,hxv];rfl)]at hS;refine bS (x:=jw 19) (U':=[jo 20,jo 21,jw 22]) kR kR (ca rfl rfl (dK [x] rfl rfl kd dD hGi hS rfl rfl gz (pV [x]) dL dL ?_));intro va15 La15 wa15 hGi hS hga15;obtain⟨aX,cX,hvX⟩:=hGi.len;subst hvX;obtain⟨LN,hLN⟩:=jz La15;rw[<-hLN]at hGi hS;refine bN (i:=20) (U':=[jo 21,jw 22]) kR kR rfl rfl (bn (i:=i) rfl rfl oO dO iL (bN (i:=21) (U':=[jw 22]) kR kR rfl rfl (cx rfl gS (bS (x:=jw 22) (U':=[]) kR kR (ca rfl rfl (yP (k:=3) (i:=i) (off:=3) iu (gw cash i,.slice aX (C++[x]).length cX,(ev i).2) fu rfl rfl i6 hS rfl oO (by rw[ao];exact him) rfl rfl dD (by rw[aV _ _ him];rfl) rfl ?_))))));intro wz16 hS;refine fb ?_;refine ja ?_;obtain⟨ev',LC',f1,f2,f3⟩:=p7 (P:=[(bc,69,ss c),(bg,29,[(Value.slice (some ⟨bE,0,none⟩) m cE),aw]),(br,29,[aw,aw])]) hev hR him hcl hGi hS;exact⟨_,rfl,⟨jY,jY,jY,jY,jY,jY⟩,jY,jY,jY,ev',LC',f1,f2,f3.drop (List.sublist_cons_self _ _)⟩
     ·refine bK rfl rfl (ah Tryz.call20 rfl (pY (c 3) _ hc3) ?_);rintro r w7 ⟨rfl,hB7⟩;refine⟨hB7,?_⟩;replace hS:=hS.aG hB7;refine bN (i:=17) (U':=[jv 1,jv 18,jw 19,jo 20,jo 21,jw 22]) kR kR rfl rfl (bR rfl (pf _ _ _) ?_);refine jQ (x:=jv 1) (y:=jv 18) (U':=[jv 18,jw 19,jo 20,jo 21,jw 22]) (U'':=[jv 1,jw 19,jo 20,jo 21,jw 22]) kR kR kR ?_ ?_
      ·refine bK rfl rfl (jA (bT (k:=1) rfl jB hS rfl rfl rfl (.inr rfl) ?_));refine⟨Below.refl _ _,?_⟩;refine bS (x:=jv 18) (U':=[jw 19,jo 20,jo 21,jw 22]) kR kR (bK rfl rfl (dI (vs:=[_]) rfl kd rfl dD dD dD (by simp[Value.cells]) rfl hS ?_));intro bx wz17 hS hBz17;refine⟨hBz17,?_⟩;rw[show([Value.agg #[.int .i64 x.h,.int .i64 ((c 2%3:Nat):Int),.bool (aj (gy (c 3))).neg,.string (aj (gy (c 3))).num,.string (aj (gy (c 3))).den]]).flatMap (λv=>v.cells.toList)=[x].flatMap dg from(by rw[List.flatMap_singleton,List.flatMap_singleton,hxv];rfl)]at hS;refine bS (x:=jw 19) (U':=[jo 20,jo 21,jw 22]) kR kR (ca rfl rfl (dK [x] rfl rfl kd dD hGi hS rfl rfl gz (pV [x]) dL dL ?_));intro va18 La18 wa18 hGi hS hga18;obtain⟨aX,cX,hvX⟩:=hGi.len;subst hvX;obtain⟨LN,hLN⟩:=jz La18;rw[<-hLN]at hGi hS;refine bN (i:=20) (U':=[jo 21,jw 22]) kR kR rfl rfl (bn (i:=i) rfl rfl oO dO iL (bN (i:=21) (U':=[jw 22]) kR kR rfl rfl (cx rfl gS (bS (x:=jw 22) (U':=[]) kR kR (ca rfl rfl (yP (k:=3) (i:=i) (off:=3) iu (gw cash i,.slice aX (C++[x]).length cX,(ev i).2) fu rfl rfl i6 hS rfl oO (by rw[ao];exact him) rfl rfl dD (by rw[aV _ _ him];rfl) rfl ?_))))));intro wz19 hS;refine fb ?_;refine ja ?_;obtain⟨ev',LC',f1,f2,f3⟩:=p7 (P:=[(bc,69,ss c),(bg,29,[(Value.slice (some ⟨bE,0,none⟩) m cE),aw]),(br,29,[aw,aw])]) hev hR him hcl hGi hS;exact⟨_,rfl,⟨jY,jY,jY,jY,jY,jY⟩,jY,jY,jY,ev',LC',f1,f2,f3.drop (List.sublist_cons_self _ _)⟩
      ·refine bK rfl rfl (dI (vs:=[_]) rfl kd rfl dD dD dD (by simp[Value.cells]) rfl hS ?_);intro bx wz20 hS hBz20;refine⟨hBz20,?_⟩;rw[show([Value.agg #[.int .i64 x.h,.int .i64 ((c 2%3:Nat):Int),.bool (aj (gy (c 3))).neg,.string (aj (gy (c 3))).num,.string (aj (gy (c 3))).den]]).flatMap (λv=>v.cells.toList)=[x].flatMap dg from(by rw[List.flatMap_singleton,List.flatMap_singleton,hxv];rfl)]at hS;refine jQ (x:=jv 1) (y:=jw 19) (U':=[jw 19,jo 20,jo 21,jw 22]) (U'':=[jv 1,jo 20,jo 21,jw 22]) kR kR kR ?_ ?_
       ·refine bK rfl rfl (jA (bT (k:=2) rfl jB hS rfl rfl rfl (.inr rfl) ?_));refine⟨Below.refl _ _,?_⟩;refine bS (x:=jw 19) (U':=[jo 20,jo 21,jw 22]) kR kR (ca rfl rfl (dK [x] rfl rfl kd dD hGi hS rfl rfl gz (pV [x]) dL dL ?_));intro va21 La21 wa21 hGi hS hga21;obtain⟨aX,cX,hvX⟩:=hGi.len;subst hvX;obtain⟨LN,hLN⟩:=jz La21;rw[<-hLN]at hGi hS;refine bN (i:=20) (U':=[jo 21,jw 22]) kR kR rfl rfl (bn (i:=i) rfl rfl oO dO iL (bN (i:=21) (U':=[jw 22]) kR kR rfl rfl (cx rfl gS (bS (x:=jw 22) (U':=[]) kR kR (ca rfl rfl (yP (k:=3) (i:=i) (off:=3) iu (gw cash i,.slice aX (C++[x]).length cX,(ev i).2) fu rfl rfl i6 hS rfl oO (by rw[ao];exact him) rfl rfl dD (by rw[aV _ _ him];rfl) rfl ?_))))));intro wz22 hS;refine fb ?_;refine ja ?_;obtain⟨ev',LC',f1,f2,f3⟩:=p7 (P:=[(bc,69,ss c),(bg,29,[(Value.slice (some ⟨bE,0,none⟩) m cE),aw]),(br,29,[aw,aw])]) hev hR him hcl hGi hS;exact⟨_,rfl,⟨jY,jY,jY,jY,jY,jY⟩,jY,jY,jY,ev',LC',f1,f2,f3.drop (List.sublist_cons_self _ _)⟩
       ·refine ca rfl rfl (dK [x] rfl rfl kd dD hGi hS rfl rfl gz (pV [x]) dL dL ?_);intro va23 La23 wa23 hGi hS hga23;obtain⟨aX,cX,hvX⟩:=hGi.len;subst hvX;obtain⟨LN,hLN⟩:=jz La23;rw[<-hLN]at hGi hS;refine bS (x:=jv 1) (U':=[jo 20,jo 21,jw 22]) kR kR (bK rfl rfl (jA (bT (k:=1) rfl jB hS rfl rfl rfl (.inr rfl) ?_)));refine⟨Below.refl _ _,?_⟩;refine bN (i:=20) (U':=[jo 21,jw 22]) kR kR rfl rfl (bn (i:=i) rfl rfl oO dO iL (bN (i:=21) (U':=[jw 22]) kR kR rfl rfl (cx rfl gS (bS (x:=jw 22) (U':=[]) kR kR (ca rfl rfl (yP (k:=3) (i:=i) (off:=3) iu (gw cash i,.slice aX (C++[x]).length cX,(ev i).2) fu rfl rfl i6 hS rfl oO (by rw[ao];exact him) rfl rfl dD (by rw[aV _ _ him];rfl) rfl ?_))))));intro wz24 hS;refine fb ?_;refine ja ?_;obtain⟨ev',LC',f1,f2,f3⟩:=p7 (P:=[(bc,69,ss c),(bg,29,[(Value.slice (some ⟨bE,0,none⟩) m cE),aw]),(br,29,[aw,aw])]) hev hR him hcl hGi hS;exact⟨_,rfl,⟨jY,jY,jY,jY,jY,jY⟩,jY,jY,jY,ev',LC',f1,f2,f3.drop (List.sublist_cons_self _ _)⟩
   clear hS h2 h3 h4 h10 h11 h12 h51 h52 h53;rintro ρ w6 ⟨⟨h2,h3,h4,h10,h11,h12⟩,h51,h52,h53,ev,LC,hev,hR,hS⟩;refine V2 ?_;exact⟨j+1,_,rfl,⟨hlt,⟨jY,jY,jY,jY,jY,jY⟩,jY,jY,vi rfl oO,ev,LC,hev,hR,hS⟩,oO⟩
  ·refine J1 ?_;refine jt ?_;obtain rfl:j=L.length:=oO;exact⟨_,rfl,⟨h2,h3,h4,h10,h11,h12⟩,ev,LC,hev,hR,hS⟩
 clear hS h2 h3 h4 h10 h11 h12;rintro ρ w4 ⟨⟨h2,h3,h4,h10,h11,h12⟩,ev,LC,hev,hR,hS⟩;obtain⟨cl,hcl⟩:=jz (rU m L L.length);have hc6:∀i,(cl i).length<=6:=λi=>by rw[hcl];exact re m L L.length i
 rw[<-hcl]at hR;obtain⟨nC,hnC⟩:∃nC:Nat->Nat,nC=λi=>(cl i).length:=⟨_,rfl⟩;have hst9:(∀i,i<m->([]:List Value).length=(nY m nC Q 0 i).length/\([]:List (List Value)).length=(nY m nC Q 0 i).length/\C7 [] (ev i).2 (nY m nC Q 0 i) [] []):=λi _=>⟨rfl,rfl,by
  rw[hev i];exact⟨λwz wx _=>⟨rfl,Sl.nil _ _ _,λk hk=>absurd hk (Nat.not_lt_zero _)⟩⟩⟩
 replace hS:St w w4 ([(bg,29,[(Value.slice (some ⟨bE,0,none⟩) m cE),aw]),(br,29,[aw,aw])]++([(bE,51,(aS m λi=>(gw cash i,(ev) i)).flatMap bl++sp)]::[]::LC).flatten):=hS;refine J1 ?_;refine jp (aF rfl (hQ.ab hS.ab) ⟨_,Tryz.underlying24⟩ ?_);refine J1 ?_;refine jb ?_;refine aW (λρ w'=>(ρ 2=vL/\ρ 3=vQ/\ρ 4=vD/\ρ 10=pB br/\ρ 11=pB bg/\ρ 12=iB m)/\∃(ev:Nat->Value×Value) (DA:List bQ) (av:Nat->List Value) (pv:Nat->List (List Value)),(∀i,i<m->(av i).length=(nY m nC Q Q.length i).length/\(pv i).length=(nY m nC Q Q.length i).length/\C7 DA (ev i).2 (nY m nC Q Q.length i) (av i) (pv i))/\dw dg 53 5 (aS m λi=>(ev i).1) (aS m cl) LC/\St w w' ([(bg,29,[(Value.slice (some ⟨bE,0,none⟩) m cE),aw]),(br,29,[aw,aw])]++([(bE,51,(aS m λi=>(gw cash i,(ev) i)).flatMap bl++sp)]::DA::LC).flatten)) ?_ ?_
 ·refine ja ?_;refine aQ (σ:=Nat) (λj ρ w'=>j<=Q.length/\(ρ 2=vL/\ρ 3=vQ/\ρ 4=vD/\ρ 10=pB br/\ρ 11=pB bg/\ρ 12=iB m)/\ρ 107=vQ/\ρ 108=iB Q.length/\ρ 109=iB j/\∃(ev:Nat->Value×Value) (DA:List bQ) (av:Nat->List Value) (pv:Nat->List (List Value)),(∀i,i<m->(av i).length=(nY m nC Q j i).length/\(pv i).length=(nY m nC Q j i).length/\C7 DA (ev i).2 (nY m nC Q j i) (av i) (pv i))/\dw dg 53 5 (aS m λi=>(ev i).1) (aS m cl) LC/\St w w' ([(bg,29,[(Value.slice (some ⟨bE,0,none⟩) m cE),aw]),(br,29,[aw,aw])]++([(bE,51,(aS m λi=>(gw cash i,(ev) i)).flatMap bl++sp)]::DA::LC).flatten)) (λj=>Q.length-j) 0
   ⟨Nat.zero_le _,⟨h2,h3,h4,h10,h11,h12⟩,rfl,rfl,rfl,ev,[],(λ_=>[]),(λ_=>[]),hst9,hR,hS⟩ ?_
  clear hS h2 h3 h4 h10 h11 h12 hst9 hev hR;clear ev;rintro j ρ w4 ⟨hj,⟨h2,h3,h4,h10,h11,h12⟩,h107,h108,h109,ev,DA,av,pv,hPA,hR,hS⟩;refine V1 ?_;by_cases hlt:j<Q.length
  ·refine J1 ?_;refine jb ?_;obtain⟨p,hpd⟩:=jz (Q.getD j z4);have hpx:=hq p (by rw[hpd];exact bC _ _ _ hlt);have hp0:=hpx 0 dD;obtain⟨i,hi⟩:=jz (p 0%m);have him:i<m:=by rw[hi];exact Nat.mod_lt _ oO
   refine aW (λρ w'=>(ρ 2=vL/\ρ 3=vQ/\ρ 4=vD/\ρ 10=pB br/\ρ 11=pB bg/\ρ 12=iB m)/\ρ 107=vQ/\ρ 108=iB Q.length/\ρ 109=iB j/\∃(ev:Nat->Value×Value) (DA:List bQ) (av:Nat->List Value) (pv:Nat->List (List Value)),(∀i,i<m->(av i).length=(nY m nC Q (j+1) i).length/\(pv i).length=(nY m nC Q (j+1) i).length/\C7 DA (ev i).2 (nY m nC Q (j+1) i) (av i) (pv i))/\dw dg 53 5 (aS m λi=>(ev i).1) (aS m cl) LC/\St w w' ([(bg,29,[(Value.slice (some ⟨bE,0,none⟩) m cE),aw]),(br,29,[aw,aw])]++([(bE,51,(aS m λi=>(gw cash i,(ev) i)).flatMap bl++sp)]::DA::LC).flatten)) ?_ ?_
   ·refine jr ?_;refine jp (aH (i:=j) h107 h109 (hQ.ab hS.ab) oO dO Nc (jq (aO (i:=j) z4 rfl qv (hQ.ab hS.ab) dO rfl rfl (.inl rfl) ?_)));refine J1 ?_;intro bc wz25 hS hBz25;refine J1 ?_;intro wz26 hS;refine ja ?_;rw[<-hpd]at hS;replace hS:St w _ ((bc,70,gP p)::[(bg,29,[(Value.slice (some ⟨bE,0,none⟩) m cE),aw]),(br,29,[aw,aw])]++([(bE,51,(aS m λi=>(gw cash i,(ev) i)).flatMap bl++sp)]::DA::LC).flatten):=hS;have hGi:=hR.g i (by rw[ao];exact him);rw[aV _ _ him,aV _ _ him]at hGi;obtain⟨a1,c1,hv1⟩:=hGi.len;have hci:=hc6 i;obtain⟨l1,l2,hPi⟩:=hPA i him;have hlA:=EJ m nC Q j i;obtain⟨A,hA⟩:=jz (nY m nC Q j i);rw[<-hA]at l1 l2 hPi hlA;have hDs:DA.Sublist ((bc,70,gP p)::[(bg,29,[(Value.slice (some ⟨bE,0,none⟩) m cE),aw]),(br,29,[aw,aw])]++([(bE,51,(aS m λi=>(gw cash i,(ev) i)).flatMap bl++sp)]::DA::LC).flatten):=((List.sublist_append_left DA LC.flatten).trans (List.sublist_append_right [(bE,51,(aS m λi=>(gw cash i,(ev) i)).flatMap bl++sp)] _)).trans (List.sublist_append_right _ _);have hAg:=hPi.g _ _ (hS.drop hDs);obtain⟨a2,c2,hv2,_⟩:=hAg.sl.form;rw[l1]at hv2;have hev2:ev i=(.slice a1 (cl i).length c1,.slice a2 A.length c2):=Prod.ext hv1 hv2;have hel:((aS m λi=>(gw cash i,ev i)).getD i iu)=(gw cash i,Value.slice a1 (cl i).length c1,Value.slice a2 A.length c2):=by rw[aV _ _ him,hev2]
    have hte:=ao m λi=>(gw cash i,ev i);refine jr ?_;refine jp (nb (n:=3) (i:=0) rfl rfl rfl dD Tryz.underlying70 io ?_);refine J3 ?_;refine jp (iJ rfl rfl oO (r:=((i:Nat):Int)) (by rw[hi];exact gH _ m) ?_);refine J4 ?_;refine jp (aH (i:=i) rfl rfl (hEs _ ev _ hS (by simp)) oO dO iL ?_);refine jp (fL rfl (dZ (hEs _ ev _ hS (by simp)) (λ_=>rfl) dD dO) vu ?_);refine jq (fJ (v:= .slice a2 A.length c2) (i:=i) (off:=4) iu rfl ph (hEs _ ev _ hS (by simp)) (λ_=>rfl) dD oO rfl (by rw[hel];rfl) (.inr rfl) ?_);refine J2 ?_;refine jb ?_;by_cases hA2:A.length<2
    ·refine V1 ?_;have hag:∀k,nY m nC Q (j+1) k=if k=i then nY m nC Q j i++[pA A (nC i) p]else nY m nC Q j k:=λk=>by
      show(if _ then _ else _)=_;rw[<-hpd,<-hi];by_cases e:k=i
      ·rw[if_pos e,if_pos ⟨e.symm,by rw[e,<-hA];exact hA2⟩,e,<-hA]
      ·rw[if_neg e,if_neg (λh=>e h.1.symm)]
     have hni:nC i=(cl i).length:=by rw[hnC]
     rw[hv2]at hPi;refine ja ?_;refine bk [jo 0,ju 1,jo 2,jo 3,ju 4,jo 5,jo 6,ju 7,ju 8,jv 9,jo 10,jo 11,jw 12] kR kR hS ?_;intro wz27 hS hBz27;refine J6 ?_;refine jl rfl (aH (i:=i) rfl rfl (hEs _ ev _ hS (by simp)) oO dO iL (jm rfl (aO (v:=Ke (gw cash i) (.slice a1 (cl i).length c1) (.slice a2 A.length c2)) (i:=i) iu rfl mT (hEs _ ev _ hS (by simp)) oO rfl (by rw[hel];rfl) (.inl rfl) ?_)));refine J1 ?_;refine jn rfl (ah Tryz.call21 rfl (JY (gw cash i) a1 (cl i).length c1 _ A (av i) (pv i) p _ (hPi.g _ _ (hS.drop hDs)) oO hpx oO) ?_);rintro r w5 ⟨x,vs,LO,D2,hGr,hMt,hS5⟩;refine⟨hS5.ab,?_⟩;replace hS:=(hS.join hS5).perm List.perm_append_comm;obtain⟨aR,cR,hvr⟩:=hGr.len;subst hvr;refine jl rfl (bn (i:=i) rfl rfl oO dO iL ?_);refine J1 ?_;refine jx rfl (yP (k:=3) (i:=i) (off:=4) iu (gw cash i,(ev i).1,.slice aR (av i++[x]).length cR) fu rfl rfl ph hS rfl oO (by rw[ao];exact him) rfl rfl dD (by rw[aV _ _ him];rfl) rfl ?_);intro wz28 hS;refine ja ?_;rw[<-hni]at hMt;obtain⟨ev',DA',av',pv',f1,f2,f3⟩:=L7 (P:=(bc,70,gP p)::[(bg,29,[(Value.slice (some ⟨bE,0,none⟩) m cE),aw]),(br,29,[aw,aw])]) hPA hR him hag hGr hMt hS;exact⟨_,rfl,⟨jY,jY,jY,jY,jY,jY⟩,jY,jY,jY,ev',DA',av',pv',f1,f2,f3.drop (List.sublist_cons_self _ _)⟩
    ·refine V1 ?_;have e:∀k,nY m nC Q (j+1) k=nY m nC Q j k:=λk=>by
      show(if _ then _ else _)=_;rw[if_neg (by rw[<-hpd,<-hi];rintro⟨e1,e2⟩;rw[<-e1,<-hA]at e2;exact hA2 e2)]
     exact⟨_,rfl,⟨jY,jY,jY,jY,jY,jY⟩,jY,jY,jY,ev,DA,av,pv,(λk hk=>by rw[e k];exact hPA k hk),hR,hS.drop (List.sublist_cons_self _ _)⟩
   clear hS h2 h3 h4 h10 h11 h12 h107 h108 h109;rintro ρ w6 ⟨⟨h2,h3,h4,h10,h11,h12⟩,h107,h108,h109,ev,DA,av,pv,hPA,hR,hS⟩;refine V2 ?_;exact⟨j+1,_,rfl,⟨hlt,⟨jY,jY,jY,jY,jY,jY⟩,jY,jY,vi rfl oO,ev,DA,av,pv,hPA,hR,hS⟩,oO⟩
  ·refine J1 ?_;refine jt ?_;obtain rfl:j=Q.length:=oO;exact⟨_,rfl,⟨h2,h3,h4,h10,h11,h12⟩,ev,DA,av,pv,hPA,hR,hS⟩
 clear hS h2 h3 h4 h10 h11 h12 hst9 hR hev;clear ev;rintro ρ w4 ⟨⟨h2,h3,h4,h10,h11,h12⟩,ev,DA,av,pv,hPA,hR,hS⟩;have hPA2:=λi hi=>(hPA i hi).2.2;clear hPA;refine J1 ?_;refine jp (aF rfl (hD.ab hS.ab) ⟨_,Tryz.underlying24⟩ ?_);refine J1 ?_;refine jb ?_;refine aW (λρ w'=>(ρ 2=vL/\ρ 3=vQ/\ρ 4=vD/\ρ 10=pB br/\ρ 11=pB bg/\ρ 12=iB m)/\∃(vY:Value) (DA:List bQ) (dv:List Value),OK DA vY (Bc m cl D D.length) dv/\(∀i,i<m->C7 DA (ev i).2 (nY m nC Q Q.length i) (av i) (pv i))/\St w w' ([(bg,29,[(Value.slice (some ⟨bE,0,none⟩) m cE),vY]),(br,29,[aw,aw])]++([(bE,51,(aS m λi=>(gw cash i,(ev) i)).flatMap bl++sp)]::DA::LC).flatten)) ?_ ?_
 ·refine ja ?_;refine aQ (σ:=Nat) (λj ρ w'=>j<=D.length/\(ρ 2=vL/\ρ 3=vQ/\ρ 4=vD/\ρ 10=pB br/\ρ 11=pB bg/\ρ 12=iB m)/\ρ 139=vD/\ρ 140=iB D.length/\ρ 141=iB j/\∃(vY:Value) (DA:List bQ) (dv:List Value),OK DA vY (Bc m cl D j) dv/\(∀i,i<m->C7 DA (ev i).2 (nY m nC Q Q.length i) (av i) (pv i))/\St w w' ([(bg,29,[(Value.slice (some ⟨bE,0,none⟩) m cE),vY]),(br,29,[aw,aw])]++([(bE,51,(aS m λi=>(gw cash i,(ev) i)).flatMap bl++sp)]::DA::LC).flatten)) (λj=>D.length-j) 0
   ⟨Nat.zero_le _,⟨h2,h3,h4,h10,h11,h12⟩,rfl,rfl,rfl,aw,DA,[],⟨rfl,λwz wx _=>⟨Sl.nil _ _ _,λk hk=>absurd hk (Nat.not_lt_zero _)⟩⟩,hPA2,hS⟩ ?_
  clear hS h2 h3 h4 h10 h11 h12 hPA2;clear DA;rintro j ρ w4 ⟨hj,⟨h2,h3,h4,h10,h11,h12⟩,h139,h140,h141,vY,DA,dv,hPD,hPA,hS⟩;refine V1 ?_;by_cases hlt:j<D.length
  ·refine J1 ?_;refine jb ?_;obtain⟨d,hdd⟩:=jz (D.getD j z4);have hdx:=hd d (by rw[hdd];exact bC _ _ _ hlt);refine aW (λρ w'=>(ρ 2=vL/\ρ 3=vQ/\ρ 4=vD/\ρ 10=pB br/\ρ 11=pB bg/\ρ 12=iB m)/\ρ 139=vD/\ρ 140=iB D.length/\ρ 141=iB j/\∃(vY:Value) (DA:List bQ) (dv:List Value),OK DA vY (Bc m cl D (j+1)) dv/\(∀i,i<m->C7 DA (ev i).2 (nY m nC Q Q.length i) (av i) (pv i))/\St w w' ([(bg,29,[(Value.slice (some ⟨bE,0,none⟩) m cE),vY]),(br,29,[aw,aw])]++([(bE,51,(aS m λi=>(gw cash i,(ev) i)).flatMap bl++sp)]::DA::LC).flatten)) ?_ ?_
   ·refine jr ?_;refine jp (aH (i:=j) h139 h141 (hD.ab hS.ab) oO dO Nc (jq (aO (i:=j) z4 rfl qv (hD.ab hS.ab) dO rfl rfl (.inl rfl) ?_)));refine J1 ?_;intro bc wz29 hS hBz29;refine J1 ?_;intro wz30 hS;refine ja ?_;rw[<-hdd]at hS;replace hS:St w _ ((bc,70,gP d)::[(bg,29,[(Value.slice (some ⟨bE,0,none⟩) m cE),vY]),(br,29,[aw,aw])]++([(bE,51,(aS m λi=>(gw cash i,(ev) i)).flatMap bl++sp)]::DA::LC).flatten):=hS;have hDs:DA.Sublist ((bc,70,gP d)::[(bg,29,[(Value.slice (some ⟨bE,0,none⟩) m cE),vY]),(br,29,[aw,aw])]++([(bE,51,(aS m λi=>(gw cash i,(ev) i)).flatMap bl++sp)]::DA::LC).flatten):=((List.sublist_append_left DA LC.flatten).trans (List.sublist_append_right [(bE,51,(aS m λi=>(gw cash i,(ev) i)).flatMap bl++sp)] _)).trans (List.sublist_append_right _ _);have hLs:LC.flatten.Sublist ((bc,70,gP d)::[(bg,29,[(Value.slice (some ⟨bE,0,none⟩) m cE),vY]),(br,29,[aw,aw])]++([(bE,51,(aS m λi=>(gw cash i,(ev) i)).flatMap bl++sp)]::DA::LC).flatten):=((List.sublist_append_right DA LC.flatten).trans (List.sublist_append_right [(bE,51,(aS m λi=>(gw cash i,(ev) i)).flatMap bl++sp)] _)).trans (List.sublist_append_right _ _);have hDb:=hPD.g _ _ (hS.drop hDs);obtain⟨aY,cY,hvY,_⟩:=hDb.sl.form;rw[ao]at hvY;have hds3:=F2 m cl D j;subst hvY;refine J4 ?_;refine jb ?_;obtain⟨ds,hds⟩:=jz (Bc m cl D j);have hdsj:Bc m cl D (j+1)=if ds.length<3 then ds++[⟨gy (d 2),Mb ds d cl m⟩]else ds:=by rw[hds,hdd];rfl
    rw[<-hds]at hPD hDb hds3⊢;by_cases hA2:ds.length<3
    ·refine V1 ?_;rw[<-hds]at hS hLs;rw[if_pos hA2]at hdsj;have hEsR:QM _ _ m (gw cash) ev cl:=⟨hEs _ ev _ hS (by simp),λk hk=>by
      have h:=hR.row (P:=[]) (hS.drop hLs) gz (i:=k) (by rw[ao];exact hk);rw[aV _ _ hk,aV _ _ hk]at h;exact h⟩
     refine J2 ?_;refine jh (ah Tryz.call22 rfl (N6 d _ hEsR hDb hdx oO (λk _=>by have:=hc6 k;omega) oO) ?_);rintro r w5 ⟨vL2,LO,D2,hGr,hMt,hS5⟩;replace hS:=(hS.join hS5).perm List.perm_append_comm;have hGr2:=hGr;obtain⟨aR,cR,hvr⟩:=hGr.len;subst hvr;refine J1 ?_;refine jh (gl (k:=1) rfl rfl mY hS rfl (by simp) rfl ?_);intro wz31 hS;refine ja ?_;have hPD2:=hPD.snoc hGr2 hMt;replace hS:St w _ (((bc,70,gP d)::[(bg,29,[(Value.slice (some ⟨bE,0,none⟩) m cE),Value.slice aR ((aS ds.length λk=>((ds.getD k mP).W,dv.getD k undef))++[(gy (d 2),vL2)]).length cR]),(br,29,[aw,aw])]++([(bE,51,(aS m λi=>(gw cash i,(ev) i)).flatMap bl++sp)]::DA::LC).flatten)++(LO++D2)):=hS;have hS9:=(lW (P:=(bc,70,gP d)::[(bg,29,[(Value.slice (some ⟨bE,0,none⟩) m cE),Value.slice aR ((aS ds.length λk=>((ds.getD k mP).W,dv.getD k undef))++[(gy (d 2),vL2)]).length cR]),(br,29,[aw,aw])]) (Ls:=[(bE,51,(aS m λi=>(gw cash i,(ev) i)).flatMap bl++sp)]::DA::LC) (k:=1) (A:=LO++D2) (hS.perm List.perm_append_comm) rfl (List.Perm.refl _)).drop (List.sublist_cons_self _ _);exact⟨_,rfl,⟨jY,jY,jY,jY,jY,jY⟩,jY,jY,jY,_,_,_,by rw[hdsj];exact hPD2,(λk hk=>(hPA k hk).mono (List.sublist_append_right _ _)),hS9⟩
    ·refine V1 ?_;rw[if_neg hA2]at hdsj;exact⟨_,rfl,⟨jY,jY,jY,jY,jY,jY⟩,jY,jY,jY,_,DA,dv,by rw[hdsj];exact hPD,hPA,by rw[hds];exact hS.drop (List.sublist_cons_self _ _)⟩
   clear hS h2 h3 h4 h10 h11 h12 h139 h140 h141;rintro ρ w6 ⟨⟨h2,h3,h4,h10,h11,h12⟩,h139,h140,h141,vY,DA,dv,hPD,hPA,hS⟩;refine V2 ?_;exact⟨j+1,_,rfl,⟨hlt,⟨jY,jY,jY,jY,jY,jY⟩,jY,jY,vi rfl oO,vY,DA,dv,hPD,hPA,hS⟩,oO⟩
  ·refine J1 ?_;refine jt ?_;obtain rfl:j=D.length:=oO;exact⟨_,rfl,⟨h2,h3,h4,h10,h11,h12⟩,vY,DA,dv,hPD,hPA,hS⟩
 clear hS h2 h3 h4 h10 h11 h12 hPA2;clear DA;rintro ρ w4 ⟨⟨h2,h3,h4,h10,h11,h12⟩,vY,DA,dv,hPD,hPA,hS⟩;have hDs:DA.Sublist ([(bg,29,[(Value.slice (some ⟨bE,0,none⟩) m cE),vY]),(br,29,[aw,aw])]++([(bE,51,(aS m λi=>(gw cash i,(ev) i)).flatMap bl++sp)]::DA::LC).flatten):=((List.sublist_append_left DA LC.flatten).trans (List.sublist_append_right [(bE,51,(aS m λi=>(gw cash i,(ev) i)).flatMap bl++sp)] _)).trans (List.sublist_append_right _ _);obtain⟨aY,cY,hvY,_⟩:=(hPD.g _ _ (hS.drop hDs)).sl.form;have hPD2:=hPD;have hform:∀i,i<m->∃a l c,(ev i).2= .slice a l c:=λi hi=>by
  obtain⟨a,c,h,_⟩:=((hPA i hi).g _ _ (hS.drop hDs)).sl.form;exact⟨a,_,c,h⟩
 subst hvY;refine J2 ?_;intro wz32 hS;refine jt ?_;refine dx (k:=1) rfl h10 nH hS rfl rfl ?_;have hS8:St w _ ([(bg,29,[(Value.slice (some ⟨bE,0,none⟩) m cE),_]),(br,29,[(Value.slice (some ⟨bE,0,none⟩) m cE),_])]++([(bE,51,(aS m λi=>(gw cash i,(ev) i)).flatMap bl++sp)]::DA::LC).flatten):=hS;have hS9:=hS8.drop (List.sublist_append_right _ _);rw[<-hm];rw[hnC]at hPA;rw[hcl]at hPA hR;refine⟨_,_,ev,av,pv,dv,[(bE,51,(aS m λi=>(gw cash i,(ev) i)).flatMap bl++sp)],DA,LC,rfl,⟨⟨hGE ev,hR,hform⟩,hPA,by rw[<-hcl];exact hPD2⟩,hS9.perm ?_⟩;rw[List.append_assoc];exact List.Perm.append_left _ List.perm_append_comm
def yo (n:Nat) (q:Nat->Rat) (cl:Nat->List iH) (ds:List lK):fp:=⟨aS n λi=>⟨q i,cl i⟩,ds⟩
theorem Fm (n:Nat) (q:Nat->Rat) (cl:Nat->List iH) (ds:List lK):(yo n q cl ds).n=n:=ao _ _
theorem EM {n:Nat} (q:Nat->Rat) (cl:Nat->List iH) (ds:List lK) {i:Nat} (h:i<n):(yo n q cl ds).e i=⟨q i,cl i⟩:=aV _ _ h
theorem P3.gr {n:Nat} {q:Nat->Rat} {cl:Nat->List iH} {A:Nat->List (List (List fG))} {ds:List lK} {vE vD:Value} {ev:Nat->Value×Value} {av:Nat->List Value} {pv:Nat->List (List Value)} {dv:List Value} {LE:List bQ} {LC:List (List bQ)} {DA:List bQ}
  (h:P3 n q cl A ds vE vD ev av pv dv LE LC DA) {w0 w:World} (hS:St w0 w ((LE++LC.flatten)++DA)):DU w vE vD (yo n q cl ds) (aS n ev) dv/\∀i,i<(yo n q cl ds).n->ER w ((aS n ev).getD i mq).2 (A i) (av i) (pv i):=by
 have hE:=h.e.RU (hS.drop (List.sublist_append_left _ _));have hD:=h.d.g _ _ (hS.drop (List.sublist_append_right _ _));have hes:(aS n λi=>(q i,ev i))=aS (yo n q cl ds).n λi=>(((yo n q cl ds).e i).cash,(aS n ev).getD i mq):=by
  rw[Fm];exact bA λi hi=>by rw[EM q cl ds hi,aV _ _ hi]
 refine⟨⟨by rw[<-hes];exact hE.es,hD.sl,λi hi=> ?_,hD.lg,λi hi=> ?_⟩,λi hi=> ?_⟩;all_goals rw[Fm]at hi
 ·rw[aV _ _ hi,EM q cl ds hi];exact hE.cl i hi
 ·rw[aV _ _ hi];exact h.e.a i hi
 ·rw[aV _ _ hi];exact(h.a i hi).g _ _ (hS.drop (List.sublist_append_right _ _))
theorem pP (va vb:Value) (A:List RR) (w:World) (ha:Sl ae 3 w va A) (hb:Sl ae 3 w vb A):
  dj Tryz.prog 17 #[va,vb] w λv w'=>v= .bool true/\Below w.heap.size w w':=
 dj.mono (BM va vb A A w ha hb) λv w' ⟨h1,h2⟩=>⟨by rw[h1,decide_eq_true rfl],h2⟩
theorem pX (va vb:Value) (A:List (List RR)) (us vs:List Value) (w:World) (ha:kj ae 3 w va A us) (hb:kj ae 3 w vb A vs):
  dj Tryz.prog 19 #[va,vb] w λv w'=>v= .bool true/\Below w.heap.size w w':=by
 have hS:=St.init w;have hla:=ha.len;have hlb:=hb.len;have hmx:=ha.sl.maxLen;refine enter Tryz.func19 rfl Tryz.ntmps19 rfl ?_;refine J2 ?_;refine jp (aF rfl (ha.sl.ab hS.ab) ⟨_,Tryz.underlying35⟩ ?_);refine J1 ?_;refine jp (aF rfl (hb.sl.ab hS.ab) ⟨_,Tryz.underlying35⟩ ?_);refine V1 ?_;rw[hla,hlb];refine ct rfl (decide_eq_false (λh=>h rfl)) ?_;refine V1 ?_;refine aQ (σ:=Nat) (λi ρ w'=>i<=A.length/\ρ 0=va/\ρ 1=vb/\ρ 5=iB i/\St w w' []) (λi=>A.length-i) 0
  ⟨Nat.zero_le _,rfl,rfl,rfl,hS⟩ ?_
 clear hS;rintro i ρ w2 ⟨hi,h0,h1,h5,hS⟩;refine J2 ?_;refine jp (aF rfl (ha.sl.ab hS.ab) ⟨_,Tryz.underlying35⟩ ?_);refine V1 ?_;by_cases hlt:i<A.length
 ·refine V1 ?_;refine bk [jo 0,jo 1,jo 2,ju 3,jo 4,jo 5,jo 6,ju 7,jv 8,jo 9] kR kR hS ?_;intro wz1 hS hBz1;refine J2 ?_;refine jl rfl (aH (i:=i) rfl rfl (ha.sl.ab hS.ab) oO dO cZ (jm rfl (aO (i:=i) undef rfl dh (ha.sl.ab hS.ab) dO rfl rfl (.inr rfl) ?_)));refine J2 ?_;refine jl rfl (aH (i:=i) rfl rfl (hb.sl.ab hS.ab) oO dO cZ (jm rfl (aO (i:=i) undef rfl dh (hb.sl.ab hS.ab) dO rfl rfl (.inr rfl) (jn rfl (ah Tryz.call17 rfl (pP _ _ (A.getD i []) _ ((ha.row i hlt).ab hS.ab) ((hb.row i hlt).ab hS.ab)) ?_)))));rintro r w3 ⟨rfl,hB3⟩;refine⟨hB3,?_⟩;replace hS:=hS.aG hB3;refine V1 ?_;refine ct rfl (rfl) ?_;refine V3 ?_;exact⟨i+1,_,rfl,⟨hlt,jY,jY,vi rfl oO,hS⟩,oO⟩
 ·refine J2 ?_;refine jt ?_;refine bj rfl rfl ?_;exact⟨rfl,hS.ab⟩
theorem IT {n:Nat} {cn:Nat->Nat} {x:Nat->Rat} {G D F N:Nat->Nat->Rat} {S R:Nat->Rat} {U:Nat->Bool} (ra rb:Value) (w:World) (hA:KB w n cn x G D F N S R U ra) (hB:KB w n cn x G D F N S R U rb):
  dj Tryz.prog 13 #[ra,rb] w λv w'=>v= .bool true/\Below w.heap.size w w':=by
 have hS:=St.init w;obtain⟨vM,vG,vD,vF,vN,vS,vR,vU,uG,uD,uF,uN,e,h1,h2,h3,h4,h5,h6,h7,h8⟩:=hA;obtain⟨xM,xG,xD,xF,xN,xS,xR,xU,yG,yD,yF,yN,f,k1,k2,k3,k4,k5,k6,k7,k8⟩:=hB;subst e f;have hln:=ao n U;have hmx:=h8.maxLen;rw[hln]at hmx;obtain⟨aU,cU,hvU,_⟩:=h8.form;obtain⟨bU,dU,hxU,_⟩:=k8.form;rw[hln]at hvU hxU;subst hvU hxU;refine enter Tryz.func13 rfl Tryz.ntmps13 rfl ?_;refine jr ?_;refine jh (bY (new:=[vM,vG,vD,vF,vN,vS,vR,.slice aU n cU]) rfl rfl hS ?_);intro ba wz1 hS hBz1;refine jh (bY (new:=[xM,xG,xD,xF,xN,xS,xR,.slice bU n dU]) rfl rfl hS ?_);intro bb wz2 hS hBz2;refine V1 ?_;replace hS:St w _ [(bb,38,[xM,xG,xD,xF,xN,xS,xR,.slice bU n dU]),(ba,38,[vM,vG,vD,vF,vN,vS,vR,.slice aU n cU])]:=hS;refine J4 ?_;refine jh (ah Tryz.call17 rfl (pP _ _ _ _ (h1.ab hS.ab) (k1.ab hS.ab)) ?_);rintro r w3 ⟨rfl,hB3⟩;replace hS:=hS.aG hB3;refine J2 ?_;refine ax (ai 12 kR rfl rfl) (cx rfl vv (bW (ai 12 kR rfl rfl) (bT (k:=1) rfl gO hS rfl rfl rfl (.inr rfl) (ax (ai 12 kR rfl rfl) (cx rfl vv (bW (ai 12 kR rfl rfl) (bT (k:=0) rfl gO hS rfl rfl rfl (.inr rfl) (fB (ai 12 kR rfl rfl) (ah Tryz.call19 rfl (pX _ _ _ _ _ _ (h2.ab hS.ab) (k2.ab hS.ab)) ?_)))))))));rintro r w4 ⟨rfl,hB4⟩;replace hS:=hS.aG hB4;refine ax (ai 12 kR rfl rfl) (mJ rfl (jp (aZ (vb rfl rfl) rfl ?_)));refine J1 ?_;refine ax (ai 20 kR rfl rfl) (cx rfl vB (bW (ai 20 kR rfl rfl) (bT (k:=1) rfl gO hS rfl rfl rfl (.inr rfl) (ax (ai 20 kR rfl rfl) (cx rfl vB (bW (ai 20 kR rfl rfl) (bT (k:=0) rfl gO hS rfl rfl rfl (.inr rfl) (fB (ai 20 kR rfl rfl) (ah Tryz.call19 rfl (pX _ _ _ _ _ _ (h3.ab hS.ab) (k3.ab hS.ab)) ?_)))))))));rintro r w5 ⟨rfl,hB5⟩;replace hS:=hS.aG hB5;refine ax (ai 20 kR rfl rfl) (mJ rfl (jp (aZ (vb rfl rfl) rfl ?_)));refine J1 ?_;refine ax (ai 28 kR rfl rfl) (cx rfl uZ (bW (ai 28 kR rfl rfl) (bT (k:=1) rfl gO hS rfl rfl rfl (.inr rfl) (ax (ai 28 kR rfl rfl) (cx rfl uZ (bW (ai 28 kR rfl rfl) (bT (k:=0) rfl gO hS rfl rfl rfl (.inr rfl) (fB (ai 28 kR rfl rfl) (ah Tryz.call19 rfl (pX _ _ _ _ _ _ (h4.ab hS.ab) (k4.ab hS.ab)) ?_)))))))));rintro r w6 ⟨rfl,hB6⟩;replace hS:=hS.aG hB6;refine ax (ai 28 kR rfl rfl) (mJ rfl (jp (aZ (vb rfl rfl) rfl ?_)));refine J1 ?_;refine ax (ai 36 kR rfl rfl) (cx rfl lV (bW (ai 36 kR rfl rfl) (bT (k:=1) rfl gO hS rfl rfl rfl (.inr rfl) (ax (ai 36 kR rfl rfl) (cx rfl lV (bW (ai 36 kR rfl rfl) (bT (k:=0) rfl gO hS rfl rfl rfl (.inr rfl) (fB (ai 36 kR rfl rfl) (ah Tryz.call19 rfl (pX _ _ _ _ _ _ (h5.ab hS.ab) (k5.ab hS.ab)) ?_)))))))));rintro r w7 ⟨rfl,hB7⟩;replace hS:=hS.aG hB7;refine ax (ai 36 kR rfl rfl) (mJ rfl (jp (aZ (vb rfl rfl) rfl ?_)));refine ja ?_;refine ct rfl (rfl) ?_;refine J4 ?_;refine jh (ah Tryz.call17 rfl (pP _ _ _ _ (h6.ab hS.ab) (k6.ab hS.ab)) ?_);rintro r w8 ⟨rfl,hB8⟩;replace hS:=hS.aG hB8;refine J2 ?_;refine ax (ai 50 kR rfl rfl) (cx rfl vJ (bW (ai 50 kR rfl rfl) (bT (k:=1) rfl dh hS rfl rfl rfl (.inr rfl) (ax (ai 50 kR rfl rfl) (cx rfl vJ (bW (ai 50 kR rfl rfl) (bT (k:=0) rfl dh hS rfl rfl rfl (.inr rfl) (fB (ai 50 kR rfl rfl) (ah Tryz.call17 rfl (pP _ _ _ _ (h7.ab hS.ab) (k7.ab hS.ab)) ?_)))))))));rintro r w9 ⟨rfl,hB9⟩;replace hS:=hS.aG hB9;refine ax (ai 50 kR rfl rfl) (mJ rfl (jp (aZ (vb rfl rfl) rfl ?_)));refine J1 ?_;refine ax (ai 58 kR rfl rfl) (cx rfl ou (bW (ai 58 kR rfl rfl) (bT (k:=1) rfl nW hS rfl rfl rfl (.inr rfl) (ax (ai 58 kR rfl rfl) (gV rfl ⟨_,Tryz.underlying36⟩ (ax (ai 58 kR rfl rfl) (cx rfl ou (bW (ai 58 kR rfl rfl) (bT (k:=0) rfl nW hS rfl rfl rfl (.inr rfl) (ax (ai 58 kR rfl rfl) (gV rfl ⟨_,Tryz.underlying36⟩ (ax (ai 58 kR rfl rfl) (Ct rfl rfl (jp (aZ (vb rfl rfl) rfl ?_)))))))))))))));refine ja ?_;refine ct rfl (decide_eq_false (λh=>h rfl)) ?_;refine V1 ?_;refine aQ (σ:=Nat) (λi ρ w'=>i<=n/\ρ 2=pB ba/\ρ 3=pB bb/\ρ 5=iB i/\St w w' [(bb,38,[xM,xG,xD,xF,xN,xS,xR,.slice bU n dU]),(ba,38,[vM,vG,vD,vF,vN,vS,vR,.slice aU n cU])]) (λi=>n-i) 0
  ⟨Nat.zero_le _,rfl,rfl,rfl,hS⟩ ?_
 clear hS;rintro i ρ w2 ⟨hi,g2,g3,g5,hS⟩;refine jr ?_;refine jp (aI g5 (jp (cx g2 ou ?_)));refine V3 ?_;by_cases hlt:i<n
 ·refine V1 ?_;refine bk [jo 0,ju 1,jo 2,jo 3,ju 4,jo 5,ju 6,jo 7,jo 8,ju 9,jo 10] kR kR hS ?_;intro wz3 hS hBz3;refine jl rfl (cx g2 ou ?_);refine J1 ?_;refine jl rfl (aI g5 (jl rfl (aH (i:=i) rfl rfl (h8.ab hS.ab) oO dO iq (jm rfl (aO (i:=i) false rfl iN (h8.ab hS.ab) dO rfl rfl (.inr rfl) (jl rfl (cx g3 ou ?_)))))));refine J1 ?_;refine jl rfl (aI g5 (jl rfl (aH (i:=i) rfl rfl (k8.ab hS.ab) oO dO iq (jm rfl (aO (i:=i) false rfl iN (k8.ab hS.ab) dO rfl rfl (.inr rfl) (jl rfl (ub rfl rfl Tryz.underlying4 ?_)))))));refine ja ?_;refine ct rfl ((bne_self_eq_false _)) ?_;refine jr ?_;refine jp (aI g5 ?_);refine V2 ?_;exact⟨i+1,_,rfl,⟨hlt,jY,jY,vi rfl oO,hS⟩,oO⟩
 ·refine J2 ?_;refine jt ?_;refine bj rfl rfl ?_;exact⟨rfl,hS.ab⟩
def P4 (i:Nat):Rat:=if i=0 then((30:Int):Rat)else 0
def M1 (i:Nat):List iH:=if i=0 then [⟨-1,2,((40:Int):Rat)⟩,⟨1,2,((20:Int):Rat)⟩]else [⟨-1,2,((50:Int):Rat)⟩]
theorem Gc (r:RR) (a:Option Addr) (n c:Nat):Tryz.prog.built 51 [(0,cw r),(1,.slice a n c)]=some #[.bool r.neg,.string r.num,.string r.den,.slice a n c,aw]:=by kernel_rfl
theorem GK (a:Option Addr) (n c:Nat):Tryz.prog.built 51 [(1,.slice a n c)]=some #[.bool false,.string ⟨#[]⟩,.string ⟨#[]⟩,.slice a n c,aw]:=by kernel_rfl
theorem HY (a:Option Addr) (n c:Nat):Tryz.prog.built 29 [(0,.slice a n c)]=some #[.slice a n c,aw]:=by kernel_rfl
theorem LJ (w:World):
  dj Tryz.prog 32 #[] w λr w'=>∃(vE vD:Value) (ev:Nat->Value×Value) (LE DA:List bQ) (LC:List (List bQ)),r= .agg #[vE,vD]/\P3 2 P4 M1 (λ_=>[]) [] vE vD ev (λ_=>[]) (λ_=>[]) [] LE LC DA/\St w w' ((LE++LC.flatten)++DA):=by
 have hS:=St.init w;refine enter Tryz.func32 rfl Tryz.ntmps32 rfl ?_;refine J1 ?_;intro br wz1 hS hBz1;refine ja ?_;obtain⟨q3,hq3⟩:∃q:Rat,q=((30:Int):Rat):=⟨_,rfl⟩;obtain⟨q4,hq4⟩:∃q:Rat,q=((40:Int):Rat):=⟨_,rfl⟩;obtain⟨q2,hq2⟩:∃q:Rat,q=((20:Int):Rat):=⟨_,rfl⟩;obtain⟨q5,hq5⟩:∃q:Rat,q=((50:Int):Rat):=⟨_,rfl⟩;have h3:=λw=>dN 30 w dD dD;have h4:=λw=>dN 40 w dD dD;have h2:=λw=>dN 20 w dD dD;have h5:=λw=>dN 50 w dD dD;rw[<-hq3]at h3;rw[<-hq4]at h4;rw[<-hq2]at h2;rw[<-hq5]at h5;refine jr ?_;refine jh (ah Tryz.call33 rfl (h3 _) ?_);rintro r w1 ⟨rfl,hB1⟩;replace hS:=hS.aG hB1;refine jh (ah Tryz.call33 rfl (h4 _) ?_);rintro r w2 ⟨rfl,hB2⟩;replace hS:=hS.aG hB2;refine jp (bR rfl (pf _ _ _) (jh (ah Tryz.call33 rfl (h2 _) ?_)));rintro r w3 ⟨rfl,hB3⟩;replace hS:=hS.aG hB3;refine jp (bR rfl (pf _ _ _) (jh (dI (vs:=[_,_]) rfl kd rfl dD dD dD (by simp[Value.cells]) rfl hS ?_)));intro b6 wz2 hS hBz2;refine jp (bR rfl (Gc _ _ _ _) (jh (ah Tryz.call33 rfl (h5 _) ?_)));rintro r w4 ⟨rfl,hB4⟩;replace hS:=hS.aG hB4;refine jp (bR rfl (pf _ _ _) (jh (dI (vs:=[_]) rfl kd rfl dD dD dD (by simp[Value.cells]) rfl hS ?_)));intro b7 wz3 hS hBz3;refine jp (bR rfl (GK _ _ _) (jh (dI (vs:=[_,_]) rfl iL rfl dD dD dD (by simp[Value.cells]) rfl hS ?_)));intro bE wz4 hS hBz4;refine jp (bR rfl (HY _ _ _) ?_);refine J1 ?_;intro wz5 hS;refine jt ?_;refine dx (k:=3) rfl rfl nH hS rfl rfl ?_;obtain⟨s6,hs6⟩:=jz (Value.slice (some ⟨b6,0,none⟩) 2 2);obtain⟨s7,hs7⟩:=jz (Value.slice (some ⟨b7,0,none⟩) 1 1);have hS1:St w _ ([(bE,51,bl (q3,Value.slice (some ⟨b6,0,none⟩) 2 2,aw)++[.bool false,.string ⟨#[]⟩,.string ⟨#[]⟩,Value.slice (some ⟨b7,0,none⟩) 1 1,aw]),(b7,53,dg ⟨-1,2,q5⟩),(b6,53,dg ⟨-1,2,q4⟩++dg ⟨1,2,q2⟩)]++[_]):=hS;have hS2:=hS1.drop (List.sublist_append_left _ _);clear hS hS1;rw[<-hs6,<-hs7]at hS2;have e7: [Value.bool false,.string ⟨#[]⟩,.string ⟨#[]⟩,s7,aw]=bl (0,s7,aw):=by
  show _=ae (aj 0)++_;rw[gm];rfl
 rw[e7]at hS2;obtain⟨ev,hev⟩:∃ev:Nat->Value×Value,ev=λi=>if i=0 then(s6,aw)else(s7,aw):=⟨_,rfl⟩
 have hE:(aS 2 λi=>(P4 i,ev i)).flatMap bl=bl (q3,s6,aw)++bl (0,s7,aw):=by rw[hev,hq3];rfl
 have h6:(M1 0).flatMap dg=dg ⟨-1,2,q4⟩++dg ⟨1,2,q2⟩:=by rw[hq4,hq2];rfl
 have h7:(M1 1).flatMap dg=dg ⟨-1,2,q5⟩:=by rw[hq5];rfl
 rw[<-hE,<-h6,<-h7]at hS2;have g0:=Mw (enc:=bl) (b:=bE) (t:=51) (n:=2) (X:=aS 2 λi=>(P4 i,ev i)) fu (ao _ _) dD;have g6:=Mw (enc:=dg) (b:=b6) (t:=53) (n:=2) (X:=M1 0) gz rfl dD;have g7:=Mw (enc:=dg) (b:=b7) (t:=53) (n:=1) (X:=M1 1) gz rfl dD;have e0:ev 0=(s6,aw):=by rw[hev];rfl
 have e1:ev 1=(s7,aw):=by rw[hev];rfl
 refine⟨_,aw,ev,[(bE,51,(aS 2 λi=>(P4 i,ev i)).flatMap bl)],[],[[(b6,53,(M1 0).flatMap dg)],[(b7,53,(M1 1).flatMap dg)]],rfl,⟨⟨g0,?_,λi hi=> ?_⟩,λi hi=>⟨λwz wx _=> ?_⟩,⟨rfl,λwz wx _=>⟨Sl.nil _ _ _,λk hk=>absurd hk (Nat.not_lt_zero _)⟩⟩⟩,?_⟩
 ·have h:=(dw.nil.snoc g6).snoc g7;rw[<-hs6,<-hs7]at h;have r1:(aS 2 λi=>(ev i).1)=([]++[s6])++[s7]:=by rw[hev];rfl
  rw[r1];exact h
 ·match i,hi with
  |0,_=>rw[e0];exact⟨none,0,0,rfl⟩
  |1,_=>rw[e1];exact⟨none,0,0,rfl⟩
 ·have h:(ev i).2=aw:=by
   match i,hi with
   |0,_=>rw[e0]
   |1,_=>rw[e1]
  rw[h];exact⟨rfl,Sl.nil _ _ _,λk hk=>absurd hk (Nat.not_lt_zero _)⟩
 ·rw[List.append_nil];exact hS2.perm (List.Perm.cons _ (List.Perm.swap _ _ _))
noncomputable section
def Dm (g:fp) (A:Nat->List (List (List fG))) (i c:Nat):Rat:=cJ (λi=>gJ (g.e i).cl (A i)) (xS g A) i c-x7 g (cJ (λi=>gJ (g.e i).cl (A i)) (xS g A)) g.ds.length i c
def dz:fp:=yo 2 P4 M1 []
theorem HE {D0:Nat} (w:World) (hh:O0 D0 dz λ_=>[]) (h0:Dm dz (λ_=>[]) 0 0=((20:Int):Rat)) (h1:Dm dz (λ_=>[]) 1 0=((10:Int):Rat)):
  dj Tryz.prog 12 #[] w λr w'=>r= .bool true/\Below w.heap.size w w':=by
 have hS:=St.init w;refine enter Tryz.func12 rfl Tryz.ntmps12 rfl ?_;refine Y1 ?_;refine jh (ah Tryz.call32 rfl (LJ _) ?_);rintro r w2 ⟨vE,vD,ev,LE,DA,LC,rfl,hP,hS2⟩;obtain⟨hM,hA⟩:=hP.gr hS2;replace hS:=hS.aG hS2.ab;clear hS2;refine jh (ah Tryz.call9 rfl (xb vE vD dz _ _ (λ_=>[]) (λ_=>[]) (λ_=>[]) _ hM hA hh) ?_);rintro r w3 ⟨rs,LR,rfl,hR,hS3⟩;have hB3:=hS3.ab;replace hR:=hR _ _ hS3;clear hS3;obtain⟨vM,vG,vD',vF,vN,vS,vR,vU,uG,uD,uF,uN,e,m1,m2,m3,m4,m5,m6,m7,m8⟩:=hR;obtain⟨a1,c1,e1,_⟩:=m1.form;obtain⟨a2,c2,e2,_⟩:=m2.sl.form;obtain⟨a3,c3,e3,_⟩:=m3.sl.form;obtain⟨a4,c4,e4,_⟩:=m4.sl.form;obtain⟨a5,c5,e5,_⟩:=m5.sl.form;obtain⟨a6,c6,e6,_⟩:=m6.form;obtain⟨a7,c7,e7,_⟩:=m7.form;obtain⟨a8,c8,e8,_⟩:=m8.form;have hl5:uN.length=2:=by rw[m5.len];rfl
 rw[hl5]at e5;subst e1 e2 e3 e4 e5 e6 e7 e8 e;clear m1 m2 m3 m4 m6 m7 m8 hA hM;replace hS:=hS.aG hB3;have hW:=hS.ab;clear hS;have hS:=St.init w3;have r0:=m5.row 0 dD;have r1:=m5.row 1 dD;have t0:(mH dz.n dz.cn (Dm dz λ_=>[])).getD 0 []=aS 2 λc=>aj (Dm dz (λ_=>[]) 0 c):=aV _ _ dD;have t1:(mH dz.n dz.cn (Dm dz λ_=>[])).getD 1 []=aS 1 λc=>aj (Dm dz (λ_=>[]) 1 c):=aV _ _ dD;replace r0:Sl ae 3 w3 (uN.getD 0 undef) (aS 2 λc=>aj (Dm dz (λ_=>[]) 0 c)):=t0▸r0;replace r1:Sl ae 3 w3 (uN.getD 1 undef) (aS 1 λc=>aj (Dm dz (λ_=>[]) 1 c)):=t1▸r1;obtain⟨b0,d0,f0,_⟩:=r0.form;obtain⟨b1,d1,f1,_⟩:=r1.form;rw[ao]at f0 f1;rw[f0]at r0;rw[f1]at r1;have l0:=ao 2 λc=>aj (Dm dz (λ_=>[]) 0 c);have l1:=ao 1 λc=>aj (Dm dz (λ_=>[]) 1 c);have hq0:decide ((aS 2 λc=>aj (Dm dz (λ_=>[]) 0 c)).getD 0 bM=aj ((20:Int):Rat))=true:=decide_eq_true (by rw[aV _ _ dD,h0]);have hq1:decide ((aS 1 λc=>aj (Dm dz (λ_=>[]) 1 c)).getD 0 bM=aj ((10:Int):Rat))=true:=decide_eq_true (by rw[aV _ _ dD,h1]);refine J4 ?_;intro bs wz1 hS hBz1;refine J1 ?_;intro wz2 hS;refine V1 ?_;refine K5 [0,1,3,7,15,31,63,127,255,511,1023,2047,4095,8191,16383,32767,65535,131071,262143,524287,1048575,2097151,4194303,8388607,16777215,33554431,67108863,134217727,268435455,536870911,1073741823,33554431,4294967295,8589934591,17179869183,34359738367,68719476735,137438953471,274877906943,549755813887,1099511627775,34359738367,4398046511103,8796093022207,17592186044415] [jo 0,jo 1,jo 2,jo 3,ju 4,jo 5,jo 6,jo 7,jo 8,jo 9,ju 10,jo 11,ju 12,jo 13,jo 14,jo 15,jo 16,jo 17,ju 18,jo 19,ju 20,jo 21,jo 22,jo 23,jo 24,jo 25,ju 26,jo 27,ju 28,jo 29,ju 30,jv 31,jo 32,jo 33,jo 34,jo 35,ju 36,jo 37,ju 38,jo 39,ju 40,jv 41,jo 42,jo 43,jo 44] kR kR hS ?_;intro wz3 hS hBz3;refine J3 ?_;refine bP rfl (ai 10 kR rfl rfl) (cx rfl lV (eY rfl (ai 10 kR rfl rfl) (bT (k:=0) rfl gO hS rfl rfl rfl (.inr rfl) (bP rfl (ai 10 kR rfl rfl) (aF rfl (m5.sl.ab hS.ab) ⟨_,Tryz.underlying35⟩ (bP rfl (ai 10 kR rfl rfl) (i7 rfl rfl (jl rfl (aZ (vb rfl rfl) rfl ?_)))))))));refine J1 ?_;refine bP rfl (ai 16 kR rfl dT) (cx rfl lV (eY rfl (ai 16 kR rfl dT) (bT (k:=0) rfl gO hS rfl rfl rfl (.inr rfl) (bP rfl (ai 16 kR rfl dT) (aH (i:=0) rfl rfl (m5.sl.ab hS.ab) oO dO cZ (eY rfl (ai 16 kR rfl dT) (aO (v:= .slice b0 2 d0) (i:=0) undef rfl dh (m5.sl.ab hS.ab) (by rw[hl5];decide) rfl (by rw[f0];rfl) (.inr rfl) (bP rfl (ai 16 kR rfl dT) (aF rfl (r0.ab hS.ab) ⟨_,Tryz.underlying34⟩ (bP rfl (ai 16 kR rfl dT) (i7 rfl rfl (jl rfl (aZ (vb rfl dT) rfl ?_)))))))))))));refine J1 ?_;refine bP rfl (ai 24 kR rfl dT) (cx rfl lV (eY rfl (ai 24 kR rfl dT) (bT (k:=0) rfl gO hS rfl rfl rfl (.inr rfl) (bP rfl (ai 24 kR rfl dT) (aH (i:=1) rfl rfl (m5.sl.ab hS.ab) oO dO cZ (eY rfl (ai 24 kR rfl dT) (aO (v:= .slice b1 1 d1) (i:=1) undef rfl dh (m5.sl.ab hS.ab) (by rw[hl5];decide) rfl (by rw[f1];rfl) (.inr rfl) (bP rfl (ai 24 kR rfl dT) (aF rfl (r1.ab hS.ab) ⟨_,Tryz.underlying34⟩ (bP rfl (ai 24 kR rfl dT) (i7 rfl rfl (jl rfl (aZ (vb rfl dT) rfl ?_)))))))))))));refine J1 ?_;refine bP rfl (ai 32 kR rfl dT) (cx rfl lV (eY rfl (ai 32 kR rfl dT) (bT (k:=0) rfl gO hS rfl rfl rfl (.inr rfl) (bP rfl (ai 32 kR rfl dT) (aH (i:=0) rfl rfl (m5.sl.ab hS.ab) oO dO cZ (eY rfl (ai 32 kR rfl dT) (aO (v:= .slice b0 2 d0) (i:=0) undef rfl dh (m5.sl.ab hS.ab) (by rw[hl5];decide) rfl (by rw[f0];rfl) (.inr rfl) (bP rfl (ai 32 kR rfl dT) (aH (i:=0) rfl rfl (r0.ab hS.ab) rfl dO bJ (eY rfl (ai 32 kR rfl dT) (aO (i:=0) bM rfl aB (r0.ab hS.ab) dO rfl rfl (.inl rfl) (tK rfl (ai 32 kR rfl dT) (ah Tryz.call33 rfl (dN 20 _ dD dD) ?_)))))))))))));rintro r w5 ⟨rfl,hB5⟩;refine⟨hB5,?_⟩;replace hS:=hS.aG hB5;refine bP rfl (ai 32 kR rfl dT) (JO rfl rfl (jl rfl (aZ (vb rfl dT) rfl ?_)));refine J1 ?_;refine bP rfl (ai 42 kR rfl hq0) (cx rfl lV (eY rfl (ai 42 kR rfl hq0) (bT (k:=0) rfl gO hS rfl rfl rfl (.inr rfl) (bP rfl (ai 42 kR rfl hq0) (aH (i:=1) rfl rfl (m5.sl.ab hS.ab) oO dO cZ (eY rfl (ai 42 kR rfl hq0) (aO (v:= .slice b1 1 d1) (i:=1) undef rfl dh (m5.sl.ab hS.ab) (by rw[hl5];decide) rfl (by rw[f1];rfl) (.inr rfl) (bP rfl (ai 42 kR rfl hq0) (aH (i:=0) rfl rfl (r1.ab hS.ab) rfl dO bJ (eY rfl (ai 42 kR rfl hq0) (aO (i:=0) bM rfl aB (r1.ab hS.ab) dO rfl rfl (.inl rfl) (tK rfl (ai 42 kR rfl hq0) (ah Tryz.call33 rfl (dN 10 _ dD dD) ?_)))))))))))));rintro r w6 ⟨rfl,hB6⟩;refine⟨hB6,?_⟩;replace hS:=hS.aG hB6;refine bP rfl (ai 42 kR rfl hq0) (JO rfl rfl (jl rfl (aZ (vb rfl hq0) rfl ?_)));refine J1 ?_;refine jt ?_;refine bj rfl rfl ?_;exact⟨vb rfl hq1,hW.trans (hS.ab.mono hW.size)⟩
end
structure kQ (D0:Nat) (q:Rat):Prop where
 nn:0<=q
 mu:Mu D0 q
 le:q<=((2000:Nat):Rat)
theorem kQ.L {D0:Nat} {q:Rat} (h:kQ D0 q) (d0:0<D0) (s0:sz D0<=2):Sx.L q<=4:=by
 have h1:=h.mu.size d0 h.nn h.le;have h2:sz 2000<=2:=cK dD;omega
structure AV (P:Rat->Prop) (n i:Nat) (e:Jr) (A:List (List (List fG))):Prop where
 cash:P e.cash
 cn:e.cl.length<=7
 cl:∀c∈e.cl,-1<=c.h/\c.h<n/\c.h≠i/\0<=c.rk/\c.rk<=7/\P c.q
 an:A.length<=2
 tn:∀X∈A,X.length<=3
 pn:∀X∈A,∀l∈X,l.length<=8
 pt:∀X∈A,∀l∈X,∀p∈l,(p.c= -1/\p.cap=true\/0<=p.c/\p.c<e.cl.length)/\P p.q
 nd:(rz A).Nodup
abbrev EC (D0:Nat):=AV (kQ D0)
structure Hr (P:Rat->Prop) (g:fp) (A:Nat->List (List (List fG))):Prop where
 n0:0<g.n
 n:g.n<=8
 dn:g.ds.length<=6
 es:∀i,i<g.n->AV P g.n i (g.e i) (A i)
 W:∀d,d<g.ds.length->P (g.d d).W
 ln:∀d,d<g.ds.length->(g.d d).legs.length<=4
 lg:nj g
 ho:Iz g
 hl:∀d,d<g.ds.length->∀j,j<(g.d d).legs.length->(g.c (g.lg d j).1 (g.lg d j).2).h=(g.c (g.lg d 0).1 (g.lg d 0).2).h
 nd:(AL g).Nodup
structure GV (D0:Nat) (g:fp) (A:Nat->List (List (List fG))):Prop extends Hr (kQ D0) g A where
 d0:0<D0
 s0:sz D0<=2
theorem B7 {α:Type} {k:Nat}:∀ {X:List (List α)},(∀l∈X,l.length<=k)->X.flatten.length<=X.length*k
 | [],_=>Nat.zero_le _
 |l::X,h=>by
  have h1:=h l (List.mem_cons_self ..);have h2:=B7 (X:=X) λl hl=>h l (List.mem_cons_of_mem _ hl);rw[List.flatten_cons,List.length_append,List.length_cons,Nat.add_mul];omega
theorem yO (A:List (List (List fG))) {k:Nat} (h:k<A.length):∃R,rz A=(rz (A.take k)++fC (A.getD k []).flatten)++R:=by
 refine⟨rz (A.drop (k+1)),?_⟩;rw[<-C1 A h];unfold rz;rw[<-List.flatten_append,<-List.map_append,List.take_append_drop]
section
variable {D0 n i : Nat} {e : Jr} {A : List (List (List fG))}
theorem AV.fl (h:EC D0 n i e A) {X:List (List fG)} (hX:X∈A):X.flatten.length<=24:=by
 have h1:=B7 (h.pn X hX);have h2:=h.tn X hX;omega
theorem AV.m7 (h:EC D0 n i e A):(rz A).length<=7:=by
 have h1:∀c∈rz A,0<=c/\c<e.cl.length:=λc hc=>by
  unfold rz at hc;rw[List.mem_flatten]at hc;obtain⟨l,hl,hc⟩:=hc;rw[List.mem_map]at hl;obtain⟨X,hX,rfl⟩:=hl;obtain⟨p,hp,e1,e2⟩:=nJ hc;rw[List.mem_flatten]at hp;obtain⟨l,hl,hp⟩:=hp;rcases(h.pt X hX l hl p hp).1 with q|q
  ·exact absurd (e1▸q.1) e2
  ·rw[<-e1];exact q
 have h2:((rz A).map Int.toNat).Nodup:=by
  refine List.pairwise_map.2 (List.Pairwise.imp_of_mem (fun {a b} ha hb hne hab=>hne ?_) h.nd);have:=h1 a ha;have:=h1 b hb;omega
 have h3:((rz A).map Int.toNat).length<=(List.range e.cl.length).length:=List.Nodup.length_le_of_subset h2 λx hx=>by
  obtain⟨c,hc,rfl⟩:=List.mem_map.1 hx;have:=h1 c hc;rw[List.mem_range];omega
 rw[List.length_map,List.length_range]at h3;have:=h.cn;omega
theorem AV.QR (h:EC D0 n i e A) (d0:0<D0) (s0:sz D0<=2) (hn:n<=8):Pj e.cash e.cl A:=by
 have hMX:MX=1099511627776:=rfl;have hcn:=h.cn;have han:=h.an;refine⟨oO,oO,h.cash.nn,by have:=h.cash.L d0 s0;omega,λc hc=> ?_,λk hk=> ?_⟩
 ·obtain⟨a1,a2,_,a4,a5,a6⟩:=h.cl c hc;exact⟨⟨a1,oO⟩,⟨a4,a5⟩,a6.nn,by have:=a6.L d0 s0;omega⟩
 ·have hX:=bC A k [] hk;obtain⟨R,hR⟩:=yO A hk;have hnd:=h.nd;rw[hR,List.nodup_append,List.nodup_append]at hnd;obtain⟨⟨n1,n2,n3⟩,_,_⟩:=hnd;have hfl:=h.fl hX;have h7:=h.m7;rw[hR,List.length_append,List.length_append]at h7;refine⟨by have:=h.tn _ hX;omega,λj hj=>by have:=h.pn _ hX _ (bC _ j [] hj);omega,oO,n2,oO,λp hp=> ?_⟩;rw[List.mem_flatten]at hp;obtain⟨l,hl,hpl⟩:=hp;obtain⟨q1,q2⟩:=h.pt _ hX l hl p hpl;refine⟨?_,λ_=>q2.nn,by have:=q2.L d0 s0;omega⟩;rcases q1 with q|q
  ·exact .inl q
  ·refine .inr ⟨q.1,q.2,λhm=> ?_⟩;refine n3 p.c hm p.c ?_ rfl;unfold fC;exact List.mem_map.2 ⟨p,List.mem_filter.2 ⟨List.mem_flatten.2 ⟨l,hl,hpl⟩,decide_eq_true oO⟩,rfl⟩
end
theorem BT {l:List (Nat×Nat)} {j:Nat} (h:l.Nodup) (hj:j<l.length):l.getD j (0,0)∉l.take j:=by
 have e:l=l.take j++(l.getD j (0,0)::l.drop (j+1)):=by
  conv=>lhs;rw[<-List.take_append_drop j l,List.drop_eq_getElem_cons hj]
  rw[List.getD_eq_getElem?_getD,List.getElem?_eq_getElem hj];rfl
 rw[e,List.nodup_append]at h;exact λhm=>h.2.2 _ hm _ (List.mem_cons_self ..) rfl
theorem Gt (ds:List lK) {k:Nat} (h:k<ds.length):ds.flatMap lK.legs=((ds.take k).flatMap lK.legs++(ds.getD k mP).legs)++(ds.drop (k+1)).flatMap lK.legs:=by
 conv=>lhs;rw[<-List.take_append_drop k ds,List.drop_eq_getElem_cons h]
 rw[List.flatMap_append,List.flatMap_cons,List.getD_eq_getElem?_getD,List.getElem?_eq_getElem h,List.append_assoc];rfl
theorem HR (ds:List lK):∀k,k<=ds.length->dV (λd=>(ds.getD d mP).legs) k=(ds.take k).flatMap lK.legs
 |0,_=>rfl
 |k+1,h=>by
  rw[cH ds k mP oO,List.flatMap_append,List.flatMap_singleton,<-HR ds k oO];exact gA _ _
theorem H2 (P l:List (Nat×Nat)) (j:Nat):(P++l).getD (P.length+j) (0,0)=l.getD j (0,0):=by
 rw[List.getD_eq_getElem?_getD,List.getElem?_append_right oO,Nat.add_sub_cancel_left,<-List.getD_eq_getElem?_getD]
theorem M0 (g:fp):AL g=g.ds.flatMap lK.legs:=by
 have:=HR g.ds g.ds.length (Nat.le_refl _);rw[List.take_length]at this;exact this
section
variable {D0 : Nat} {g : fp} {A : Nat → List (List (List fG))}
theorem GV.QR (h:GV D0 g A):JR g A:=by
 have hMX:MX=1099511627776:=rfl;refine⟨h.n,by have:=h.dn;omega,λi hi=>(h.es i hi).QR h.d0 h.s0 h.n,λi hi c hc=> ?_,λk hk=> ?_⟩
 ·obtain⟨_,a2,a3,_⟩:=(h.es i hi).cl (g.c i c) (bC _ _ _ hc);exact⟨a3,a2⟩
 ·have hnd:=h.nd;rw[M0,Gt g.ds hk,List.nodup_append]at hnd;have hl:=h.ln k hk;have hw:=h.W k hk;refine⟨oO,hw.nn,by have:=hw.L h.d0 h.s0;omega,h.lg k hk,h.hl k hk,λj hj=> ?_⟩;have h1:=hnd.1;have h2:=BT h1 (j:=((g.ds.take k).flatMap lK.legs).length+j) (by rw[List.length_append];exact Nat.add_lt_add_left hj _);rw[H2,List.take_append,List.take_of_length_le oO,Nat.add_sub_cancel_left]at h2;exact h2
end
theorem kQ.sub {D0:Nat} {p q:Rat} (h:kQ D0 p) (g:kQ D0 q) (hle:q<=p):kQ D0 (p-q):=by
 have h1:=g.nn;have h2:=h.le;exact⟨by grind,h.mu.sub g.mu,by grind⟩
theorem kQ.min {D0:Nat} {p q:Rat} (h:kQ D0 p) (g:kQ D0 q):kQ D0 (r6 p q):=by
 unfold r6;split
 ·assumption
 ·assumption
theorem kQ.zero (D0:Nat):kQ D0 0:=⟨Rat.le_refl,Mu.zero,dD⟩
theorem Pc (p q:Rat):r6 p q<=p:=by
 unfold r6;split
 ·grind
 ·grind
theorem Ix {D0:Nat} {f:Nat->Rat} {p:fG} (hf:∀k,kQ D0 (f k)) (hp:kQ D0 p.q):kQ D0 (Gr f p):=by
 unfold Gr;split
 ·exact hp
 ·split
  ·exact(hf _).min hp
  ·exact hf _
theorem NX {f:Nat->Rat} {p:fG} (h:p.c≠-1):Gr f p<=f p.c.toNat:=by
 unfold Gr;rw[if_neg h];split
 ·exact Pc _ _
 ·exact Rat.le_refl
theorem Ob {D0:Nat} {s:(Nat->Rat)×Tr} {p:fG} (hf:∀k,kQ D0 (s.1 k)) (hp:kQ D0 p.q):∀k,kQ D0 ((Pt s p).1 k):=by
 intro k;unfold Pt;by_cases h:p.c= -1
 ·simp only[if_pos h];exact hf k
 ·simp only[if_neg h];unfold Ec;split
  ·exact(hf _).sub (Ix hf hp) (NX h)
  ·exact hf k
theorem JK:∀(l m:List Pa),qs (l++m)=qs l+qs m
 | [],m=>by show qs m=0+qs m;grind
 |p::l,m=>by
  show p.q+qs (l++m)=p.q+qs l+qs m;rw[JK l m];grind
structure TA (D0:Nat) (t:Tr):Prop where
 q:∀p∈t.ps,kQ D0 p.q
 s:t.sm=qs t.ps
theorem TA.add {D0:Nat} {t:Tr} (h:TA D0 t) {c:Int} {q:Rat} (hq:kQ D0 q):TA D0 (rS t ⟨c,q⟩):=by
 refine⟨λp hp=> ?_,?_⟩
 ·rcases List.mem_append.1 hp with h1|h1
  ·exact h.q p h1
  ·rw[List.mem_singleton.1 h1];exact hq
 ·show t.sm+q=qs (t.ps++[⟨c,q⟩]);rw[JK,<-h.s];show _=t.sm+(q+0);grind
theorem TA.zero (D0:Nat):TA D0 jZ:=⟨λp hp=>(by cases hp),rfl⟩
theorem DZ {D0:Nat} {f:Nat->Rat} {l:List fG} (hf:∀k,kQ D0 (f k)) (hp:∀p∈l,kQ D0 p.q):∀j,j<=l.length->(∀k,kQ D0 ((tY f l j).1 k))/\TA D0 (tY f l j).2
 |0,_=>⟨hf,TA.zero D0⟩
 |j+1,h=>by
  obtain⟨h1,h2⟩:=DZ hf hp j oO;have h3:=hp _ (bC l j nV oO);rw[sc f l oO];exact⟨Ob h1 h3,h2.add (Ix h1 h3)⟩
theorem DT {D0:Nat} {f:Nat->Rat} {m:List Int} (hf:∀k,kQ D0 (f k)):∀j,j<=m.length->TA D0 (Ba f m j)
 |0,_=>TA.zero D0
 |j+1,h=>by
  rw[r8 f m oO];exact(DT hf j oO).add (hf _)
theorem zQ {D0:Nat} {f:Nat->Rat} {X:List (List fG)} (hf:∀k,kQ D0 (f k)) (hp:∀l∈X,∀p∈l,kQ D0 p.q):∀i,i<=X.length->(∀k,kQ D0 ((qp f X i).1 k))/\∀t∈(qp f X i).2,TA D0 t
 |0,_=>⟨hf,λt ht=>(by cases ht)⟩
 |i+1,h=>by
  obtain⟨h1,h2⟩:=zQ hf hp i oO;obtain⟨h3,h4⟩:=DZ h1 (hp _ (bC X i [] oO)) (X.getD i []).length (Nat.le_refl _);refine⟨h3,λt ht=> ?_⟩;rcases List.mem_append.1 ht with q|q
  ·exact h2 t q
  ·rw[List.mem_singleton.1 q];exact h4
theorem kQ.aa {D0:Nat} {q:Rat} (h:kQ D0 q):q<=(AA:Rat):=by
 have h1:=h.le;have h2:((2000:Nat):Rat)<=(AA:Rat):=by exact_mod_cast (show 2000<=AA by decide)
 grind
theorem TA.nn {D0:Nat}:∀ {l:List Pa},(∀p∈l,kQ D0 p.q)->0<=qs l
 | [],_=>Rat.le_refl
 |p::l,h=>by
  have h1:=(h p (List.mem_cons_self ..)).nn;have h2:=TA.nn (l:=l) λp hp=>h p (List.mem_cons_of_mem _ hp);show 0<=p.q+qs l;grind
theorem TA.L {D0:Nat} {t:Tr} (h:TA D0 t) (d0:0<D0) (s0:sz D0<=2) (hn:t.ps.length<=24):Sx.L t.sm<=6:=by
 obtain⟨h1,h2,_⟩:=MW (D0:=D0) (l:=t.ps) λp hp=>⟨(h.q p hp).mu,(h.q p hp).aa⟩;rw[h.s];have h3:=h1.size d0 (TA.nn h.q) h2;have h4:sz (t.ps.length*AA)<=4:=cK (Nat.lt_of_le_of_lt (Nat.mul_le_mul_right _ hn) dD);omega
section
variable {D0 n i : Nat} {e : Jr} {A : List (List (List fG))}
theorem AV.q (h:EC D0 n i e A) (k:Nat):kQ D0 (i2 e.cl k):=by
 unfold i2;by_cases hk:k<e.cl.length
 ·exact(h.cl _ (bC _ _ _ hk)).2.2.2.2.2
 ·rw[List.getD_eq_getElem?_getD,List.getElem?_eq_none oO];exact kQ.zero D0
theorem AV.Rm (h:EC D0 n i e A) {X:List (List fG)} (hX:X∈A):(fC X.flatten).Nodup/\(fC X.flatten).length<=7:=by
 obtain⟨k,hk,rfl⟩:=List.getElem_of_mem hX;obtain⟨R,hR⟩:=yO A hk;have e1:A.getD k []=A[k]:=by rw[List.getD_eq_getElem?_getD,List.getElem?_eq_getElem hk];rfl
 rw[e1]at hR;have h1:=h.nd;have h2:=h.m7;rw[hR,List.nodup_append,List.nodup_append]at h1;rw[hR,List.length_append,List.length_append]at h2;exact⟨h1.1.2.1,oO⟩
theorem AV.lay (h:EC D0 n i e A) (d0:0<D0) (s0:sz D0<=2) {X:List (List fG)} (hX:X∈A):Jk e.cl X:=by
 have hcn:=h.cn;have hq:=h.q;have hp:∀l∈X,∀p∈l,kQ D0 p.q:=λl hl p hp=>(h.pt X hX l hl p hp).2;have hfl:=h.fl hX;have htn:=h.tn X hX;obtain⟨x1,x2⟩:=h.Rm hX;have hml:(nX X).length<=7:=by
  unfold nX;rw[(jI xZ _).length_eq];exact x2
 refine⟨oO,λk _=>by have:=(hq k).L d0 s0;omega,oO,oO,λj hj=>by have:=h.pn X hX _ (bC X j [] hj);omega,λj hj c hc=> ?_,λj hj c hc=> ?_,λj hj=> ?_,x1,oO⟩
 ·rcases(h.pt X hX _ (bC X j [] hj) _ (bC _ c nV hc)).1 with q|q
  ·exact .inl q.1
  ·exact .inr q
 ·have hl8:=h.pn X hX _ (bC X j [] hj);have hpl:=hp _ (bC X j [] hj);obtain⟨a1,_⟩:=zQ hq hp j oO;obtain⟨b1,b2⟩:=DZ a1 hpl c oO;have b3:=uR (qp (i2 e.cl) X j).1 (X.getD j []) c oO;refine⟨by have:=b2.L d0 s0 oO;omega,λk _=>by have:=(b1 k).L d0 s0;omega,by have:=(hpl _ (bC _ c nV hc)).L d0 s0;omega⟩
 ·obtain⟨a1,_⟩:=zQ hq hp X.length (Nat.le_refl _);have b2:=DT (m:=nX X) a1 j oO;have b3:=uC (qp (i2 e.cl) X X.length).1 (nX X) j oO;exact⟨by have:=b2.L d0 s0 oO;omega,by have:=(a1 ((nX X).getD j 0).toNat).L d0 s0;omega⟩
theorem A6 {cl:List iH} (hq:∀k,kQ D0 (i2 cl k)) (r:Nat):∀i,TA D0 (jS cl i r)
 |0=>TA.zero D0
 |i+1=>by
  unfold jS;split
  ·exact(A6 hq r i).add (hq i)
  ·exact A6 hq r i
theorem Jp {f:Nat->Rat} (hf:∀k,kQ D0 (f k)):∀n,0<=ay f n/\Mu D0 (ay f n)/\ay f n<=((n*2000:Nat):Rat)
 |0=>⟨Rat.le_refl,Mu.zero,by rw[Nat.zero_mul];exact Rat.le_refl⟩
 |n+1=>by
  obtain⟨h1,h2,h3⟩:=Jp hf n;have h:=hf n;have h4:=h.nn;have h5:=h.le;refine⟨?_,h2.add h.mu,?_⟩
  ·show 0<=ay f n+f n;grind
  ·show ay f n+f n<=_;rw[Nat.add_mul,Nat.one_mul,Rat.natCast_add];grind
theorem Nk {f:Nat->Rat} (hf:∀k,kQ D0 (f k)) (d0:0<D0) (s0:sz D0<=2) {k:Nat} (hk:k<=7):Sx.L (ay f k)<=4:=by
 obtain⟨h1,h2,h3⟩:=Jp hf k;have h4:=h2.size d0 h1 h3;have h5:sz (k*2000)<=2:=cK (Nat.lt_of_le_of_lt (Nat.mul_le_mul_right _ hk) dD);omega
theorem AV.RN (h:EC D0 n i e A) (d0:0<D0) (s0:sz D0<=2):MQ e.cl A:=by
 have hcn:=h.cn;have han:=h.an;refine⟨oO,λk _=>by have:=(h.q k).L d0 s0;omega,λk hk=> ?_,λj hj r=> ?_,λj hj=>by have:=Nk h.q d0 s0 (k:=j) oO;omega,oO,λk hk=>h.lay d0 s0 (bC A k [] hk)⟩
 ·obtain⟨_,_,_,a4,a5,_⟩:=h.cl _ (bC e.cl k fO hk);exact⟨a4,oO⟩
 ·have h1:=(A6 h.q r j).L d0 s0 (by have:=ve e.cl j r;omega);omega
end
def sf (n:Nat) (t:Tr):Prop:=∀p∈t.ps,p.c= -1\/0<=p.c/\p.c<n
theorem sf.add {n:Nat} {t:Tr} (h:sf n t) {c:Int} {q:Rat} (hc:c= -1\/0<=c/\c<n):sf n (rS t ⟨c,q⟩):=λp hp=>by
 rcases List.mem_append.1 hp with h1|h1
 ·exact h p h1
 ·rw[List.mem_singleton.1 h1];exact hc
theorem sf.zero (n:Nat):sf n jZ:=λp hp=>by cases hp
theorem HD {n:Nat} {f:Nat->Rat} {l:List fG} (hp:∀p∈l,p.c= -1\/0<=p.c/\p.c<n):∀j,j<=l.length->sf n (tY f l j).2
 |0,_=>sf.zero n
 |j+1,h=>by
  rw[sc f l oO];exact(HD hp j oO).add (hp _ (bC l j nV oO))
theorem Hz {n:Nat} {f:Nat->Rat} {m:List Int} (hm:∀c∈m,0<=c/\c<n):∀j,j<=m.length->sf n (Ba f m j)
 |0,_=>sf.zero n
 |j+1,h=>by
  rw[r8 f m oO];exact(Hz hm j oO).add (.inr (hm _ (bC m j 0 oO)))
theorem Ii {n:Nat} {f:Nat->Rat} {X:List (List fG)} (hp:∀l∈X,∀p∈l,p.c= -1\/0<=p.c/\p.c<n):∀i,i<=X.length->∀t∈(qp f X i).2,sf n t/\∃l∈X,t.ps.length<=l.length
 |0,_,t,ht=>by cases ht
 |i+1,h,t,ht=>by
  rcases List.mem_append.1 ht with q|q
  ·exact Ii hp i oO t q
  ·rw[List.mem_singleton.1 q];exact⟨HD (hp _ (bC X i [] oO)) _ (Nat.le_refl _),_,bC X i [] oO,by rw[uR _ _ _ (Nat.le_refl _)];exact Nat.le_refl _⟩
theorem DI (cl:List iH) (r:Nat):∀i,i<=cl.length->sf cl.length (jS cl i r)
 |0,_=>sf.zero _
 |i+1,h=>by
  unfold jS;split
  ·exact(DI cl r i oO).add (.inr ⟨oO,oO⟩)
  ·exact DI cl r i oO
theorem TA.ok {D0:Nat} {t:Tr} (h:TA D0 t):yq t:=⟨λp hp=>(h.q p hp).nn,h.s⟩
theorem TA.b {D0:Nat} {t:Tr} (h:TA D0 t) (hn:t.ps.length<=8):C8 D0 t:=⟨hn,λp hp=>⟨(h.q p hp).mu,(h.q p hp).aa⟩⟩
section
variable {D0 n i : Nat} {e : Jr} {A : List (List (List fG))}
theorem AV.pc (h:EC D0 n i e A) {X:List (List fG)} (hX:X∈A):∀l∈X,∀p∈l,p.c= -1\/0<=p.c/\p.c<e.cl.length:=λl hl p hp=>by
 rcases(h.pt X hX l hl p hp).1 with q|q
 ·exact .inl q.1
 ·exact .inr q
theorem AV.mm (h:EC D0 n i e A) {X:List (List fG)} (hX:X∈A):(∀c∈nX X,0<=c/\c<e.cl.length)/\(nX X).length<=7:=by
 obtain⟨x1,x2⟩:=h.Rm hX;have hp:=jI xZ (fC X.flatten);refine⟨λc hc=> ?_,by unfold nX;rw[hp.length_eq];exact x2⟩;obtain⟨p,hp1,e1,e2⟩:=nJ (hp.mem_iff.1 hc);rw[List.mem_flatten]at hp1;obtain⟨l,hl,hpl⟩:=hp1;rcases h.pc hX l hl p hpl with q|q
 ·exact absurd (e1▸q) e2
 ·rw[<-e1];exact q
theorem AV.Lu (h:EC D0 n i e A) {X:List (List fG)} (hX:X∈A):(Cu e.cl X).length<=4/\∀t∈Cu e.cl X,TA D0 t/\sf e.cl.length t/\t.ps.length<=8:=by
 have hp:∀l∈X,∀p∈l,kQ D0 p.q:=λl hl p hp=>(h.pt X hX l hl p hp).2;obtain⟨m1,m2⟩:=h.mm hX;obtain⟨a1,a2⟩:=zQ h.q hp X.length (Nat.le_refl _);have hl:=uP (i2 e.cl) X X.length;have htn:=h.tn X hX;refine⟨by unfold Cu;rw[List.length_append,hl];show _+1<=_;omega,λt ht=> ?_⟩;rcases List.mem_append.1 ht with q|q
 ·obtain⟨b1,l,hl,b2⟩:=Ii (h.pc hX) X.length (Nat.le_refl _) t q;have:=h.pn X hX l hl;exact⟨a2 t q,b1,oO⟩
 ·rw[List.mem_singleton.1 q];exact⟨DT a1 _ (Nat.le_refl _),Hz m1 _ (Nat.le_refl _),by rw[uC _ _ _ (Nat.le_refl _)];omega⟩
theorem AV.PV (h:EC D0 n i e A):∀t∈(gJ e.cl A).rk,TA D0 t/\sf e.cl.length t/\t.ps.length<=8:=λt ht=>by
 obtain⟨r,_,rfl⟩:=lR ht;exact⟨A6 h.q r _,DI _ _ _ (Nat.le_refl _),by have:=ve e.cl e.cl.length r;have:=h.cn;omega⟩
theorem OR (A:List (List (List fG))) (cl:List iH):((A.map (yf cl)).flatMap Pl.mem).Perm ((rz A).map Int.toNat):=by
 induction A with
 |nil=>exact List.Perm.refl _
 |cons X A ih=>
  rw[List.map_cons,List.flatMap_cons];have e1:rz (X::A)=fC X.flatten++rz A:=rfl;rw[e1,List.map_append];exact((jI xZ (fC X.flatten)).map Int.toNat).append ih
theorem AV.nn (h:EC D0 n i e A):∀c∈rz A,0<=c/\c<e.cl.length:=λc hc=>by
 unfold rz at hc;rw[List.mem_flatten]at hc;obtain⟨l,hl,hc⟩:=hc;rw[List.mem_map]at hl;obtain⟨X,hX,rfl⟩:=hl;obtain⟨p,hp,e1,e2⟩:=nJ hc;rw[List.mem_flatten]at hp;obtain⟨l,hl,hp⟩:=hp;rcases h.pc hX l hl p hp with q|q
 ·exact absurd (e1▸q) e2
 ·rw[<-e1];exact q
theorem AV.QU (h:EC D0 n i e A):iy (gJ e.cl A):=by
 have hr:=h.PV;refine⟨λt ht=>(hr t ht).1.ok,λt ht p hp=>(hr t ht).2.1 p hp,λp hp t ht=> ?_,λp hp t ht q hq=> ?_,?_,λp hp k hk=> ?_⟩
 ·obtain⟨X,hX,rfl⟩:=List.mem_map.1 hp;exact((h.Lu hX).2 t ht).1.ok
 ·obtain⟨X,hX,rfl⟩:=List.mem_map.1 hp;exact((h.Lu hX).2 t ht).2.1 q hq
 ·refine(OR A e.cl).nodup_iff.2 ?_;refine List.pairwise_map.2 (List.Pairwise.imp_of_mem (fun {a b} ha hb hne hab=>hne ?_) h.nd);have:=h.nn a ha;have:=h.nn b hb;omega
 ·obtain⟨X,hX,rfl⟩:=List.mem_map.1 hp;obtain⟨c,hc,rfl⟩:=List.mem_map.1 hk;have:=(h.mm hX).1 c hc;show c.toNat<e.cl.length;omega
theorem AV.RL (h:EC D0 n i e A):DR D0 (gJ e.cl A):=by
 have hr:=h.PV;refine⟨h.cn,by show(aS 8 _).length<=8;rw[ao];exact Nat.le_refl _,by show(A.map _).length<=2;rw[List.length_map];exact h.an,λp hp=> ?_,λp hp=> ?_,λt ht=>(hr t ht).1.b (hr t ht).2.2,λp hp t ht=> ?_⟩
 ·obtain⟨X,hX,rfl⟩:=List.mem_map.1 hp;show((nX X).map Int.toNat).length<=7;rw[List.length_map];exact(h.mm hX).2
 ·obtain⟨X,hX,rfl⟩:=List.mem_map.1 hp;exact(h.Lu hX).1
 ·obtain⟨X,hX,rfl⟩:=List.mem_map.1 hp;have:=(h.Lu hX).2 t ht;exact this.1.b this.2.2
end
section
variable {D0 : Nat} {g : fp} {A : Nat → List (List (List fG))}
theorem GV.ok (h:GV D0 g A):fo g (λi=>gJ (g.e i).cl (A i)) (qz (AL g)):=
 ⟨λi hi=>(h.es i hi).QU,λ_ _=>rfl,λi hi=>(h.es i hi).cash.nn,h.ho,h.lg,λ_ _ _ _=>by unfold qz;exact decide_eq_true_iff,h.nd⟩
theorem GV.b (h:GV D0 g A):px D0 g (λi=>gJ (g.e i).cl (A i)):=
 ⟨h.d0,h.s0,h.n0,h.n,h.dn,h.ln,λi hi=>(h.es i hi).RL,λi hi=>⟨(h.es i hi).cash.mu,(h.es i hi).cash.aa⟩,λd hd=>⟨(h.W d hd).nn,(h.W d hd).mu,(h.W d hd).aa⟩,λi hi=>Nat.le_trans (Nk (h.es i hi).q h.d0 h.s0 (k:=(g.e i).cl.length) (h.es i hi).cn) dD⟩
theorem GV.Q6 (h:GV D0 g A):O0 D0 g A:=⟨h.QR,λi hi=>(h.es i hi).RN h.d0 h.s0,h.ok,h.b⟩
theorem GV.QD (h:GV D0 g A):ND g (λi=>gJ (g.e i).cl (A i)) (qz (AL g)) (xS g A):=(NI h.ok h.b).2.1
end
theorem Mu.nat (D m:Nat):Mu D ((m:Int):Rat):=⟨(m:Int)*(D:Int),by rw[Rat.intCast_mul,Rat.intCast_natCast D]⟩
theorem kQ.nat {D m:Nat} (h:m<=2000):kQ D ((m:Int):Rat):=by
 refine⟨?_,Mu.nat D m,?_⟩
 ·rw[Rat.intCast_natCast];exact Rat.natCast_nonneg
 ·rw[Rat.intCast_natCast];exact qU h
def uj (q:Rat):Prop:=kQ 60 q/\q<=((30:Nat):Rat)
theorem uj.nat {m:Nat} (h:m<=30):uj ((m:Int):Rat):=⟨kQ.nat oO,by rw[Rat.intCast_natCast];exact qU h⟩
theorem uj.zero:uj 0:=⟨kQ.zero 60,dD⟩
theorem uj.ko (x:Nat):uj (gy x):=by
 unfold gy;split
 ·obtain⟨a,ha⟩:=jz (x/5%23);obtain⟨b,hb⟩:=jz (x/115%6);have ha2:a<23:=by rw[ha];exact Nat.mod_lt _ dD
  have hb2:b<6:=by rw[hb];exact Nat.mod_lt _ dD
  rw[<-ha,<-hb];have key:∀b,b<6->∀a,a<23->(0<=mkRat ((a:Nat):Int) (1+b)/\mkRat ((a:Nat):Int) (1+b)<=30)/\mkRat ((a:Nat):Int) (1+b)*60=(((a*(60/(1+b)):Nat):Int):Rat):=by decide+kernel
  obtain⟨⟨h1,h2⟩,h3⟩:=key b hb2 a ha2;exact⟨⟨h1,⟨_,h3⟩,Rat.le_trans h2 dD⟩,h2⟩
 ·split
  ·have h:x/5%4<4:=Nat.mod_lt _ dD;exact uj.nat oO
  ·have h:x/5%13<13:=Nat.mod_lt _ dD;exact uj.nat oO
theorem rZ (l m:List fG):fC (l++m)=fC l++fC m:=by
 unfold fC;rw[List.filter_append,List.map_append]
theorem JG {A:List (List (List fG))} {k:Nat} (h:(k:Int)∈rz A):AM k A=true:=by
 unfold rz at h;rw[List.mem_flatten]at h;obtain⟨l,hl,h⟩:=h;rw[List.mem_map]at hl;obtain⟨X,hX,rfl⟩:=hl;obtain⟨p,hp,e1,e2⟩:=nJ h;rw[List.mem_flatten]at hp;obtain⟨l,hl,hp⟩:=hp;exact List.any_eq_true.2 ⟨X,hX,List.any_eq_true.2 ⟨l,hl,List.any_eq_true.2 ⟨p,hp,decide_eq_true e1⟩⟩⟩
section
variable (A : List (List (List fG))) (p : Nat → Nat)
theorem uL:∀n t,∀q∈gQ A p n t,∃k:Nat,k<n/\q.c=k/\G5 (p 1) k=t+1/\AM k A=false/\uj q.q
 |0,_,q,hq=>by cases hq
 |n+1,t,q,hq=>by
  unfold gQ at hq;split at hq
  ·rename_i h;rcases List.mem_append.1 hq with h1|h1
   ·obtain⟨k,k1,k2⟩:=uL n t q h1;exact⟨k,oO,k2⟩
   ·rw[List.mem_singleton.1 h1];refine⟨n,Nat.lt_succ_self _,?_,h.1,h.2,?_⟩
    ·unfold rT;split<;>rfl
    ·unfold rT;split
     ·have:p 2/64%9<9:=Nat.mod_lt _ dD;exact uj.nat oO
     ·exact uj.zero
  ·obtain⟨k,k1,k2⟩:=uL n t q hq;exact⟨k,oO,k2⟩
theorem CG (n t:Nat):∀c∈fC (gQ A p n t),∃k:Nat,k<n/\c=k/\G5 (p 1) k=t+1/\AM k A=false:=λc hc=>by
 obtain⟨q,hq,e1,_⟩:=nJ hc;obtain⟨k,k1,k2,k3,k4,_⟩:=uL A p n t q hq;exact⟨k,k1,e1▸k2,k3,k4⟩
theorem rL:∀n t,(fC (gQ A p n t)).Nodup
 |0,_=>List.nodup_nil
 |n+1,t=>by
  unfold gQ;split
  ·rw[rZ,List.nodup_append];have e:fC [rT p n]=[(n:Int)]:=by
    unfold rT;split<;>(unfold fC;rw[List.filter_cons,if_pos (decide_eq_true (show(n:Int)≠-1 by omega))];rfl)
   rw[e];refine⟨rL n t,by simp,λa ha b hb hab=> ?_⟩;rw[List.mem_singleton]at hb;obtain⟨k,k1,k2,_⟩:=CG A p n t a ha;omega
  ·exact rL n t
theorem Lt (n:Nat):fC (pA A n p).flatten=fC (gQ A p n 0)++(fC (gQ A p n 1)++fC (gQ A p n 2)):=by
 have e:∀t,fC (if p 0/8%4=0/\t=p 0/32%3 then gQ A p n t++[My p]else gQ A p n t)=fC (gQ A p n t):=λt=>by
  split
  ·rw[rZ];show _++[]=_;rw[List.append_nil]
  ·rfl
 show fC (_++(_++(_++[])))=_;rw[List.append_nil,rZ,rZ,e,e,e]
theorem Le (n:Nat):(fC (pA A n p).flatten).Nodup/\∀c∈fC (pA A n p).flatten,∃k:Nat,k<n/\c=k/\AM k A=false:=by
 rw[Lt];have hm:=CG A p n;refine⟨?_,λc hc=> ?_⟩
 ·rw[List.nodup_append,List.nodup_append];refine⟨rL A p n 0,⟨rL A p n 1,rL A p n 2,λa ha b hb hab=> ?_⟩,λa ha b hb hab=> ?_⟩
  ·obtain⟨k,_,k2,k3,_⟩:=hm 1 a ha;obtain⟨l,_,l2,l3,_⟩:=hm 2 b hb;have:k=l:=oO;subst this;omega
  ·obtain⟨k,_,k2,k3,_⟩:=hm 0 a ha;rcases List.mem_append.1 hb with hb|hb
   ·obtain⟨l,_,l2,l3,_⟩:=hm 1 b hb;have:k=l:=oO;subst this;omega
   ·obtain⟨l,_,l2,l3,_⟩:=hm 2 b hb;have:k=l:=oO;subst this;omega
 ·rcases List.mem_append.1 hc with hc|hc
  ·obtain⟨k,k1,k2,_,k4⟩:=hm 0 c hc;exact⟨k,k1,k2,k4⟩
  ·rcases List.mem_append.1 hc with hc|hc
   ·obtain⟨k,k1,k2,_,k4⟩:=hm 1 c hc;exact⟨k,k1,k2,k4⟩
   ·obtain⟨k,k1,k2,_,k4⟩:=hm 2 c hc;exact⟨k,k1,k2,k4⟩
structure P8 (n:Nat):Prop where
 an:A.length<=2
 tn:∀X∈A,X.length<=3
 pn:∀X∈A,∀l∈X,l.length<=8
 pt:∀X∈A,∀l∈X,∀p∈l,(p.c= -1/\p.cap=true\/0<=p.c/\p.c<n)/\uj p.q
 nd:(rz A).Nodup
end
theorem P8.snoc {n:Nat} {A:List (List (List fG))} (h:P8 A n) (h2:A.length<2) (hn:n<=6) (p:Nat->Nat):P8 (A++[pA A n p]) n:=by
 have hm:∀ {P:List (List fG)->Prop},(∀X∈A,P X)->P (pA A n p)->∀X∈A++[pA A n p],P X:=λh1 h2 X hX=>by
  rcases List.mem_append.1 hX with h|h
  ·exact h1 X h
  ·rw[List.mem_singleton.1 h];exact h2
 have hx:∀ {P:List fG->Prop},(∀t,P (gQ A p n t))->(∀t,P (gQ A p n t++[My p]))->∀l∈pA A n p,P l:=λh1 h2 l hl=>by
  obtain⟨t,_,rfl⟩:=lR hl;by_cases e:p 0/8%4=0/\t=p 0/32%3
  ·rw[if_pos e];exact h2 t
  ·rw[if_neg e];exact h1 t
 have hl:=sK A p n;have hq:∀t,∀q∈gQ A p n t,(q.c= -1/\q.cap=true\/0<=q.c/\q.c<n)/\uj q.q:=λt q hq=>by
  obtain⟨k,k1,k2,_,_,k5⟩:=uL A p n t q hq;exact⟨.inr ⟨oO,oO⟩,k5⟩
 refine⟨by rw[List.length_append];show _+1<=2;omega,hm h.tn (by unfold pA;rw[ao];exact Nat.le_refl _),hm h.pn (hx (λt=>by have:=hl t;omega) λt=>by rw[List.length_append];have:=hl t;show _+1<=8;omega),hm h.pt (hx hq λt q hq2=> ?_),?_⟩
 ·rcases List.mem_append.1 hq2 with h1|h1
  ·exact hq t q h1
  ·rw[List.mem_singleton.1 h1];have:p 0/96%7<7:=Nat.mod_lt _ dD;exact⟨.inl ⟨rfl,rfl⟩,uj.nat oO⟩
 ·obtain⟨n1,n2⟩:=Le A p n;have e:rz (A++[pA A n p])=rz A++fC (pA A n p).flatten:=by
   unfold rz;rw[List.map_append,List.flatten_append,List.map_singleton,List.flatten_singleton]
  rw[e,List.nodup_append];refine⟨h.nd,n1,λa ha b hb hab=> ?_⟩;obtain⟨k,_,k2,k3⟩:=n2 b hb;rw[hab,k2]at ha;rw[JG ha]at k3;exact Bool.noConfusion k3
theorem Ng (size:Nat) (n:Nat->Nat) (Q:List (Nat->Nat)) (hn:∀i,n i<=6):∀j i,P8 (nY size n Q j i) (n i)
 |0,_=>⟨Nat.zero_le _,λ_ h=>absurd h (List.not_mem_nil),λ_ h=>absurd h (List.not_mem_nil),λ_ h=>absurd h (List.not_mem_nil),List.nodup_nil⟩
 |j+1,i=>by
  have h:=Ng size n Q hn j i;unfold nY;split
  ·rename_i e;exact h.snoc e.2 (hn i) _
  ·exact h
theorem FG (size:Nat) (L:List (Nat->Nat)):∀j i,∀c∈rU size L j i,-1<=c.h/\c.h<size/\c.h≠i/\0<=c.rk/\c.rk<=2/\uj c.q
 |0,_,c,hc=>by cases hc
 |j+1,i,c,hc=>by
  unfold rU at hc;split at hc
  ·rename_i e;rcases List.mem_append.1 hc with h|h
   ·exact FG size L j i c h
   ·rw[List.mem_singleton.1 h];have h2:(L.getD j z4) 2%3<3:=Nat.mod_lt _ dD;obtain⟨h,hh⟩:=jz ((L.getD j z4) 1% (size+1));obtain⟨k,hk⟩:=jz ((L.getD j z4) 0%size);have e1:=e.1;have h1:(NN size (L.getD j z4)).h=if h=k\/size<=h then-1 else(h:Int):=by rw[hh,hk];rfl
    rw[<-hk]at e1;refine⟨?_,?_,?_,by show(0:Int)<=((_:Nat):Int);omega,by show((_:Nat):Int)<=2;omega,uj.ko _⟩;all_goals
     rw[h1];split
     ·omega
     ·omega
  ·exact FG size L j i c hc
theorem Jf {p:Nat×Nat} {ds:List lK} (h:p∈ds.flatMap lK.legs):zJ p ds=true:=by
 obtain⟨d,hd,h⟩:=List.mem_flatMap.1 h;exact List.any_eq_true.2 ⟨d,hd,List.any_eq_true.2 ⟨p,h,decide_eq_true rfl⟩⟩
structure MN (ds:List lK) (n:Nat) (cl:Nat->List iH) (i c:Nat) (s:KE):Prop where
 m:∀q∈s.l,q.1<n/\q.2<(cl q.1).length/\zJ q ds=false/\((cl q.1).getD q.2 fO).h=s.ho/\(q.1<i\/q.1=i/\q.2<c)
 nd:s.l.Nodup
section
variable {ds : List lK} {n : Nat} {cl : Nat → List iH} {i c : Nat} {s : KE}
theorem MN.mono (h:MN ds n cl i c s) {i' c':Nat} (hl:i<i'\/i=i'/\c<=c'):MN ds n cl i' c' s:=⟨λq hq=>by
 obtain⟨a1,a2,a3,a4,a5⟩:=h.m q hq;exact⟨a1,a2,a3,a4,oO⟩,h.nd⟩
theorem MN.step (h:MN ds n cl i c s) (d:Nat->Nat) (hi:i<n) (hc:c<(cl i).length):MN ds n cl i (c+1) (jJ ds d i ((cl i).getD c fO) c s):=by
 have h0:=h.mono (i':=i) (c':=c+1) (.inr ⟨rfl,Nat.le_succ _⟩);unfold jJ;split
 ·exact h0
 ·rename_i e1;split
  ·rename_i e2;refine⟨λq hq=> ?_,?_⟩
   ·rcases List.mem_append.1 hq with h1|h1
    ·obtain⟨a1,a2,a3,a4,a5⟩:=h0.m q h1;refine⟨a1,a2,a3,?_,a5⟩;rcases e2.2 with e3|e3
     ·rw[e3]at h1;cases h1
     ·exact a4.trans e3.symm
    ·rw[List.mem_singleton.1 h1];refine⟨hi,hc,?_,rfl,.inr ⟨rfl,Nat.lt_succ_self _⟩⟩;cases hg:zJ (i,c) ds
     ·rfl
     ·exact absurd (.inl hg) e1
   ·rw[List.nodup_append];refine⟨h.nd,by simp,λa ha b hb hab=> ?_⟩;rw[List.mem_singleton]at hb;have:=(h.m a ha).2.2.2.2;rw[hab,hb]at this;rcases this with h1|h1
    ·exact absurd h1 (Nat.lt_irrefl _)
    ·exact absurd h1.2 (Nat.lt_irrefl _)
  ·exact⟨h0.m,h0.nd⟩
theorem Nu (d:Nat->Nat) (hi:i<n) (h:MN ds n cl i 0 s):∀c,c<=(cl i).length->MN ds n cl i c (De ds d i (cl i) c s)
 |0,_=>h
 |c+1,hc=>(Nu d hi h c oO).step d hi oO
theorem NJ (ds:List lK) (n:Nat) (cl:Nat->List iH) (d:Nat->Nat):∀i,i<=n->MN ds n cl i 0 (DK ds d cl i)
 |0,_=>⟨λq hq=>(by cases hq),List.nodup_nil⟩
 |i+1,hi=>(Nu d oO (NJ ds n cl d i oO) (cl i).length (Nat.le_refl _)).mono (.inl (Nat.lt_succ_self _))
end
structure Rr (n:Nat) (cl:Nat->List iH) (ds:List lK):Prop where
 k:ds.length<=3
 m:∀d∈ds,uj d.W/\d.legs.length<=4/\∃ho:Int,∀q∈d.legs,q.1<n/\q.2<(cl q.1).length/\((cl q.1).getD q.2 fO).h=ho
 nd:(ds.flatMap lK.legs).Nodup
theorem Nx (n:Nat) (cl:Nat->List iH) (hc:∀i,i<n->(cl i).length<=10) (D:List (Nat->Nat)):∀j,Rr n cl (Bc n cl D j)
 |0=>⟨Nat.zero_le _,λd hd=>(by cases hd),List.nodup_nil⟩
 |j+1=>by
  have h:=Nx n cl hc D j;unfold Bc;split
  ·rename_i e;obtain⟨d,hd⟩:=jz (D.getD j z4);obtain⟨ds,hds⟩:=jz (Bc n cl D j);rw[<-hds]at h e;rw[<-hd,<-hds];have b:=NJ ds n cl d n (Nat.le_refl _);have b4:=(EW ds d cl n hc n (Nat.le_refl _)).2;have hp:(Mb ds d cl n).Perm (DK ds d cl n).l:=by
    unfold Mb;split
    ·exact List.reverse_perm _
    ·exact List.Perm.refl _
   refine⟨by rw[List.length_append];show _+1<=3;omega,λx hx=> ?_,?_⟩
   ·rcases List.mem_append.1 hx with h1|h1
    ·exact h.m x h1
    ·rw[List.mem_singleton.1 h1];refine⟨uj.ko _,by show(Mb ds d cl n).length<=4;rw[hp.length_eq];exact b4,(DK ds d cl n).ho,λq hq=> ?_⟩;obtain⟨a1,a2,_,a4,_⟩:=b.m q (hp.mem_iff.1 hq);exact⟨a1,a2,a4⟩
   ·rw[List.flatMap_append,List.flatMap_singleton,List.nodup_append];refine⟨h.nd,hp.nodup_iff.2 b.nd,λx hx y hy hxy=> ?_⟩;have h1:=(b.m y (hp.mem_iff.1 hy)).2.2.1;rw[<-hxy,Jf hx]at h1;exact Bool.noConfusion h1
  ·exact h
def QI (n:Nat) (cash:List Nat) (L D:List (Nat->Nat)):fp:=yo (1+n%4) (gw cash) (rU (1+n%4) L L.length) (Bc (1+n%4) (rU (1+n%4) L L.length) D D.length)
def PU (n:Nat) (L Q:List (Nat->Nat)):Nat->List (List (List fG)):=nY (1+n%4) (λi=>(rU (1+n%4) L L.length i).length) Q Q.length
theorem OA (cash:List Nat) (i:Nat):uj (gw cash i):=by
 unfold gw;split
 ·exact uj.ko _
 ·exact uj.zero
theorem OW (n:Nat) (cash:List Nat) (L Q D:List (Nat->Nat)):Hr uj (QI n cash L D) (PU n L Q):=by
 obtain⟨m,hm⟩:=jz (1+n%4);have hm4:m<=4/\0<m:=oO;obtain⟨cl,hcl⟩:=jz (rU m L L.length);have hc6:∀i,(cl i).length<=6:=λi=>by rw[hcl];exact re m L _ i
 have hcc:∀i,∀c∈cl i,-1<=c.h/\c.h<m/\c.h≠i/\0<=c.rk/\c.rk<=2/\uj c.q:=λi=>by rw[hcl];exact FG m L L.length i
 obtain⟨ds,hds⟩:=jz (Bc m cl D D.length);have hd:Rr m cl ds:=by rw[hds];exact Nx m cl (λi _=>Nat.le_trans (hc6 i) dD) D D.length
 have hA:∀i,P8 (PU n L Q i) (cl i).length:=λi=>by
  unfold PU;rw[<-hm,<-hcl];exact Ng m _ Q hc6 Q.length i
 have hg:QI n cash L D=yo m (gw cash) cl ds:=by unfold QI;rw[<-hm,<-hcl,<-hds]
 rw[hg];obtain⟨A,hAe⟩:=jz (PU n L Q);rw[<-hAe]at hA⊢;have hn:(yo m (gw cash) cl ds).n=m:=Fm _ _ _ _;have he:∀i,i<m->(yo m (gw cash) cl ds).e i=⟨gw cash i,cl i⟩:=λi hi=>EM _ _ _ hi;have hcx:∀i,i<m->∀c,(yo m (gw cash) cl ds).c i c=(cl i).getD c fO:=λi hi c=>by unfold fp.c;rw[he i hi]
 have hcn:∀i,i<m->(yo m (gw cash) cl ds).cn i=(cl i).length:=λi hi=>by unfold fp.cn;rw[he i hi]
 have hdm:∀k,k<ds.length->((yo m (gw cash) cl ds).d k)∈ds:=λk hk=>bC ds k mP hk;have hlg:∀k,k<ds.length->∀j,j<((yo m (gw cash) cl ds).d k).legs.length->(yo m (gw cash) cl ds).lg k j∈((yo m (gw cash) cl ds).d k).legs:=λk hk j hj=>bC _ j (0,0) hj;refine⟨oO,oO,by have:=hd.k;show ds.length<=6;omega,λi hi=> ?_,λd h=>((hd.m _ (hdm d h))).1,λd h=>((hd.m _ (hdm d h))).2.1,λk hk j hj=> ?_,λi hi c hc hh=> ?_,λk hk j hj=> ?_,by rw[M0];exact hd.nd⟩
 ·rw[hn]at hi⊢;rw[he i hi];have a:=hA i;refine⟨OA cash i,by have:=hc6 i;show(cl i).length<=7;omega,λc hc=> ?_,a.an,a.tn,a.pn,a.pt,a.nd⟩;obtain⟨a1,a2,a3,a4,a5,a6⟩:=hcc i c hc;exact⟨a1,a2,a3,a4,oO,a6⟩
 ·obtain⟨_,_,ho,h⟩:=hd.m _ (hdm k hk);obtain⟨h1,h2,h3⟩:=h _ (hlg k hk j hj);exact⟨by rw[hn];exact h1,by rw[hcn _ h1];exact h2⟩
 ·rw[hn]at hi;rw[hcn i hi]at hc;rw[hcx i hi]at hh⊢;obtain⟨a1,a2,_⟩:=hcc i _ (bC (cl i) c fO hc);refine⟨((cl i).getD c fO).h.toNat,by rw[hn];omega,oO⟩
 ·obtain⟨_,_,ho,h⟩:=hd.m _ (hdm k hk);obtain⟨h1,_,h3⟩:=h _ (hlg k hk j hj);obtain⟨g1,_,g3⟩:=h _ (hlg k hk 0 oO);rw[hcx _ h1,hcx _ g1,h3,g3]
theorem AV.mono {P Q:Rat->Prop} (h:∀q,P q->Q q) {n i:Nat} {e:Jr} {A:List (List (List fG))} (a:AV P n i e A):AV Q n i e A:=
 ⟨h _ a.cash,a.cn,λc hc=>by obtain⟨a1,a2,a3,a4,a5,a6⟩:=a.cl c hc;exact⟨a1,a2,a3,a4,a5,h _ a6⟩,a.an,a.tn,a.pn,λX hX l hl p hp=>⟨(a.pt X hX l hl p hp).1,h _ (a.pt X hX l hl p hp).2⟩,a.nd⟩
theorem Hr.mono {P Q:Rat->Prop} (h:∀q,P q->Q q) {g:fp} {A:Nat->List (List (List fG))} (a:Hr P g A):Hr Q g A:=
 ⟨a.n0,a.n,a.dn,λi hi=>(a.es i hi).mono h,λd hd=>h _ (a.W d hd),a.ln,a.lg,a.ho,a.hl,a.nd⟩
theorem Hr.v {g:fp} {A:Nat->List (List (List fG))} (a:Hr uj g A):GV 60 g A:=⟨a.mono λ_ h=>h.1,dD,cK dD⟩
section
variable {f : Rat}
theorem Qq (hf:0<f) {p q:Rat}:p*f<q*f↔p<q:=by
 have key:∀ {a b:Rat},a<b->a*f<b*f:=fun {a b} h=>by
  have:=Rat.mul_pos (show 0<b-a by grind) hf;grind
 refine⟨λh=> ?_,key⟩;by_cases h1:p<q
 ·exact h1
 ·by_cases h2:q<p
  ·have:=key h2;grind
  ·have:p=q:=Rat.le_antisymm (Rat.not_lt.1 h2) (Rat.not_lt.1 h1);rw[this]at h;exact absurd h Rat.lt_irrefl
theorem B3 (hf:0<f) {p q:Rat}:p*f<=q*f↔p<=q:=by
 rw[<-Rat.not_lt,<-Rat.not_lt,Qq hf]
theorem Is (hf:0<f) (p:Rat):pQ (p*f)=pQ p*f:=by
 have h0:(0:Rat)=0*f:=(Rat.zero_mul f).symm;unfold pQ yu;by_cases h:0<=p
 ·rw[if_pos h,if_pos (by rw[h0];exact(B3 hf).2 h)]
 ·rw[if_neg h,if_neg λg=>h (by rw[h0]at g;exact(B3 hf).1 g)];exact h0
theorem n8 {g h:Nat->Rat} {n:Nat} (e:∀i,i<n->g i=h i*f):ay g n=ay h n*f:=by
 rw[aJ e,Rat.mul_comm,<-jg];exact aJ λi _=>Rat.mul_comm _ _
theorem getD_map' {α β:Type} (h:α->β) (l:List α) (i:Nat) (d:α) (d':β) (e:h d=d'):(l.map h).getD i d'=h (l.getD i d):=by
 rw[List.getD_eq_getElem?_getD,List.getD_eq_getElem?_getD,List.getElem?_map];cases l[i]?with
 |none=>exact e.symm
 |some x=>rfl
theorem Mh (hf:0<f) {q q':Nat->Rat} {k:Nat} (h:∀j,j<k->q' j=q j*f):fP q' k=fP q k*f:=n8 λj hj=>by rw[h j hj,Is hf]
theorem IR (hf:0<f) {W:Rat} {q q':Nat->Rat} {k:Nat} (h:∀j,j<k->q' j=q j*f):oP (W*f) q' k=oP W q k*f:=by
 rw[iP,iP,Mh hf h,Is hf W,<-Is hf (fP q k-pQ W)];congr 1;grind
theorem D5 (hf:0<f) {W:Rat} {q q':Nat->Rat} {k:Nat} (h:∀j,j<k+1->q' j=q j*f):mK (W*f) q' k=mK W q k*f:=by
 unfold mK;rw[IR hf h,IR hf λj hj=>h j oO];grind
theorem Ot (hf:0<f) {W:Rat} {q q':Nat->Rat} {n:Nat} (h:∀j,j<n->q' j=q j*f):qA (W*f) q' n=qA W q n*f:=by
 unfold qA;rw[n8 h,n8 λk hk=>D5 hf λj hj=>h j oO];grind
structure Mq (f:Rat) (g g':fp):Prop where
 n:g'.n=g.n
 dn:g'.ds.length=g.ds.length
 W:∀d,d<g.ds.length->(g'.d d).W=(g.d d).W*f
 lg:∀d,d<g.ds.length->(g'.d d).legs=(g.d d).legs
 cash:∀i,i<g.n->uy g' i=uy g i*f
 ho:∀d,d<g.ds.length->0<dB g d->CV g' d=CV g d
section
variable {g g' : fp} {B B' : Nat → Nat → Bool} {dl dl' : Nat → Nat → Rat} {Y Y' : Nat → Ly}
def QE (f:Rat) (g:fp) (dl dl':Nat->Nat->Rat):Prop:=∀d,d<g.ds.length->∀k,k<dB g d->dl' (g.lg d k).1 (g.lg d k).2=dl (g.lg d k).1 (g.lg d k).2*f
theorem Mq.l (S:Mq f g g') {d:Nat} (hd:d<g.ds.length):(∀k,g'.lg d k=g.lg d k)/\dB g' d=dB g d:=by
 unfold fp.lg dB;rw[S.lg d hd];exact⟨λ_=>rfl,rfl⟩
theorem Mq.q (S:Mq f g g') (h:QE f g dl dl') {d:Nat} (hd:d<g.ds.length):∀k,k<dB g d->qD g' dl' d k=qD g dl d k*f:=λk hk=>by
 unfold qD;rw[(S.l hd).1];exact h d hd k hk
theorem OT (hf:0<f) (S:Mq f g g') (h:QE f g dl dl') {j:Nat} (hr:∀i,i<g.n->iM g' B' dl' j i=iM g B dl j i*f):F0 g' B' dl' j=F0 g B dl j*f:=by
 unfold F0;rw[S.n,S.dn,n8 hr,Rat.add_mul];congr 1;refine n8 λd hd=> ?_;obtain⟨l1,l2⟩:=S.l hd;have hq:=S.q h hd;unfold gT;rw[l2,S.W d hd,Rat.add_mul];congr 1
 ·refine n8 λk hk=> ?_;rw[l1,D5 hf λj hj=>hq j oO];split
  ·rfl
  ·exact(Rat.zero_mul f).symm
 ·by_cases h0:0<dB g d
  ·rw[S.ho d hd h0,Ot hf hq];split
   ·rfl
   ·exact(Rat.zero_mul f).symm
  ·rw[if_neg λe=>h0 e.1,if_neg λe=>h0 e.1];exact(Rat.zero_mul f).symm
theorem FF (hf:0<f) (S:Mq f g g') (h:QE f g dl dl') {d:Nat} (hd:d<g.ds.length) {u u':Nat->Nat->Rat} (hu:∀i c,u' i c=u i c*f):∀k,k<=dB g d->∀i c,Fj g' dl' d u' k i c=Fj g dl d u k i c*f
 |0,_,i,c=>hu i c
 |k+1,hk,i,c=>by
  have ih:=FF hf S h hd hu k oO i c;show yp (Fj g' dl' d u' k) (g'.lg d k).1 (g'.lg d k).2 (mK (g'.d d).W (qD g' dl' d) k) i c=yp (Fj g dl d u k) (g.lg d k).1 (g.lg d k).2 (mK (g.d d).W (qD g dl d) k) i c*f;rw[(S.l hd).1,S.W d hd,D5 hf λj hj=>S.q h hd j oO];unfold yp;split
  ·rfl
  ·exact ih
theorem Fa (hf:0<f) (S:Mq f g g') (h:QE f g dl dl'):∀d,d<=g.ds.length->∀i c,x7 g' dl' d i c=x7 g dl d i c*f
 |0,_,_,_=>(Rat.zero_mul f).symm
 |d+1,hd,i,c=>by
  have ih:=Fa hf S h d oO;show Fj g' dl' d (x7 g' dl' d) (dB g' d) i c=Fj g dl d (x7 g dl d) (dB g d) i c*f;rw[(S.l (d:=d) oO).2];exact FF hf S h oO ih _ (Nat.le_refl _) i c
theorem L8 (hf:0<f) (S:Mq f g g') {x:Nat->Rat} (G:ND g Y B x) (hF:∀y:Nat->Rat,(∀i,i<g.n->0<=y i)->∀j,j<g.n->F0 g' B' (cJ Y' λi=>y i*f) j=F0 g B (cJ Y y) j*f):ND g' Y' B' λi=>x i*f:=by
 refine⟨λi hi=> ?_,λj hj=> ?_,λy h0 h1 j hj=> ?_⟩
 ·rw[S.n]at hi;exact Rat.mul_nonneg (G.nn i hi) (Rat.le_of_lt hf)
 ·rw[S.n]at hj;rw[hF x G.nn j hj,S.cash j hj,<-Rat.add_mul,<-G.fx j hj]
 ·rw[S.n]at h0 h1 hj;obtain⟨z,hz⟩:∃z:Nat->Rat,z=λi=>y i/f:=⟨_,rfl⟩;have hy:y=λi=>z i*f:=by
   funext i;rw[hz];exact(Rat.div_mul_cancel (ow hf)).symm
  rw[hy]at h0 h1⊢;have z0:∀i,i<g.n->0<=z i:=λi hi=>by
   have:=h0 i hi;rw[<-Rat.zero_mul f]at this;exact(B3 hf).1 this
  refine(B3 hf).2 (G.top z z0 (λi hi=> ?_) j hj);have:=h1 i hi;rw[hF z z0 i hi,S.cash i hi,<-Rat.add_mul]at this;exact(B3 hf).1 this
theorem Rj {a b:Rat} (h:a=b):a<=b:=h▸Rat.le_refl
theorem KZ {x y:Nat->Rat} (G:ND g Y B x) (H:ND g Y B y):∀i,i<g.n->x i=y i:=λi hi=>
 Rat.le_antisymm (H.top x G.nn (λj hj=>Rj (G.fx j hj)) i hi) (G.top y H.nn (λj hj=>Rj (H.fx j hj)) i hi)
end
end
def rQ (u:Nat->Nat) (c:iH):iH:=⟨c.h,((u c.rk.toNat:Nat):Int),c.q⟩
def Qm (u:Nat->Nat) (e:Jr):Jr:=⟨e.cash,e.cl.map (rQ u)⟩
def oZ (u:Nat->Nat) (g:fp):fp:=⟨g.es.map (Qm u),g.ds⟩
def ul (k:Nat):List Nat:=[[0,1,2],[0,1,7],[2,4,6],[0,3,4],[5,6,7]].getD k []
def eE (k r:Nat):Nat:=(ul k).getD r 0
section
variable {u : Nat → Nat}
theorem Dr (cl:List iH):i2 (cl.map (rQ u))=i2 cl:=by
 funext k;unfold i2;rw[List.getD_eq_getElem?_getD,List.getD_eq_getElem?_getD,List.getElem?_map];cases cl[k]?with
 |none=>rfl
 |some x=>rfl
theorem NZ (cl:List iH) {k:Nat} (h:k<cl.length):(cl.map (rQ u)).getD k fO=rQ u (cl.getD k fO):=by
 rw[List.getD_eq_getElem?_getD,List.getD_eq_getElem?_getD,List.getElem?_map,List.getElem?_eq_getElem h];rfl
theorem An (cl:List iH) (r:Nat):∀i,i<=cl.length->(∀c∈cl,c.rk.toNat≠r)->jS cl i r=jZ
 |0,_,_=>rfl
 |i+1,hi,h=>by
  unfold jS;rw[if_neg λe=>h _ (bC cl i fO hi) e.symm,An cl r i oO h]
theorem FP (cl:List iH) (hu:∀a,a<3->∀b,b<3->u a=u b->a=b) (hc:∀c∈cl,c.rk.toNat<3) {r:Nat} (hr:r<3):∀i,i<=cl.length->jS (cl.map (rQ u)) i (u r)=jS cl i r
 |0,_=>rfl
 |i+1,hi=>by
  have h3:=hc _ (bC cl i fO hi);unfold jS;rw[NZ cl hi,FP cl hu hc hr i oO,Dr];show(if u r=u (cl.getD i fO).rk.toNat then _ else _)=_;by_cases e:r=(cl.getD i fO).rk.toNat
  ·rw[if_pos e,if_pos (by rw[<-e])]
  ·rw[if_neg e,if_neg λg=>e (hu _ hr _ h3 g)]
def KD (t:Tr):Bool:= !t.ps.isEmpty
theorem Ez (c:Int):∀ {T:List Tr} {m:Rat},qc T->0<=m->mC (T.filter KD) m c=mC T m c
 | [],_,_,_=>rfl
 |t::T,m,hT,hm=>by
  rw[List.filter_cons];have hs:=hT.hd.s;by_cases h:t.ps=[]
  ·have e1:KD t=false:=by unfold KD;rw[h];rfl
   have e2:t.sm=0:=by rw[hs,h];rfl
   have e3:ko c t.ps=0:=by rw[h];rfl
   rw[e1,if_neg dD,Ez c hT.tl hm,gI,e2,e3,if_neg (by grind)];have:m-0=m:=by grind
   rw[this];grind
  ·have e1:KD t=true:=by
    unfold KD;cases hps:t.ps with
    |nil=>exact absurd hps h
    |cons a l=>rfl
   rw[e1,if_pos rfl,gI,gI];by_cases g:m<t.sm
   ·rw[if_pos g,if_pos g]
   ·rw[if_neg g,if_neg g,Ez c hT.tl (by grind)]
theorem P1 (F:Nat->Tr):aS 8 F=[F 0,F 1,F 2,F 3,F 4,F 5,F 6,F 7]:=rfl
theorem G9 (cl:List iH) (hc:∀c∈cl,c.rk.toNat<3) {k:Nat} (hk:k<5):(aS 8 λr=>jS (cl.map (rQ (eE k))) cl.length r).filter KD=(aS 8 λr=>jS cl cl.length r).filter KD:=by
 have hn:∀r,(∀a,a<3->eE k a≠r)->jS (cl.map (rQ (eE k))) cl.length r=jZ:=λr h=>by
  have h2:=An (cl.map (rQ (eE k))) r cl.length (by rw[List.length_map];exact Nat.le_refl _) λc hc2=>by
   obtain⟨b,hb,rfl⟩:=List.mem_map.1 hc2;show((_:Nat):Int).toNat≠r;rw[Int.toNat_natCast];exact h _ (hc b hb)
  exact h2
 have hz:∀r,3<=r->jS cl cl.length r=jZ:=λr h=>An cl r _ (Nat.le_refl _) λc hc2=>by have:=hc c hc2;omega
 have hs:(∀a,a<3->∀b,b<3->eE k a=eE k b->a=b)->∀r,r<3->jS (cl.map (rQ (eE k))) cl.length (eE k r)=jS cl cl.length r:=λhu r hr=>FP cl hu hc hr _ (Nat.le_refl _);obtain⟨F,hF⟩:=jz (λr=>jS (cl.map (rQ (eE k))) cl.length r);obtain⟨G,hG⟩:=jz (λr=>jS cl cl.length r);have hn':∀r,(∀a,a<3->eE k a≠r)->F r=jZ:=λr h=>by rw[hF];exact hn r h
 have hz':∀r,3<=r->G r=jZ:=λr h=>by rw[hG];exact hz r h
 have hs':(∀a,a<3->∀b,b<3->eE k a=eE k b->a=b)->∀r,r<3->F (eE k r)=G r:=λhu r hr=>by rw[hF,hG];exact hs hu r hr
 rw[<-hF,<-hG,P1,P1,hz' 3 dD,hz' 4 dD,hz' 5 dD,hz' 6 dD,hz' 7 dD];clear hn hz hs hF hG hz';match k,hk with
 |0,_=>
  have hs:=hs' dD;have s0:F 0=G 0:=hs 0 dD;have s1:F 1=G 1:=hs 1 dD;have s2:F 2=G 2:=hs 2 dD;rw[s0,s1,s2,hn' 3 dD,hn' 4 dD,hn' 5 dD,hn' 6 dD,hn' 7 dD]
 |1,_=>
  have hs:=hs' dD;have s0:F 0=G 0:=hs 0 dD;have s1:F 1=G 1:=hs 1 dD;have s2:F 7=G 2:=hs 2 dD;rw[s0,s1,s2,hn' 2 dD,hn' 3 dD,hn' 4 dD,hn' 5 dD,hn' 6 dD];rfl
 |2,_=>
  have hs:=hs' dD;have s0:F 2=G 0:=hs 0 dD;have s1:F 4=G 1:=hs 1 dD;have s2:F 6=G 2:=hs 2 dD;rw[s0,s1,s2,hn' 0 dD,hn' 1 dD,hn' 3 dD,hn' 5 dD,hn' 7 dD];rfl
 |3,_=>
  have hs:=hs' dD;have s0:F 0=G 0:=hs 0 dD;have s1:F 3=G 1:=hs 1 dD;have s2:F 4=G 2:=hs 2 dD;rw[s0,s1,s2,hn' 1 dD,hn' 2 dD,hn' 5 dD,hn' 6 dD,hn' 7 dD];rfl
 |4,_=>
  have hs:=hs' dD;have s0:F 5=G 0:=hs 0 dD;have s1:F 6=G 1:=hs 1 dD;have s2:F 7=G 2:=hs 2 dD;rw[s0,s1,s2,hn' 0 dD,hn' 1 dD,hn' 2 dD,hn' 3 dD,hn' 4 dD];rfl
theorem HM (cl:List iH) (A:List (List (List fG))):gJ (cl.map (rQ u)) A=⟨cl.length,aS 8 λr=>jS (cl.map (rQ u)) cl.length r,(gJ cl A).pl,(gJ cl A).tot⟩:=by
 have h:A.map (yf (cl.map (rQ u)))=A.map (yf cl):=List.map_congr_left λX _=>by
  unfold yf Cu;rw[Dr]
 unfold gJ;rw[List.length_map,h,Dr]
structure L3 (y y':Ly):Prop where
 pl:y'.pl=y.pl
 tot:y'.tot=y.tot
 rk:y'.rk.filter KD=y.rk.filter KD
 o:qc y.rk
 o':qc y'.rk
section
variable {y y' : Ly} {m : Rat}
theorem L3.gr (h:L3 y y') (hm:0<=m) (k:Nat):cy y' m k=cy y m k:=by
 rw[im,im,<-Ez _ h.o hm,<-Ez _ h.o' hm,h.rk]
theorem L3.ps (h:L3 y y') (hm:0<=m) (p:Pl):PS y' m p=PS y m p:=by
 unfold PS;rw[fS,fS];exact d9 λa _=>h.gr hm a
theorem L3.dc (h:L3 y y') (hm:0<=m) (k:Nat):dC y' m k=dC y m k:=by
 rw[o8,o8,gC,gC,h.pl,h.gr hm];congr 1;exact d9 λp _=>by rw[h.ps hm]
theorem L3.dr (h:L3 y y') (hm:0<=m):dR y' m=dR y m:=by
 rw[Nd,Nd,h.pl];exact d9 λp _=>by rw[h.ps hm]
end
theorem HJ (u:Nat->Nat) (g:fp):(oZ u g).n=g.n:=List.length_map ..
theorem CN (u:Nat->Nat) (g:fp) (i:Nat):(oZ u g).e i=Qm u (g.e i):=getD_map' _ g.es i OD OD rfl
theorem Ar (u:Nat->Nat) (g:fp) (i:Nat):(oZ u g).cn i=g.cn i:=by
 unfold fp.cn;rw[CN];exact List.length_map ..
theorem Ce (u:Nat->Nat) (g:fp) (i c:Nat):((oZ u g).c i c).h=(g.c i c).h:=by
 unfold fp.c;rw[CN];show(((g.e i).cl.map (rQ u)).getD c fO).h=_;rw[List.getD_eq_getElem?_getD,List.getD_eq_getElem?_getD,List.getElem?_map];cases (g.e i).cl[c]?with
 |none=>rfl
 |some x=>rfl
theorem FT (u:Nat->Nat) (g:fp):Mq 1 g (oZ u g):=
 ⟨HJ u g,rfl,λd _=>(Rat.mul_one _).symm,λd _=>rfl,λi _=>by unfold uy;rw[CN,Rat.mul_one];rfl,λd _ _=>Ce u g _ _⟩
section
variable {g : fp} {A : Nat → List (List (List fG))} {P : Rat → Prop}
theorem Hr.rk (a:Hr P g A) (hu:∀r,u r<=7):Hr P (oZ u g) A:=by
 have hn:=HJ u g;refine⟨by rw[hn];exact a.n0,by rw[hn];exact a.n,a.dn,λi hi=> ?_,a.W,a.ln,λd hd j hj=> ?_,λi hi c hc hh=> ?_,λd hd j hj=> ?_,a.nd⟩
 ·rw[hn]at hi⊢;rw[CN];have b:=a.es i hi;have hl:(Qm u (g.e i)).cl.length=(g.e i).cl.length:=List.length_map ..;refine⟨b.cash,by rw[hl];exact b.cn,λc hc=> ?_,b.an,b.tn,b.pn,by rw[hl];exact b.pt,b.nd⟩;obtain⟨d,hd,rfl⟩:=List.mem_map.1 hc;obtain⟨a1,a2,a3,a4,a5,a6⟩:=b.cl d hd;refine⟨a1,a2,a3,?_,?_,a6⟩
  ·show(0:Int)<=((_:Nat):Int);omega
  ·have:=hu d.rk.toNat;show((_:Nat):Int)<=7;omega
 ·have:=a.lg d hd j hj;rw[hn,Ar];exact this
 ·rw[hn]at hi⊢;rw[Ar]at hc;rw[Ce]at hh⊢;exact a.ho i hi c hc hh
 ·have:=a.hl d hd j hj;rw[Ce,Ce];exact this
theorem IU {D0:Nat} (h:GV D0 g A) {k:Nat} (hk:k<5) (h3:∀i,i<g.n->∀c∈(g.e i).cl,c.rk.toNat<3) (h':GV D0 (oZ (eE k) g) A) {i:Nat} (hi:i<g.n):L3 (gJ (g.e i).cl (A i)) (gJ ((oZ (eE k) g).e i).cl (A i)):=by
 have hn:=HJ (eE k) g;have o':=(h'.ok.ly i (by rw[hn];exact hi)).rk;have e:(oZ (eE k) g).e i=Qm (eE k) (g.e i):=CN _ _ _;refine⟨?_,?_,?_,(h.ok.ly i hi).rk,o'⟩
 ·rw[e];show(gJ ((g.e i).cl.map (rQ (eE k))) (A i)).pl=_;rw[HM]
 ·rw[e];show(gJ ((g.e i).cl.map (rQ (eE k))) (A i)).tot=_;rw[HM]
 ·rw[e];show(gJ ((g.e i).cl.map (rQ (eE k))) (A i)).rk.filter KD=_;rw[HM];exact G9 _ (h3 i hi) hk
theorem Q5 {D0:Nat} (h:GV D0 g A) {k:Nat} (hk:k<5) (h3:∀i,i<g.n->∀c∈(g.e i).cl,c.rk.toNat<3) (h':GV D0 (oZ (eE k) g) A):∀i,i<g.n->xS (oZ (eE k) g) A i=xS g A i:=by
 have hs:=FT (eE k) g;have h1:(0:Rat)<1:=dD;have e2:=L8 (Y':=λi=>gJ ((oZ (eE k) g).e i).cl (A i)) (B':=qz (AL g)) h1 hs h.QD λy hy j _=>by
  have hd:∀i,i<g.n->∀c,cJ (λi=>gJ ((oZ (eE k) g).e i).cl (A i)) (λi=>y i*1) i c=cJ (λi=>gJ (g.e i).cl (A i)) y i c*1:=λi hi c=>by
   show dC _ (y i*1) c=dC _ (y i) c*1;rw[Rat.mul_one,Rat.mul_one];exact(IU h hk h3 h' hi).dc (hy i hi) c
  refine OT h1 hs (λd hd2 k hk=>hd _ (h.lg d hd2 k hk).1 _) λi hi=> ?_;unfold iM;rw[Ar];refine n8 λc _=> ?_;rw[Ce,hd i hi];split
  ·rfl
  ·exact(Rat.zero_mul 1).symm
 intro i hi;have:=KZ h'.QD e2 i (by rw[hs.n];exact hi);rw[this,Rat.mul_one]
theorem KB.congr {w:World} {n n':Nat} {cn cn':Nat->Nat} {x x':Nat->Rat} {G D F N G' D' F' N':Nat->Nat->Rat} {S R S' R':Nat->Rat} {U U':Nat->Bool} {r:Value} (h:KB w n cn x G D F N S R U r) (hn:n'=n) (hc:∀i,i<n->cn' i=cn i) (ex:∀i,i<n->x' i=x i) (eG:∀i,i<n->∀c,G' i c=G i c) (eD:∀i,i<n->∀c,D' i c=D i c) (eF:∀i,i<n->∀c,F' i c=F i c) (eN:∀i,i<n->∀c,N' i c=N i c) (eS:∀i,i<n->S' i=S i) (eR:∀i,i<n->R' i=R i) (eU:∀i,i<n->U' i=U i):KB w n' cn' x' G' D' F' N' S' R' U' r:=by
 subst hn;have hr:∀ {f f':Nat->Nat->Rat},(∀i,i<n'->∀c,f' i c=f i c)->mH n' cn' f'=mH n' cn f:=λe=>bA λi hi=>by
  rw[hc i hi];exact bA λc _=>by rw[e i hi]
 have ht:∀ {f f':Nat->Rat},(∀i,i<n'->f' i=f i)->(aS n' λi=>aj (f' i))=aS n' λi=>aj (f i):=λe=>bA λi hi=>by rw[e i hi]
 obtain⟨vM,vG,vD,vF,vN,vS,vR,vU,uG,uD,uF,uN,e,h1,h2,h3,h4,h5,h6,h7,h8⟩:=h;exact⟨vM,vG,vD,vF,vN,vS,vR,vU,uG,uD,uF,uN,e,by rw[ht ex];exact h1,by rw[hr eG];exact h2,by rw[hr eD];exact h3,by rw[hr eF];exact h4,by rw[hr eN];exact h5,by rw[ht eS];exact h6,by rw[ht eR];exact h7,by rw[bA eU];exact h8⟩
theorem NV {D0:Nat} (h:GV D0 g A) {k:Nat} (hk:k<5) (h3:∀i,i<g.n->∀c∈(g.e i).cl,c.rk.toNat<3) (h':GV D0 (oZ (eE k) g) A) {w:World} {r:Value} (hR:Ol w (oZ (eE k) g) (λi=>gJ ((oZ (eE k) g).e i).cl (A i)) (xS (oZ (eE k) g) A) r):Ol w g (λi=>gJ (g.e i).cl (A i)) (xS g A) r:=by
 have hs:=FT (eE k) g;have hx:=Q5 h hk h3 h';have hx0:=h.QD.nn;have hy:=fun {i} hi=>IU h hk h3 h' (i:=i) hi;have hd:∀i,i<g.n->∀c,cJ (λi=>gJ (g.e i).cl (A i)) (xS g A) i c=cJ (λi=>gJ ((oZ (eE k) g).e i).cl (A i)) (xS (oZ (eE k) g) A) i c:=λi hi c=>by
  show dC _ (xS g A i) c=dC _ (xS (oZ (eE k) g) A i) c;rw[hx i hi];exact((hy hi).dc (hx0 i hi) c).symm
 have hf:∀i c,x7 g (cJ (λi=>gJ (g.e i).cl (A i)) (xS g A)) g.ds.length i c=x7 (oZ (eE k) g) (cJ (λi=>gJ ((oZ (eE k) g).e i).cl (A i)) (xS (oZ (eE k) g) A)) (oZ (eE k) g).ds.length i c:=λi c=>by
  have:=Fa (g':=oZ (eE k) g) (f:=1) dD hs (dl:=cJ (λi=>gJ (g.e i).cl (A i)) (xS g A)) (dl':=cJ (λi=>gJ ((oZ (eE k) g).e i).cl (A i)) (xS (oZ (eE k) g) A)) (λd hd2 j hj=>by rw[hd _ (h.lg d hd2 j hj).1,Rat.mul_one]) g.ds.length (Nat.le_refl _) i c;rw[Rat.mul_one]at this;exact this.symm
 refine KB.congr hR hs.n.symm (λi _=>(Ar _ g i).symm) (λi hi=> ?_) (λi hi c=> ?_) (λi hi=> ?_) (λi _ c=>hf i c) (λi hi c=> ?_) (λi hi=> ?_) (λi hi=> ?_) λi hi=> ?_;all_goals rw[hs.n]at hi
 ·exact(hx i hi).symm
 ·show cy _ (xS g A i) c=cy _ (xS (oZ (eE k) g) A i) c;rw[hx i hi];exact((hy hi).gr (hx0 i hi) c).symm
 ·exact hd i hi
 ·rw[hd i hi,hf]
 ·show pQ (xS g A i-_)=pQ (xS (oZ (eE k) g) A i-_);rw[hx i hi,(hy hi).tot]
 ·show dR _ (xS g A i)=dR _ (xS (oZ (eE k) g) A i);rw[hx i hi];exact((hy hi).dr (hx0 i hi)).symm
 ·show decide (_<=xS g A i)=decide (_<=xS (oZ (eE k) g) A i);rw[hx i hi,(hy hi).tot]
end
end
theorem IH:GV 60 dz λ_=>[]:=by
 have hn:dz.n=2:=rfl;have h30:kQ 60 ((30:Int):Rat):=kQ.nat (m:=30) dD;have h40:kQ 60 ((40:Int):Rat):=kQ.nat (m:=40) dD;have h20:kQ 60 ((20:Int):Rat):=kQ.nat (m:=20) dD;have h50:kQ 60 ((50:Int):Rat):=kQ.nat (m:=50) dD;refine⟨⟨dD,dD,dD,λi hi=> ?_,λd hd=>absurd hd (Nat.not_lt_zero _),λd hd=>absurd hd (Nat.not_lt_zero _),λd hd=>absurd hd (Nat.not_lt_zero _),λi hi c hc hh=> ?_,λd hd=>absurd hd (Nat.not_lt_zero _),List.nodup_nil⟩,dD,cK dD⟩
 ·rw[hn]at hi⊢;match i,hi with
  |0,_=>
   refine⟨h30,dD,λc hc=> ?_,dD,λX hX=>(by cases hX),λX hX=>(by cases hX),λX hX=>(by cases hX),List.nodup_nil⟩;rcases List.mem_cons.1 hc with rfl|hc
   ·exact⟨dD,dD,dD,dD,dD,h40⟩
   ·rw[List.mem_singleton.1 hc];exact⟨dD,dD,dD,dD,dD,h20⟩
  |1,_=>
   refine⟨kQ.zero 60,dD,λc hc=> ?_,dD,λX hX=>(by cases hX),λX hX=>(by cases hX),λX hX=>(by cases hX),List.nodup_nil⟩;rw[List.mem_singleton.1 hc];exact⟨dD,dD,dD,dD,dD,h50⟩
 ·rw[hn]at hi;match i,hi,c,hc with
  |0,_,0,_=>exact absurd rfl hh
  |0,_,1,_=>exact⟨1,dD,rfl⟩
  |1,_,0,_=>exact absurd rfl hh
  |0,_,c+2,h=>exact absurd (show c+2<2 from h) oO
  |1,_,c+1,h=>exact absurd (show c+1<1 from h) oO
noncomputable section
theorem zL (x:Nat->Rat) (i c:Nat) (m:Rat) (h:x i=m):cJ (λi=>gJ (dz.e i).cl []) x i c=dC (gJ (dz.e i).cl []) m c:=by
 rw[<-h];rfl
theorem OJ:xS dz (λ_=>[]) 0=30/\xS dz (λ_=>[]) 1=10:=by
 have G:=IH.QD;have hB:∀i c,qz (AL dz) i c=false:=λ_ _=>rfl;have h0:∀dl,F0 dz (qz (AL dz)) dl 0=0:=λdl=>by
  show(0+iM dz (qz (AL dz)) dl 0 0+iM dz (qz (AL dz)) dl 0 1)+0=0;have a:∀i,i<2->iM dz (qz (AL dz)) dl 0 i=0:=λi hi=>cj λc hc=>if_neg λe=>by
   match i,hi,c,hc with
   |0,_,0,_=>exact absurd e.1 dD
   |0,_,1,_=>exact absurd e.1 dD
   |1,_,0,_=>exact absurd e.1 dD
   |0,_,c+2,h=>exact absurd (show c+2<2 from h) oO
   |1,_,c+1,h=>exact absurd (show c+1<1 from h) oO
  rw[a 0 dD,a 1 dD];grind
 have h1:∀dl:Nat->Nat->Rat,F0 dz (qz (AL dz)) dl 1=dl 0 1:=λdl=>by
  show(0+iM dz (qz (AL dz)) dl 1 0+iM dz (qz (AL dz)) dl 1 1)+0=dl 0 1;have a:iM dz (qz (AL dz)) dl 1 1=0:=cj λc hc=>if_neg λe=>by
   match c,hc with
   |0,_=>exact absurd e.1 dD
   |c+1,h=>exact absurd (show c+1<1 from h) oO
  have b:iM dz (qz (AL dz)) dl 1 0=dl 0 1:=by
   show 0+(if(-1:Int)=((1:Nat):Int)/\qz (AL dz) 0 0=false then dl 0 0 else 0)+(if(1:Int)=((1:Nat):Int)/\qz (AL dz) 0 1=false then dl 0 1 else 0)=_;rw[if_neg (λe=>absurd e.1 dD),if_pos ⟨rfl,rfl⟩];grind
  rw[a,b];grind
 have e0:xS dz (λ_=>[]) 0=30:=by
  rw[G.fx 0 dD,h0];decide+kernel
 refine⟨e0,?_⟩;rw[G.fx 1 dD,h1,zL _ 0 1 30 e0];decide+kernel
theorem E0:Dm dz (λ_=>[]) 0 0=((20:Int):Rat)/\Dm dz (λ_=>[]) 1 0=((10:Int):Rat):=by
 obtain⟨e0,e1⟩:=OJ;unfold Dm;rw[zL _ 0 0 30 e0,zL _ 1 0 10 e1];refine⟨?_,?_⟩
 ·show dC (gJ (dz.e 0).cl []) 30 0-0=_;decide+kernel
 ·show dC (gJ (dz.e 1).cl []) 10 0-0=_;decide+kernel
theorem MC (w:World):dj Tryz.prog 12 #[] w λr w'=>r= .bool true/\Below w.heap.size w w':=HE w IH.Q6 E0.1 E0.2
end
theorem Qv {w:World} {n:Nat} {cn:Nat->Nat} {x:Nat->Rat} {G D F N:Nat->Nat->Rat} {S R:Nat->Rat} {U:Nat->Bool} {a1:Option Addr} {l1 c1:Nat} {v2 v3 v4 v5 v6 v7 v8:Value} (h:KB w n cn x G D F N S R U (.agg #[.slice a1 l1 c1,v2,v3,v4,v5,v6,v7,v8])):l1=n:=by
 obtain⟨vM,vG,vD,vF,vN,vS,vR,vU,uG,uD,uF,uN,e,h1,_⟩:=h;obtain⟨a,c,e1,_⟩:=h1.form;injection e with e;injection e with e;injection e with e0 _;rw[<-e0,ao]at e1;injection e1
def G3 (u:Nat->Nat) (c:Nat) (l:List iH):List iH:=(l.take c).map (rQ u)++l.drop c
section
variable {u : Nat → Nat} {l : List iH} {c : Nat}
theorem H9 (u:Nat->Nat) (l:List iH):G3 u 0 l=l:=rfl
theorem LK (u:Nat->Nat) (l:List iH) (c:Nat):(G3 u c l).length=l.length:=by
 unfold G3;rw[List.length_append,List.length_map,List.length_take,List.length_drop];omega
theorem Mi (u:Nat->Nat) (l:List iH):G3 u l.length l=l.map (rQ u):=by
 unfold G3;rw[List.take_length,List.drop_length,List.append_nil]
theorem ML (h:c<l.length):(G3 u c l).getD c fO=l.getD c fO:=by
 unfold G3;rw[List.getD_eq_getElem?_getD,List.getD_eq_getElem?_getD,List.getElem?_append_right (by rw[List.length_map,List.length_take];omega),List.length_map,List.length_take,List.getElem?_drop,show c+(c-min c l.length)=c by omega]
theorem Me (h:c<l.length):(G3 u c l).set c (rQ u (l.getD c fO))=G3 u (c+1) l:=by
 have hl:((l.take c).map (rQ u)).length=c:=by rw[List.length_map,List.length_take];omega
 unfold G3;rw[cH l c fO h,List.map_append,List.drop_eq_getElem_cons h,List.set_append_right _ _ oO,hl,Nat.sub_self,List.append_assoc];rfl
end
def Cl (u:Nat->Nat) (cl:Nat->List iH) (i c j:Nat):List iH:=if j<i then(cl j).map (rQ u)else if j=i then G3 u c (cl j)else cl j
theorem Jl (u:Nat->Nat) (cl:Nat->List iH):Cl u cl 0 0=cl:=funext λj=>by
 unfold Cl;rw[if_neg (Nat.not_lt_zero _)];split<;>rfl
theorem IK (u:Nat->Nat) (cl:Nat->List iH) (i:Nat):Cl u cl i (cl i).length=Cl u cl (i+1) 0:=funext λj=>by
 unfold Cl;by_cases h:j<i
 ·rw[if_pos h,if_pos oO]
 ·rw[if_neg h];by_cases e:j=i
  ·rw[if_pos e,if_pos oO,e,Mi]
  ·rw[if_neg e,if_neg oO];split<;>rfl
theorem o6 (u:Nat->Nat) (cl:Nat->List iH) (i c:Nat):Cl u cl i c i=G3 u c (cl i):=by
 unfold Cl;rw[if_neg (Nat.lt_irrefl _),if_pos rfl]
theorem MA (u:Nat->Nat) (cl:Nat->List iH) {m i c:Nat} (hc:c<(cl i).length):(aS m (Cl u cl i c)).set i ((Cl u cl i c i).set c (rQ u ((cl i).getD c fO)))=aS m (Cl u cl i (c+1)):=by
 rw[eP,o6,Me hc];refine bA λj _=> ?_;by_cases e:j=i
 ·rw[if_pos e,e,o6]
 ·rw[if_neg e];unfold Cl;rw[if_neg e,if_neg e]
theorem K0 (u:Nat->Nat) (cl:Nat->List iH) (m:Nat):aS m (Cl u cl m 0)=aS m λj=>(cl j).map (rQ u):=bA λj hj=>by
 unfold Cl;rw[if_pos hj]
theorem Q2 {α:Type} (U LE LF DA:List α) (x y:α):(U++(x::(((LE++LF)++DA)++[y]))).Perm ((x::y::(U++(LE++DA)))++LF):=by
 classical
 refine List.perm_iff_count.2 λa=> ?_;simp only[List.count_append,List.count_cons,List.count_nil];omega
theorem QV {α:Type} (U LE LF DA:List α) (x y:α):((x::y::(U++(LE++DA)))++LF).Perm ([x,y]++(U++((LE++LF)++DA))):=by
 classical
 refine List.perm_iff_count.2 λa=> ?_;simp only[List.count_append,List.count_cons,List.count_nil];omega
def Nl (ba bb bc bd be:Nat):List Value:=[Value.slice (some ⟨ba,0,none⟩) 3 3,Value.slice (some ⟨bb,0,none⟩) 3 3,Value.slice (some ⟨bc,0,none⟩) 3 3,Value.slice (some ⟨bd,0,none⟩) 3 3,Value.slice (some ⟨be,0,none⟩) 3 3]
theorem Mj (k:Nat) (hk:k<5) (ba bb bc bd be bf:Nat) (T T2:TypeId) (cf:List Value):∀wz wx,St wz wx [(bf,T2,cf),(be,T,(ul 4).flatMap (uk .i64)),(bd,T,(ul 3).flatMap (uk .i64)),(bc,T,(ul 2).flatMap (uk .i64)),(bb,T,(ul 1).flatMap (uk .i64)),(ba,T,(ul 0).flatMap (uk .i64))]->Sl (uk .i64) 1 wx ((Nl ba bb bc bd be).getD k undef) (ul k):=by
 intro wz wx hS;have hu:∀x,(uk .i64 x).length=1:=λ_=>rfl;match k,hk with
 |0,_=>exact hS.sle (k:=5) (L:=ul 0) rfl hu (n:=3) (cap:=3) dD dD dD
 |1,_=>exact hS.sle (k:=4) (L:=ul 1) rfl hu (n:=3) (cap:=3) dD dD dD
 |2,_=>exact hS.sle (k:=3) (L:=ul 2) rfl hu (n:=3) (cap:=3) dD dD dD
 |3,_=>exact hS.sle (k:=2) (L:=ul 3) rfl hu (n:=3) (cap:=3) dD dD dD
 |4,_=>exact hS.sle (k:=1) (L:=ul 4) rfl hu (n:=3) (cap:=3) dD dD dD
theorem JB {k:Nat} (hk:k<5):(ul k).length=3:=by
 match k,hk with
 |0,_=>rfl
 |1,_=>rfl
 |2,_=>rfl
 |3,_=>rfl
 |4,_=>rfl
theorem PK {k:Nat} (hk:k<5) (r:Nat):eE k r<=7:=by
 unfold eE;by_cases h:r<(ul k).length
 ·have h2:=JB hk;have key:∀k,k<5->∀r,r<3->(ul k).getD r 0<=7:=dD;exact key k hk r oO
 ·rw[List.getD_eq_getElem?_getD,List.getElem?_eq_none oO];exact Nat.zero_le _
theorem NP (u:Nat->Nat) (n:Nat) (q:Nat->Rat) (cl:Nat->List iH) (ds:List lK):yo n q (λj=>(cl j).map (rQ u)) ds=oZ u (yo n q cl ds):=by
 unfold yo oZ;congr 1;show _=(aS n λi=>(⟨q i,cl i⟩:Jr)).map (Qm u);unfold aS;rw[List.map_map];rfl
theorem Bg (n s5:Nat) (vC vL vQ vD:Value) (cash:List Nat) (L Q D:List (Nat->Nat)) (w:World) (hC:Sl (uk .u16) 1 w vC cash) (hL:Sl ss 4 w vL L) (hQ:Sl gP 3 w vQ Q) (hD:Sl gP 3 w vD D)
  (hc:∀x∈cash,x<65536) (hl:∀x∈L,∀i,i<4->x i<65536) (hq:∀x∈Q,∀i,i<3->x i<65536) (hd:∀x∈D,∀i,i<3->x i<65536):
  dj Tryz.prog 4 #[.int .u8 n,vC,vL,vQ,vD,.int .u8 s5] w λr w'=>r= .bool true/\Below w.heap.size w w':=by
 have hS:=St.init w;obtain⟨g,hg⟩:=jz (QI n cash L D);obtain⟨A,hA⟩:=jz (PU n L Q);have hV:Hr uj g A:=by rw[hg,hA];exact OW n cash L Q D
 have hm4:n%4<4:=Nat.mod_lt _ dD;obtain⟨m,hm⟩:=jz (1+n%4);obtain⟨cl,hcl⟩:=jz (rU m L L.length);obtain⟨ds,hds⟩:=jz (Bc m cl D D.length);have hg2:g=yo m (gw cash) cl ds:=by rw[hg,hds,hcl,hm];rfl
 have hA2:nY m (λi=>(cl i).length) Q Q.length=A:=by rw[hA,hcl,hm];rfl
 have hcl6:∀i,(cl i).length<=6:=λi=>by rw[hcl];exact re m L _ i
 have hclc:=λi=>FG m L L.length i;rw[<-hcl]at hclc;have hgr:=λvC vL vQ vD w=>IM n vC vL vQ vD cash L Q D w;simp only[<-hm,<-hcl,<-hds,hA2]at hgr;obtain⟨k,hk⟩:=jz (s5%5);have hk5:k<5:=by rw[hk];exact Nat.mod_lt _ dD
 have hgn:g.n=m:=by rw[hg2];exact Fm _ _ _ _
 refine enter Tryz.func4 rfl Tryz.ntmps4 rfl ?_;refine J6 ?_;refine jh (ah Tryz.call7 rfl (hgr vC vL vQ vD _ (hC.ab hS.ab) (hL.ab hS.ab) (hQ.ab hS.ab) (hD.ab hS.ab) hc hl hq hd) ?_);rintro r w1 ⟨vE1,vY1,ev1,av1,pv1,dv1,LE1,DA1,LC1,rfl,hP1,hS1⟩;obtain⟨hM1,hA1⟩:=hP1.gr hS1;rw[<-hg2]at hM1 hA1;replace hS:=hS.aG hS1.ab;clear hS1 hP1;have hW:=hS.ab;clear hS;have hS:=St.init w1;obtain⟨aE1,cE1,hvE1,_⟩:=hM1.es.form;obtain⟨aD1,cD1,hvD1,_⟩:=hM1.ds.form;rw[ao]at hvE1 hvD1;subst hvE1 hvD1;refine J1 ?_;intro bg wz1 hS hBz1;refine J1 ?_;intro wz2 hS;refine ja ?_;replace hS:St w1 _ [(bg,29,[Value.slice aE1 g.n cE1,Value.slice aD1 g.ds.length cD1])]:=hS;refine J5 ?_;refine jh (ah Tryz.call7 rfl (hgr vC vL vQ vD _ ((hC.ab hW).ab hS.ab) ((hL.ab hW).ab hS.ab) ((hQ.ab hW).ab hS.ab) ((hD.ab hW).ab hS.ab) hc hl hq hd) ?_);rintro r w2 ⟨vE,vY,ev,av,pv,dv,LE,DA,LC,rfl,hP,hS2⟩;replace hS:=hS.join hS2;have hMx:=(hP.gr hS2).1;obtain⟨aE,cE,hvE⟩:=hP.e.e.len;obtain⟨aD,cD,hvD,_⟩:=hMx.ds.form;rw[ao]at hvE hvD;subst hvE hvD;clear hS2 hMx;refine J1 ?_;intro bh wz3 hS hBz3;refine J1 ?_;intro wz4 hS;refine ja ?_;replace hS:St w1 _ ((bh,29,[Value.slice aE m cE,Value.slice aD ds.length cD])::(((LE++LC.flatten)++DA)++[(bg,29,[Value.slice aE1 g.n cE1,Value.slice aD1 g.ds.length cD1])])):=hS;refine jr ?_;refine jh (dI (vs:=[_,_,_]) rfl ga rfl dD dD dD (by simp[Value.cells]) rfl hS ?_);intro ba wz5 hS hBz5;refine jh (dI (vs:=[_,_,_]) rfl ga rfl dD dD dD (by simp[Value.cells]) rfl hS ?_);intro bb wz6 hS hBz6;refine jh (dI (vs:=[_,_,_]) rfl ga rfl dD dD dD (by simp[Value.cells]) rfl hS ?_);intro bc wz7 hS hBz7;refine jh (dI (vs:=[_,_,_]) rfl ga rfl dD dD dD (by simp[Value.cells]) rfl hS ?_);intro bd wz8 hS hBz8;refine jh (dI (vs:=[_,_,_]) rfl ga rfl dD dD dD (by simp[Value.cells]) rfl hS ?_);intro be wz9 hS hBz9;refine jh (dI (vs:=[_,_,_,_,_]) rfl M9 rfl dD dD dD (by simp[Value.cells]) rfl hS ?_);intro bf wz10 hS hBz10;refine J1 ?_;refine jp (iJ rfl rfl oO (r:=((k:Nat):Int)) (by rw[hk];exact gH _ 5) ?_);refine jp (aH (i:=k) rfl rfl (hS.sle (enc:=lj) (L:=Nl ba bb bc bd be) (size:=1) (k:=0) (n:=5) (cap:=5) rfl (λ_=>rfl) (Nat.le_refl 5) dD dD) rfl hk5 M9 ?_);refine jq (aO (n:=1) (enc:=lj) (L:=(Nl ba bb bc bd be)) (vs:=Value.slice (some ⟨bf,0,none⟩) 5 5) (i:=k) undef rfl rA (hS.sle (enc:=lj) (L:=Nl ba bb bc bd be) (size:=1) (k:=0) (n:=5) (cap:=5) rfl (λ_=>rfl) (Nat.le_refl 5) dD dD) hk5 rfl rfl (.inr rfl) ?_);refine V1 ?_;obtain⟨vU,hvU⟩:=jz ((Nl ba bb bc bd be).getD k undef);rw[<-hvU];have hUs:=Mj k hk5 ba bb bc bd be bf 3 46 (Nl ba bb bc bd be);rw[<-hvU]at hUs;replace hS:St w1 _ ([(bf,46,Nl ba bb bc bd be),(be,3,(ul 4).flatMap (uk .i64)),(bd,3,(ul 3).flatMap (uk .i64)),(bc,3,(ul 2).flatMap (uk .i64)),(bb,3,(ul 1).flatMap (uk .i64)),(ba,3,(ul 0).flatMap (uk .i64))]++((bh,29,[Value.slice aE m cE,Value.slice aD ds.length cD])::(((LE++LC.flatten)++DA)++[(bg,29,[Value.slice aE1 g.n cE1,Value.slice aD1 g.ds.length cD1])]))):=hS;obtain⟨U,hU⟩:=jz ([(bf,46,Nl ba bb bc bd be),(be,3,(ul 4).flatMap (uk .i64)),(bd,3,(ul 3).flatMap (uk .i64)),(bc,3,(ul 2).flatMap (uk .i64)),(bb,3,(ul 1).flatMap (uk .i64)),(ba,3,(ul 0).flatMap (uk .i64))]);rw[<-hU]at hS hUs;replace hS:=hS.perm (Q2 U LE LC.flatten DA _ _);have hR:=hP.e.c;have hP2:=hP;clear hU hvU;refine J4 ?_;refine jb ?_;refine aW (λρ w'=>(ρ 13=pB bg/\ρ 14=pB bh)/\∃LZ,dw dg 53 5 (aS m λi=>(ev i).1) (aS m (Cl (eE k) cl m 0)) LZ/\St w1 w' (((bh,29,[Value.slice aE m cE,Value.slice aD ds.length cD])::(bg,29,[Value.slice aE1 g.n cE1,Value.slice aD1 g.ds.length cD1])::(U++(LE++DA)))++LZ.flatten)) ?_ ?_
 ·refine ja ?_;refine aQ (σ:=Nat) (λi ρ w'=>i<=m/\ρ 13=pB bg/\ρ 14=pB bh/\ρ 15=vU/\ρ 46=iB m/\ρ 47=iB i/\∃LZ,dw dg 53 5 (aS m λi=>(ev i).1) (aS m (Cl (eE k) cl i 0)) LZ/\St w1 w' (((bh,29,[Value.slice aE m cE,Value.slice aD ds.length cD])::(bg,29,[Value.slice aE1 g.n cE1,Value.slice aD1 g.ds.length cD1])::(U++(LE++DA)))++LZ.flatten)) (λi=>m-i) 0
   ⟨Nat.zero_le _,rfl,rfl,rfl,rfl,rfl,LC,by rw[Jl];exact hR,hS⟩ ?_
  clear hS hR;rintro i ρ w3 ⟨hi,h13,h14,h15,h46,h47,LZ,hR,hS⟩;refine V1 ?_;by_cases hlt:i<m
  ·refine V1 ?_;have hE:=hP.e.e.sl (H:=[]) (hS.drop ((List.sublist_append_left LE DA).trans ((List.sublist_append_right U (LE++DA)).trans ((List.sublist_cons_self (bg,29,[Value.slice aE1 g.n cE1,Value.slice aD1 g.ds.length cD1]) _).trans ((List.sublist_cons_self (bh,29,[Value.slice aE m cE,Value.slice aD ds.length cD]) _).trans (List.sublist_append_left _ _)))))) fu;have hte:=ao m λi=>(gw cash i,ev i);have hGi:=hR.g i (by rw[ao];exact hlt);rw[aV _ _ hlt,aV _ _ hlt,o6]at hGi;obtain⟨a1,c1,hv1⟩:=hGi.len;rw[H9]at hv1;have hel1:((aS m λi=>(gw cash i,ev i)).getD i iu).2.1=Value.slice a1 (cl i).length c1:=by rw[aV _ _ hlt];exact hv1
   refine J5 ?_;refine jp (aH (i:=i) rfl rfl hE oO dO iL ?_);refine jp (fL rfl (dZ hE (λ_=>rfl) dD dO) gS ?_);refine jq (fJ (v:= .slice a1 (cl i).length c1) (i:=i) (off:=3) iu rfl i6 hE (λ_=>rfl) dD oO rfl (by rw[<-hel1];rfl) (.inr rfl) ?_);refine J2 ?_;refine jb ?_;refine aW (λρ w'=>ρ 13=pB bg/\ρ 14=pB bh/\ρ 15=vU/\ρ 46=iB m/\ρ 47=iB i/\∃LZ,dw dg 53 5 (aS m λi=>(ev i).1) (aS m (Cl (eE k) cl i (cl i).length)) LZ/\St w1 w' (((bh,29,[Value.slice aE m cE,Value.slice aD ds.length cD])::(bg,29,[Value.slice aE1 g.n cE1,Value.slice aD1 g.ds.length cD1])::(U++(LE++DA)))++LZ.flatten)) ?_ ?_
   ·refine ja ?_;refine aQ (σ:=Nat) (λc ρ w'=>c<=(cl i).length/\ρ 13=pB bg/\ρ 14=pB bh/\ρ 15=vU/\ρ 16=iB i/\ρ 46=iB m/\ρ 47=iB i/\ρ 56=iB (cl i).length/\ρ 57=iB c/\∃LZ,dw dg 53 5 (aS m λi=>(ev i).1) (aS m (Cl (eE k) cl i c)) LZ/\St w1 w' (((bh,29,[Value.slice aE m cE,Value.slice aD ds.length cD])::(bg,29,[Value.slice aE1 g.n cE1,Value.slice aD1 g.ds.length cD1])::(U++(LE++DA)))++LZ.flatten)) (λc=>(cl i).length-c) 0
     ⟨Nat.zero_le _,h13,h14,h15,rfl,h46,h47,rfl,rfl,LZ,hR,hS⟩ ?_
    clear hS hR hGi hE h13 h14 h15 h46 h47;rintro c ρ w4 ⟨hcl2,h13,h14,h15,h16,h46,h47,h56,h57,LZ,hR,hS⟩;refine V1 ?_;have hc6:=hcl6 i;by_cases hlc:c<(cl i).length
    ·refine V1 ?_;obtain⟨x,hx⟩:=jz ((cl i).getD c fO);obtain⟨_,_,_,x4,x5,_⟩:=hclc i x (by rw[hx];exact bC _ _ _ hlc);obtain⟨r,hr⟩:=jz x.rk.toNat;have hrk:x.rk=((r:Nat):Int):=oO;have hr3:r<3:=oO;have hul:(ul k).length=3:=JB hk5;have hGi:=hR.g i (by rw[ao];exact hlt);rw[aV _ _ hlt,aV _ _ hlt,o6]at hGi;obtain⟨C,hC⟩:=jz (G3 (eE k) c (cl i));rw[<-hC]at hGi;have hCl:C.length=(cl i).length:=by rw[hC];exact LK _ _ _
     have hCx:C.getD c fO=x:=by rw[hC,ML hlc,hx]
     obtain⟨hGx,⟨_,h0,_⟩|⟨bq,cq,sp,hv,hLq,k1,k2,k3⟩⟩:=hGi
     ·omega
     have hLZ:LZ[i]?=some [(bq,53,C.flatMap dg++sp)]:=by
      rw[<-hLq,List.getD_eq_getElem?_getD,List.getElem?_eq_getElem (by rw[hR.ln,ao];exact hlt)];rfl
     have hLn:i<LZ.length:=(List.getElem?_eq_some_iff.1 hLZ).1;replace hS:=(eh hS hLZ).perm List.perm_append_comm;replace hS:St w1 w4 ((bq,53,C.flatMap dg++sp)::(((bh,29,[Value.slice aE m cE,Value.slice aD ds.length cD])::(bg,29,[Value.slice aE1 g.n cE1,Value.slice aD1 g.ds.length cD1])::(U++(LE++DA)))++(LZ.set i []).flatten)):=hS;have hGq:Gl dg 53 5 (Value.slice (some ⟨bq,0,none⟩) C.length cq) C [(bq,53,C.flatMap dg++sp)]:=⟨hGx,.inr ⟨bq,cq,sp,rfl,rfl,k1,k2,k3⟩⟩;have hF:=λwx (h:St w1 wx ((bq,53,C.flatMap dg++sp)::(((bh,29,[Value.slice aE m cE,Value.slice aD ds.length cD])::(bg,29,[Value.slice aE1 g.n cE1,Value.slice aD1 g.ds.length cD1])::(U++(LE++DA)))++(LZ.set i []).flatten)))=>
      have h2:=h.drop ((List.sublist_cons_self (bg,29,[Value.slice aE1 g.n cE1,Value.slice aD1 g.ds.length cD1]) _).trans ((List.sublist_cons_self (bh,29,[Value.slice aE m cE,Value.slice aD ds.length cD]) _).trans ((List.sublist_append_left _ _).trans (List.sublist_cons_self _ _))));And.intro (hP.e.e.sl (H:=[]) (h2.drop ((List.sublist_append_left LE DA).trans (List.sublist_append_right U (LE++DA)))) fu) (And.intro (hUs _ _ (h2.drop (List.sublist_append_left U _))) (hGq.sl (H:=[]) (h.drop (List.singleton_sublist.2 (List.mem_cons_self ..))) gz))
     have hel2:((aS m λi=>(gw cash i,ev i)).getD i iu).2.1=Value.slice (some ⟨bq,0,none⟩) C.length cq:=by rw[aV _ _ hlt];exact hv
     refine V2 ?_;refine bk [jo 0,ju 1,jo 2,jo 3,jo 4,ju 5,jo 6,jo 7,jo 8,ju 9,jo 10,jo 11,jo 12,ju 13,jo 14,jo 15,jo 16,ju 17,jo 18,ju 19,jo 20,jo 21,jw 22] kR kR hS ?_;intro wz11 hS hBz11;refine J3 ?_;refine jl rfl (aH (i:=i) rfl rfl (hF _ hS).1 oO dO iL ?_);refine jl rfl (fL rfl (dZ (hF _ hS).1 (λ_=>rfl) dD dO) gS ?_);refine jm rfl (fJ (v:= .slice (some ⟨bq,0,none⟩) C.length cq) (i:=i) (off:=3) iu rfl i6 (hF _ hS).1 (λ_=>rfl) dD oO rfl (by rw[<-hel2];rfl) (.inr rfl) ?_);refine J5 ?_;refine jl rfl (aH (i:=i) rfl rfl (hF _ hS).1 oO dO iL ?_);refine jl rfl (fL rfl (dZ (hF _ hS).1 (λ_=>rfl) dD dO) gS ?_);refine jm rfl (fJ (v:= .slice (some ⟨bq,0,none⟩) C.length cq) (i:=i) (off:=3) iu rfl i6 (hF _ hS).1 (λ_=>rfl) dD oO rfl (by rw[<-hel2];rfl) (.inr rfl) ?_);refine J1 ?_;refine jl rfl (aH (i:=c) rfl rfl (hF _ hS).2.2 oO dO kd ?_);refine jl rfl (fL rfl (dZ (hF _ hS).2.2 (λ_=>rfl) dD dO) uY ?_);refine jm rfl (fJ (v:= .int .i64 ((r:Nat):Int)) (i:=c) (off:=1) fO rfl eI (hF _ hS).2.2 (λ_=>rfl) dD oO rfl (by rw[hCx];exact congrArg (Value.int .i64) hrk) (.inr rfl) ?_);refine jl rfl (aH (i:=r) rfl rfl (hF _ hS).2.1 oO dO ga (jm rfl (aO (i:=r) 0 rfl eI (hF _ hS).2.1 dO rfl rfl (.inr rfl) (jl rfl (bn (i:=c) rfl rfl rfl oO kd ?_)))));refine J1 ?_;refine jx rfl (yP (k:=0) (o:=0+c*5+1) (i:=c) (off:=1) fO ⟨x.h,((eE k r:Nat):Int),x.q⟩ gz rfl rfl eI hS rfl oO oO rfl rfl dD (by rw[hCx];rfl) rfl ?_);intro wz12 hS;refine ja ?_;have hu:(⟨x.h,((eE k r:Nat):Int),x.q⟩:iH)=rQ (eE k) ((cl i).getD c fO):=by
      rw[<-hx];unfold rQ;rw[hr]
     rw[hu]at hS;obtain⟨C2,hC2⟩:=jz (C.set c (rQ (eE k) ((cl i).getD c fO)));have hC2l:C2.length=C.length:=by rw[hC2];exact List.length_set
     rw[<-hC2]at hS;replace hS:St w1 _ ([(bq,53,C2.flatMap dg++sp)]++(((bh,29,[Value.slice aE m cE,Value.slice aD ds.length cD])::(bg,29,[Value.slice aE1 g.n cE1,Value.slice aD1 g.ds.length cD1])::(U++(LE++DA)))++(LZ.set i []).flatten)):=hS;have hS9:=eW (P:=(bh,29,[Value.slice aE m cE,Value.slice aD ds.length cD])::(bg,29,[Value.slice aE1 g.n cE1,Value.slice aD1 g.ds.length cD1])::(U++(LE++DA))) (hS.perm List.perm_append_comm) hLn;have hGn:Gl dg 53 5 ((aS m λi=>(ev i).1).getD i undef) C2 [(bq,53,C2.flatMap dg++sp)]:=⟨cQ gz _,.inr ⟨bq,cq,sp,by rw[aV _ _ hlt,hC2l];exact hv,rfl,oO,k2,by rw[List.length_append,cQ gz]at k3⊢;rw[hC2l];exact k3⟩⟩;have hR9:=hR.set (by rw[ao];exact hlt) hGn;have e9:=MA (eE k) cl (m:=m) hlc;rw[o6,<-hC,<-hC2]at e9;rw[e9]at hR9;clear hS hF hGq hGx;refine V2 ?_;exact⟨c+1,_,rfl,⟨hlc,jY,jY,jY,jY,jY,jY,jY,vi rfl oO,_,hR9,hS9⟩,oO⟩
    ·refine J1 ?_;refine jt ?_;obtain rfl:c=(cl i).length:=oO;exact⟨_,rfl,h13,h14,h15,h46,h47,LZ,hR,hS⟩
   clear hS hR hGi hE h13 h14 h15 h46 h47;rintro ρ w5 ⟨h13,h14,h15,h46,h47,LZ,hR,hS⟩;refine V2 ?_;exact⟨i+1,_,rfl,⟨hlt,h13,h14,h15,h46,vi rfl oO,LZ,by rw[<-IK];exact hR,hS⟩,oO⟩
  ·refine J1 ?_;refine jt ?_;obtain rfl:i=m:=oO;exact⟨_,rfl,⟨h13,h14⟩,LZ,hR,hS⟩
 clear hS hR;rintro ρ w3 ⟨⟨h13,h14⟩,LZ,hR,hS⟩;rw[K0]at hR;replace hP:P3 m (gw cash) (λj=>(cl j).map (rQ (eE k))) A ds (Value.slice aE m cE) (Value.slice aD ds.length cD) ev av pv dv LE LZ DA:=⟨⟨hP.e.e,hR,hP.e.a⟩,hP.a,hP.d⟩;replace hS:=hS.perm (QV U LE LZ.flatten DA _ _);have hZs:∀(x y:bQ) (Z LR:List bQ),Z.Sublist (([x,y]++(U++Z))++LR):=λx y Z LR=>((List.sublist_append_right U Z).trans ((List.sublist_cons_self y _).trans (List.sublist_cons_self x _))).trans (List.sublist_append_left _ _);obtain⟨Z,hZ⟩:=jz ((LE++LZ.flatten)++DA);have hMs:∀wz wx,St wz wx Z->_:=λwz wx h=>hP.gr (hZ▸h);rw[NP,<-hg2]at hMs;rw[<-hZ]at hS;refine ja ?_;have h3:∀i,i<g.n->∀c∈(g.e i).cl,c.rk.toNat<3:=λi hi c hc=>by
  rw[hgn]at hi;rw[hg2,EM _ _ _ hi]at hc;obtain⟨_,_,_,x4,x5,_⟩:=hclc i c hc;omega
 have hV2:Hr uj (oZ (eE k) g) A:=hV.rk λr=>PK hk5 r;refine J1 ?_;refine jh (ah Tryz.call9 rfl (xb _ _ g _ _ A _ _ _ (hM1.ab hS.ab) (λi hi=>(hA1 i hi).ab hS.ab) hV.v.Q6) ?_);rintro r w5 ⟨rs,LR,rfl,hR1,hS5⟩;obtain⟨a1,l1,c1,a2,l2,c2,a3,l3,c3,a4,l4,c4,a5,l5,c5,a6,l6,c6,a7,l7,c7,a8,l8,c8,hrs⟩:=xy (hR1 _ _ hS5);subst hrs;obtain rfl:=Qv (hR1 _ _ hS5);replace hS:=(hS.join hS5).perm List.perm_append_comm;clear hS5;refine J4 ?_;intro bs wz13 hS hBz13;refine J1 ?_;intro wz14 hS;refine V1 ?_;replace hS:St w1 _ ((bs,38,[.slice a1 g.n c1,.slice a2 l2 c2,.slice a3 l3 c3,.slice a4 l4 c4,.slice a5 l5 c5,.slice a6 l6 c6,.slice a7 l7 c7,.slice a8 l8 c8])::(([(bh,29,[Value.slice aE m cE,Value.slice aD ds.length cD]),(bg,29,[Value.slice aE1 g.n cE1,Value.slice aD1 g.ds.length cD1])]++(U++Z))++LR)):=hS;refine J1 ?_;refine jh (ah Tryz.call9 rfl (xb _ _ (oZ (eE k) g) _ _ A _ _ _ (hMs _ _ (hS.drop ((hZs _ _ _ _).trans (List.sublist_cons_self _ _)))).1 (hMs _ _ (hS.drop ((hZs _ _ _ _).trans (List.sublist_cons_self _ _)))).2 hV2.v.Q6) ?_);rintro r w6 ⟨rs2,LR2,rfl,hR2,hS6⟩;obtain⟨d1,e1,f1,d2,e2,f2,d3,e3,f3,d4,e4,f4,d5,e5,f5,d6,e6,f6,d7,e7,f7,d8,e8,f8,hrs⟩:=xy (hR2 _ _ hS6);subst hrs;replace hS:=(hS.join hS6).perm List.perm_append_comm;clear hS6;refine J4 ?_;intro bt wz15 hS hBz15;refine J1 ?_;intro wz16 hS;refine V1 ?_;replace hS:St w1 _ ((bt,38,[.slice d1 e1 f1,.slice d2 e2 f2,.slice d3 e3 f3,.slice d4 e4 f4,.slice d5 e5 f5,.slice d6 e6 f6,.slice d7 e7 f7,.slice d8 e8 f8])::(((bs,38,[.slice a1 g.n c1,.slice a2 l2 c2,.slice a3 l3 c3,.slice a4 l4 c4,.slice a5 l5 c5,.slice a6 l6 c6,.slice a7 l7 c7,.slice a8 l8 c8])::(([(bh,29,[Value.slice aE m cE,Value.slice aD ds.length cD]),(bg,29,[Value.slice aE1 g.n cE1,Value.slice aD1 g.ds.length cD1])]++(U++Z))++LR))++LR2)):=hS;have hL1:∀(x y:bQ) (H LR LR2:List bQ),LR.Sublist (y::((x::(H++LR))++LR2)):=λx y H LR LR2=>(((List.sublist_append_right _ LR).trans (List.sublist_cons_self _ _)).trans (List.sublist_append_left _ _)).trans (List.sublist_cons_self _ _);have hL2:∀(y:bQ) (H LR2:List bQ),LR2.Sublist (y::(H++LR2)):=λy H LR2=>(List.sublist_append_right _ LR2).trans (List.sublist_cons_self _ _);refine jr ?_;refine jh (ah Tryz.call12 rfl (MC _) ?_);rintro r w7 ⟨rfl,hB7⟩;replace hS:=hS.aG hB7;refine J1 ?_;refine ax (ai 95 kR rfl rfl) (aI rfl (ax (ai 95 kR rfl rfl) (i7 rfl rfl (jp (aZ (vb rfl rfl) rfl ?_)))));refine J1 ?_;refine ax (ai 99 kR rfl (decide_eq_true rfl)) (aI rfl (ax (ai 99 kR rfl (decide_eq_true rfl)) (i7 rfl rfl (jp (aZ (vb rfl (decide_eq_true rfl)) rfl ?_)))));refine J1 ?_;refine bW (ai 103 kR rfl (decide_eq_true rfl)) (bT (k:=1) rfl nT hS rfl rfl rfl (.inl rfl) (bW (ai 103 kR rfl (decide_eq_true rfl)) (bT (k:=0) rfl nT hS rfl rfl rfl (.inl rfl) (fB (ai 103 kR rfl (decide_eq_true rfl)) (ah Tryz.call13 rfl (IT _ _ _ (hR1 _ _ (hS.drop (hL1 _ _ _ _ _))) (NV hV.v hk5 h3 hV2.v (hR2 _ _ (hS.drop (hL2 _ _ _))))) ?_)))));rintro r w8 ⟨rfl,hB8⟩;replace hS:=hS.aG hB8;refine jp (aZ (vb rfl (decide_eq_true rfl)) rfl ?_);refine J1 ?_;refine ax (ai 108 kR rfl rfl) (cx rfl Al (bW (ai 108 kR rfl rfl) (bT (k:=1) rfl dh hS rfl rfl rfl (.inr rfl) (ax (ai 108 kR rfl rfl) (gV rfl ⟨_,Tryz.underlying34⟩ (ax (ai 108 kR rfl rfl) (cx h13 mX (bW (ai 108 kR rfl rfl) (bT (k:=3) rfl jB hS rfl rfl rfl (.inr rfl) (ax (ai 108 kR rfl rfl) (gV rfl ⟨_,Tryz.underlying26⟩ (ax (ai 108 kR rfl rfl) (i7 rfl rfl (jp (aZ (vb rfl rfl) rfl ?_)))))))))))))));refine J1 ?_;refine jt ?_;refine bj rfl rfl ?_;exact⟨vb rfl (decide_eq_true rfl),hW.trans (hS.ab.mono hW.size)⟩
end Go.Proofs.YtoeiejliehgopaaGreatDoor
namespace Go.Sx
open Go Go.RowKit Go.ChangeShapes Go.WideShapes Go.Proofs.YtoeiejliehgopaaGreatDoor
section
variable {H : Type} {enc : TypeId × Value → H} {P : Program} {w : World}
theorem tP {K:Nat} {eK:(Nat->Nat)->List Value} (hK:∀x j u,(eK x)[j]?=some u->j<K/\u= .int .u16 (x j)) {t e q:TypeId} {v:Value} {d:DataW H} {ps:List MemPlace} {b0:Nat} (ht:P.underlying t=some (.slice e)) (he:P.underlying e=some (.array K q)) (hq:P.underlying q=some (.int .u16)) (hce:P.cellsOf e=K) (hcq:P.cellsOf q=1)
  (hval:Value.okWide P w .any b0 t v) (h:DataW.Trod enc P w 0 (λ_=>true) true t v d ps):∃l:List (Nat->Nat),Sl eK K w v l/\∀x∈l,∀i,i<K->x i<65536:=by
 obtain⟨a0,len0,cap0,rfl⟩:=okWide_slice ht hval;obtain⟨fuel,hf⟩:=h;rcases DataW.trod_slice ht hf with⟨h1,_⟩|⟨a,len,cap,elems,rest,n,_,h1,_,_,hlc,hm,hlen,hel,_,_⟩
 ·simp only[Value.cells,List.cons.injEq,and_true]at h1;rw[h1];exact⟨[],Sl.nil _ _ _,λx hx=>by cases hx⟩
 ·simp only[Value.cells,List.cons.injEq,and_true]at h1;rw[h1];have each:∀i,i<len->∃x:Nat->Nat,(∀j,j<K->x j<65536)/\∀j,j<K->w.cell? (a.add (i*K+j))=some (.int .u16 (x j)):=by
   intro i hi;have h2:=hel i hi;rw[hce,List.getElem?_eq_getElem (by omega:i<elems.length),Option.bind_eq_some_iff]at h2;obtain⟨cs,hcs,htr⟩:=h2;obtain⟨_,hcl,hcell⟩:=World.cells?_some hcs;obtain⟨xs,m,_,_,_,hxl,hxs⟩:=DataW.trod_array he htr;have hone:∀j,j<K->∃z:Nat,z<65536/\cs[j]?=some (.int .u16 (z:Int)):=by
    intro j hj;have h3:=hxs j hj;rw[hcq,Nat.mul_one,List.getElem?_eq_getElem oO]at h3;obtain⟨z,e1,_,hw⟩:=DataW.trod_int hq h3;have hb:=bounds_u16 hw;refine⟨z.toNat,oO,?_⟩;have h0:((cs.drop j).take 1)[0]?=some (.int .u16 z):=by rw[e1];rfl
    rw[Int.toNat_of_nonneg hb.1];simpa using h0
   refine⟨λj=>if hj:j<K then Classical.choose (hone j hj)else 0,λj hj=> ?_,λj hj=> ?_⟩
   ·simp only[hj,dite_true];exact(Classical.choose_spec (hone j hj)).1
   ·simp only[hj,dite_true];rw[<-(Classical.choose_spec (hone j hj)).2,<-hcell j hj,add_add]
  refine⟨(List.range len).map λi=>if hi:i<len then Classical.choose (each i hi)else λ_=>0,⟨⟨some a,cap,by simp,by simp;exact hlc,hm,λq=>by cases q⟩,λi hi=> ?_⟩,λx hx i hi=> ?_⟩
  ·have hil:i<len:=by simpa using hi
   intro j u hu;rw[List.getElem_map,List.getElem_range]at hu;simp only[hil,dite_true]at hu;obtain⟨hj,rfl⟩:=hK _ _ _ hu;show w.cell? ((a.add (i*K)).add j)=_;rw[add_add];exact(Classical.choose_spec (each i hil)).2 j hj
  ·obtain⟨k,hk,rfl⟩:=List.mem_map.1 hx;have hkl:=List.mem_range.1 hk;simp only[hkl,dite_true];exact(Classical.choose_spec (each k hkl)).1 i hi
end
theorem FX (x:Nat->Nat) (j:Nat) (u:Value) (h:(gP x)[j]?=some u):j<3/\u= .int .u16 (x j):=by
 match j,h with
 |0,h=>exact⟨dD,(Option.some.inj h).symm⟩
 |1,h=>exact⟨dD,(Option.some.inj h).symm⟩
 |2,h=>exact⟨dD,(Option.some.inj h).symm⟩
 |j+3,h=>cases h
theorem Lm (x:Nat->Nat) (j:Nat) (u:Value) (h:(ss x)[j]?=some u):j<4/\u= .int .u16 (x j):=by
 match j,h with
 |0,h=>exact⟨dD,(Option.some.inj h).symm⟩
 |1,h=>exact⟨dD,(Option.some.inj h).symm⟩
 |2,h=>exact⟨dD,(Option.some.inj h).symm⟩
 |3,h=>exact⟨dD,(Option.some.inj h).symm⟩
 |j+4,h=>cases h
end Go.Sx
