import Derived.Test.YtoeiejliehgopaaGreatDoorUd11
set_option maxRecDepth 20000
set_option maxHeartbeats 8000000
namespace Go.Proofs.YtoeiejliehgopaaGreatDoor
open Go Go.RowKit Go.Sx
def z4:Nat->Nat:=λ_=>0
def oP (cash:List Nat) (i:Nat):Rat:=if i<cash.length then oM (cash.getD i 0)else 0
def Uy (size:Nat) (c:Nat->Nat):rG:=⟨if c 1% (size+1)=c 0%size\/size<=c 1% (size+1)then-1 else((c 1% (size+1):Nat):Int),((c 2%3:Nat):Int),oM (c 3)⟩
def xZ (size:Nat) (L:List (Nat->Nat)):Nat->Nat->List rG
 |0,_=>[]
 |j+1,i=>if(L.getD j z4) 0%size=i/\(xZ size L j i).length<6 then xZ size L j i++[Uy size (L.getD j z4)]else xZ size L j i
def uT (size:Nat) (n:Nat->Nat) (Q:List (Nat->Nat)):Nat->Nat->List (List (List nD))
 |0,_=>[]
 |j+1,i=>if(Q.getD j z4) 0%size=i/\(uT size n Q j i).length<2 then uT size n Q j i++[wM (uT size n Q j i) (n i) (Q.getD j z4)]else uT size n Q j i
def E3 (size:Nat) (cl:Nat->List rG) (D:List (Nat->Nat)):Nat->List sV
 |0=>[]
 |j+1=>if(E3 size cl D j).length<3 then E3 size cl D j++[⟨oM ((D.getD j z4) 2),R9 (E3 size cl D j) (D.getD j z4) cl size⟩]else E3 size cl D j
theorem Bx (size:Nat) (L:List (Nat->Nat)):∀j i,(xZ size L j i).length<=6
 |0,_=>ax _
 |j+1,i=>by
  have:=Bx size L j i;unfold xZ;split
  ·rename_i h;rw[aw];show _+1<=_;omega
  ·exact this
theorem Kl (size:Nat) (n:Nat->Nat) (Q:List (Nat->Nat)):∀j i,(uT size n Q j i).length<=2
 |0,_=>ax _
 |j+1,i=>by
  have:=Kl size n Q j i;unfold uT;split
  ·rename_i h;rw[aw];show _+1<=_;omega
  ·exact this
theorem BH (size:Nat) (cl:Nat->List rG) (D:List (Nat->Nat)):∀j,(E3 size cl D j).length<=3
 |0=>ax _
 |j+1=>by
  have:=BH size cl D j;unfold E3;split
  ·rename_i h;rw[aw];show _+1<=_;omega
  ·exact this
theorem Ur:([.bool false,.string ⟨#[]⟩,.string ⟨#[]⟩,ke,ke]:List Value)=kA (0,ke,ke):=by
 show _=j6 (j9 0)++_;rw[oC];rfl
theorem NG {A E R new:List Value} {off:Nat} (h:off+new.length<=E.length):splice (A++(E++R)) (A.length+off) new=A++(splice E off new++R):=by
 unfold splice;rw[iJ,aU oO,cW,fD oO,aF,aF];congr 1;rw[aF,aF];congr 2;rw[List.drop_append,eY oO,ce,show A.length+off+new.length-A.length=off+new.length by omega,fE h]
theorem xr (i j:Int) (r:RR):Tryz.prog.built 53 [(0,.int .i64 i),(1,.int .i64 j),(2,lu r)]=some #[.int .i64 i,.int .i64 j,.bool r.neg,.string r.num,.string r.den]:=by kernel_rfl
theorem uL (xs:List rG):∀u∈xs.flatMap lZ,u.oneCell'=true:=by
 intro u hu;rw[du]at hu;obtain⟨x,_,h⟩:=hu;simp only[lZ,j6,bC,ct,fo]at h;rcases h with rfl|rfl|rfl|rfl|rfl<;>rfl
theorem JP (q:Rat):∀u∈[(q,ke,ke)].flatMap kA,u.oneCell'=true:=by
 intro u hu;rw[cI]at hu;simp only[kA,j6,bW,ce,bC,ct,fo]at hu;rcases hu with rfl|rfl|rfl|rfl|rfl<;>rfl
section
variable {P : Program} {N : Nat} {ρ : Nat → Value} {w0 w : World} {H : List kV} {d : Option Tmp} {ty : TypeId} {pos : String} {aft : Array Edge} {g : Option (Nat × Bool)} {x y : Operand} {K2 : Value → World → Prop} {b o k : Nat} {t t' : TypeId} {v : Value}
theorem Eu {α:Type} {enc:α->List Value} {size:Nat} {L:List α} {sp new:List Value} {i off n:Nat} {zz:List Value} {agg:Bool} (dd u:α) (hu:∀x,(enc x).length=size) (hx:ev N ρ x= .pointer (some ⟨b,o,none⟩)) (hy:ev N ρ y=v) (ht:lS P t=some (n,agg,zz)) (hS:St w0 w H) (hk:H[k]?=some (b,t',L.flatMap enc++sp))
  (ho:o=i*size+off) (hi:i<L.length) (hv:v.cells.toList=new) (hn:new.length=n) (hf:off+n<=size) (he:enc u=splice (enc (L.getD i dd)) off new) (h1:new.all (·.oneCell')=true)
  (h:∀w',St w0 w' (H.set k (b,t',(L.set i u).flatMap enc++sp))->K2 undef w'):pi P N ρ w ⟨d,.store t x y,ty,pos,aft,g⟩ K2:=by
 subst ho;have hle:(i+1)*size<=L.length*size:=aH _ hi;rw[bl]at hle;refine lG hx hy ht hS hk hv hn ?_ h1 (λw' hS'=>h w' ?_)
 ·rw[aw,lK hu];omega
 ·have e:splice (L.flatMap enc++sp) (i*size+off) new=(L.set i u).flatMap enc++sp:=by
   have hA:((L.take i).flatMap enc).length=i*size:=by rw[lK hu,cG,gS oO]
   rw[Da enc L dd hi,PY enc L u hi,he,aF,aF,<-hA,NG (by rw[hu];omega)];simp only[aF]
  rw[e]at hS';exact hS'
end
structure IR (D:List kV) (v:Value) (A:List (List (List nD))) (av:List Value) (pv:List (List Value)):Prop where
 g:∀wz wx,St wz wx D->GT wx v A av pv
theorem IR.mono {D D':List kV} {v:Value} {A:List (List (List nD))} {av:List Value} {pv:List (List Value)} (h:IR D v A av pv) (hs:D.Sublist D'):IR D' v A av pv:=⟨λwz wx hS=>h.g wz wx (hS.drop hs)⟩
structure WS (n:Nat) (q:Nat->Rat) (cl:Nat->List rG) (vE:Value) (ev:Nat->Value×Value) (LE:List kV) (LC:List (List kV)):Prop where
 e:Gl kA 51 5 vE (ku n λi=>(q i,ev i)) LE
 c:mv lZ 53 5 (ku n λi=>(ev i).1) (ku n cl) LC
 a:∀i,i<n->∃a l c,(ev i).2= .slice a l c
theorem WS.XH {n:Nat} {q:Nat->Rat} {cl:Nat->List rG} {vE:Value} {ev:Nat->Value×Value} {LE:List kV} {LC:List (List kV)} (h:WS n q cl vE ev LE LC) {w0 w:World} (hS:St w0 w (LE++LC.flatten)):WY w vE n q ev cl:=by
 refine⟨h.e.sl (H:=[]) (hS.drop (ap _ _)) mP,λi hi=> ?_⟩;have:=h.c.row (P:=LE) hS mY (i:=i) (by rw[ka];exact hi);rw[kw _ _ hi,kw _ _ hi]at this;exact this
structure UI (D:List kV) (v:Value) (ds:List sV) (dv:List Value):Prop where
 len:dv.length=ds.length
 g:∀wz wx,St wz wx D->SW wx v ds dv
structure WM (n:Nat) (q:Nat->Rat) (cl:Nat->List rG) (A:Nat->List (List (List nD))) (ds:List sV) (vE vD:Value) (ev:Nat->Value×Value) (av:Nat->List Value) (pv:Nat->List (List Value)) (dv:List Value) (LE:List kV) (LC:List (List kV)) (DA:List kV):Prop where
 e:WS n q cl vE ev LE LC
 a:∀i,i<n->IR DA (ev i).2 (A i) (av i) (pv i)
 d:UI DA vD ds dv
theorem VV (n:Nat) (L:List (Nat->Nat)):mv lZ 53 5 (ku n λ_=>ke) (ku n (xZ n L 0)) (ku n λ_=>[]):=by
 refine⟨by rw[ka,ka],by rw[ka,ka],λi hi=> ?_⟩;rw[ka]at hi;rw[kw _ _ hi,kw _ _ hi,kw _ _ hi];exact Gl.nil _ _ _
theorem PR {β:Type} (n:Nat):(ku n λ_=>([]:List β)).flatten=[]:=by
 rw[List.flatten_eq_nil_iff];intro l hl;obtain⟨_,_,rfl⟩:=rD hl;rfl
theorem IR.snoc {D D2 LO:List kV} {v v' x:Value} {A:List (List (List nD))} {X:List (List nD)} {av:List Value} {pv:List (List Value)} {vs:List Value} (h:IR D v A av pv) (hl:av.length=A.length) (hp:pv.length=A.length) (hG:Gl sU 82 1 v' (av++[x]) LO) (hM:∀wz wx,St wz wx D2->qE nm 5 wx x X vs):IR ((LO++D2)++D) v' (A++[X]) (av++[x]) (pv++[vs]):=by
 refine⟨λwz wx hS=>⟨by rw[aw,aw,hl];rfl,hG.sl (H:=[]) (hS.drop ((ap LO D2).trans (ap _ D))) (λ_=>rfl),λk hk=> ?_⟩⟩;have h1:=h.g wz wx (hS.drop (ao _ D));rw[aw]at hk;rw[mI,mI,mI,hl,hp];by_cases e:k<A.length
 ·rw[aj e,aj e,aj e];exact h1.m k e
 ·obtain rfl:k=A.length:=by have: [X].length=1:=rfl;omega
  rw[ah e,ah e,ah e,aj rfl,aj rfl,aj rfl];exact hM wz wx (hS.drop ((ao LO D2).trans (ap _ D)))
theorem UI.snoc {D D2 LO:List kV} {v v' x:Value} {ds:List sV} {dv:List Value} {W:Rat} {l:List (Nat×Nat)} (h:UI D v ds dv) (hG:Gl lz 64 4 v' ((ku ds.length λk=>((ds.getD k t8).W,dv.getD k undef))++[(W,x)]) LO) (hM:∀wz wx,St wz wx D2->Sl m9 2 wx x l):UI ((LO++D2)++D) v' (ds++[⟨W,l⟩]) (dv++[x]):=by
 have e:((ku ds.length λk=>((ds.getD k t8).W,dv.getD k undef))++[(W,x)])=ku (ds++[(⟨W,l⟩:sV)]).length λk=>(((ds++[(⟨W,l⟩:sV)]).getD k t8).W,(dv++[x]).getD k undef):=by
  rw[aw,show [(⟨W,l⟩:sV)].length=1 from rfl,nZ,mI,mI,h.len,ah (dB _),ah (dB _),aj rfl,aj rfl];congr 1;refine kB λk hk=> ?_;rw[mI,mI,h.len,aj hk,aj hk]
 rw[e]at hG;refine⟨by rw[aw,aw,h.len];rfl,λwz wx hS=>⟨hG.sl (H:=[]) (hS.drop ((ap LO D2).trans (ap _ D))) nJ,λk hk=> ?_⟩⟩;have h1:=h.g wz wx (hS.drop (ao _ D));rw[aw]at hk;rw[mI,mI,h.len];by_cases e:k<ds.length
 ·rw[aj e,aj e];exact h1.lg k e
 ·obtain rfl:k=ds.length:=by have: [(⟨W,l⟩:sV)].length=1:=rfl;omega
  rw[ah e,ah e,aj rfl,aj rfl];exact hM wz wx (hS.drop ((ao LO D2).trans (ap _ D)))
theorem xI {w wx:World} {m j i bE:Nat} {cash:List Nat} {sp:List Value} {ev:Nat->Value×Value} {LC:List (List kV)} {L:List (Nat->Nat)} {C:List rG} {x:rG} {v:Value} {LN P:List kV} (hev:∀i,(ev i).2=ke)
  (hR:mv lZ 53 5 (ku m λi=>(ev i).1) (ku m (xZ m L j)) LC) (him:i<m) (hcl:xZ m L (j+1)=λk=>if k=i then C++[x]else xZ m L j k) (hG:Gl lZ 53 5 v (C++[x]) LN)
  (hS:St w wx ((P++([(bE,51,((ku m λk=>(oP cash k,ev k)).set i (oP cash i,v,(ev i).2)).flatMap kA++sp)]::LC.set i []).flatten)++LN)):
  ∃(ev':Nat->Value×Value) (LC':List (List kV)),(∀i,(ev' i).2=ke)/\mv lZ 53 5 (ku m λi=>(ev' i).1) (ku m (xZ m L (j+1))) LC'/\St w wx (P++([(bE,51,(ku m λk=>(oP cash k,ev' k)).flatMap kA++sp)]::LC').flatten):=by
 have hlc:=hR.ln;rw[ka]at hlc;have hst:(ku m λk=>(oP cash k,ev k)).set i (oP cash i,v,(ev i).2)=ku m λk=>(oP cash k,if k=i then(v,(ev i).2)else ev k):=by
  rw[nx];refine kB λk _=> ?_;by_cases e:k=i
  ·rw[aj e,aj e,e]
  ·rw[ah e,ah e]
 rw[hst]at hS;have hS9:=nw (P:=P) (Ls:=[(bE,51,(ku m λk=>(oP cash k,if k=i then(v,(ev i).2)else ev k)).flatMap kA++sp)]::LC) (k:=i+1) hS (by rw[ba];omega);have hR2:=hR.Fy (i:=i) (by rw[ka];exact him) hG;rw[nx,nx]at hR2;refine⟨λk=>if k=i then(v,(ev i).2)else ev k,LC.set i LN,λk=> ?_,?_,hS9⟩
 ·show(if k=i then(v,(ev i).2)else ev k).2=ke;split
  ·exact hev i
  ·exact hev k
 ·rw[hcl];have e1:(ku m λk=>(if k=i then(v,(ev i).2)else ev k).1)=ku m λk=>if k=i then v else(ev k).1:=kB λk _=>by split<;>rfl
  rw[e1];exact hR2
theorem Sq {w wx:World} {m j i bE:Nat} {cash:List Nat} {sp:List Value} {nC:Nat->Nat} {cl:Nat->List rG} {ev:Nat->Value×Value} {DA D2 LO P:List kV} {LC:List (List kV)} {Q:List (Nat->Nat)} {av:Nat->List Value} {pv:Nat->List (List Value)} {X:List (List nD)} {v x:Value} {vs:List Value}
  (hPA:∀i,i<m->(av i).length=(uT m nC Q j i).length/\(pv i).length=(uT m nC Q j i).length/\IR DA (ev i).2 (uT m nC Q j i) (av i) (pv i)) (hR:mv lZ 53 5 (ku m λi=>(ev i).1) (ku m cl) LC) (him:i<m)
  (hag:∀k,uT m nC Q (j+1) k=if k=i then uT m nC Q j i++[X]else uT m nC Q j k) (hG:Gl sU 82 1 v (av i++[x]) LO) (hM:∀wz wx,St wz wx D2->qE nm 5 wx x X vs)
  (hS:St w wx ((P++([(bE,51,((ku m λk=>(oP cash k,ev k)).set i (oP cash i,(ev i).1,v)).flatMap kA++sp)]::DA::LC).flatten)++(LO++D2))):
  ∃(ev':Nat->Value×Value) (DA':List kV) (av':Nat->List Value) (pv':Nat->List (List Value)),(∀i,i<m->(av' i).length=(uT m nC Q (j+1) i).length/\(pv' i).length=(uT m nC Q (j+1) i).length/\IR DA' (ev' i).2 (uT m nC Q (j+1) i) (av' i) (pv' i))/\mv lZ 53 5 (ku m λi=>(ev' i).1) (ku m cl) LC/\
   St w wx (P++([(bE,51,(ku m λk=>(oP cash k,ev' k)).flatMap kA++sp)]::DA'::LC).flatten):=by
 have hst:(ku m λk=>(oP cash k,ev k)).set i (oP cash i,(ev i).1,v)=ku m λk=>(oP cash k,if k=i then((ev i).1,v)else ev k):=by
  rw[nx];refine kB λk _=> ?_;by_cases e:k=i
  ·rw[aj e,aj e,e]
  ·rw[ah e,ah e]
 rw[hst]at hS;have hS9:=tw (P:=P) (Ls:=[(bE,51,(ku m λk=>(oP cash k,if k=i then((ev i).1,v)else ev k)).flatMap kA++sp)]::DA::LC) (k:=1) (A:=LO++D2) (hS.perm ay) rfl (dQ _);refine⟨λk=>if k=i then((ev i).1,v)else ev k,(LO++D2)++DA,λk=>if k=i then av i++[x]else av k,λk=>if k=i then pv i++[vs]else pv k,λk hk=> ?_,?_,hS9⟩
 ·obtain⟨l1,l2,hP⟩:=hPA k hk;rw[hag];by_cases e:k=i
  ·subst e;simp only[gX];exact⟨by rw[aw,aw,l1];rfl,by rw[aw,aw,l2];rfl,hP.snoc l1 l2 hG hM⟩
  ·simp only[ah e];exact⟨l1,l2,hP.mono (ao _ _)⟩
 ·have e1:(ku m λk=>(if k=i then((ev i).1,v)else ev k).1)=ku m λk=>(ev k).1:=kB λk _=>by
   split
   ·rename_i e;rw[e]
   ·rfl
  rw[e1];exact hR
theorem IL (n:Nat) (vC vL vQ vD:Value) (cash:List Nat) (L Q D:List (Nat->Nat)) (w:World) (hC:Sl (uk .u16) 1 w vC cash) (hL:Sl ys 4 w vL L) (hQ:Sl o5 3 w vQ Q) (hD:Sl o5 3 w vD D)
  (hc:∀x∈cash,x<65536) (hl:∀x∈L,∀i,i<4->x i<65536) (hq:∀x∈Q,∀i,i<3->x i<65536) (hd:∀x∈D,∀i,i<3->x i<65536):
  lW Tryz.prog 7 #[.int .u8 n,vC,vL,vQ,vD] w λr w'=>∃(vE vY:Value) (ev:Nat->Value×Value) (av:Nat->List Value) (pv:Nat->List (List Value)) (dv:List Value) (LE DA:List kV) (LC:List (List kV)),r= .agg #[vE,vY]/\WM (1+n%4) (oP cash) (xZ (1+n%4) L L.length) (uT (1+n%4) (λi=>(xZ (1+n%4) L L.length i).length) Q Q.length) (E3 (1+n%4) (xZ (1+n%4) L L.length) D D.length) vE vY ev av pv dv LE LC DA/\St w w' ((LE++LC.flatten)++DA):=by
 have hcm:=hC.maxLen;have hlm:=hL.maxLen;have hqm:=hQ.maxLen;have hdm:=hD.maxLen;have hS:=St.init w;have h4:n%4<4:=bG _ dD;obtain⟨m,hm⟩:=jz (1+n%4);refine enter Tryz.func7 rfl Tryz.ntmps7 rfl ?_;refine J1 ?_;intro br wz1 hS hBz1;refine jr ?_;refine jp (kQ rfl Wh ?_);refine J1 ?_;intro bg wz2 hS hBz2;refine J1 ?_;intro wz3 hS;refine ja ?_;replace hS:St w _ ([(bg,29,[ke,ke]),(br,29,[ke,ke])]++[]):=hS;refine J1 ?_;refine jp (pY rfl rfl oO (r:=((n%4:Nat):Int)) (by exact o9 _ 4) ?_);refine J1 ?_;refine jp (pe rfl rfl (r:=((m:Nat):Int)) (by exact pP _ ⟨oO,oO,oO⟩) ?_);refine J2 ?_;refine jb ?_;refine kz (λρ w'=>(ρ 2=vL/\ρ 3=vQ/\ρ 4=vD/\ρ 10=pB br/\ρ 11=pB bg/\ρ 12=iB m)/\∃vE LE,Gl kA 51 5 vE (ku m λk=>(oP cash k,ke,ke)) LE/\St w w' ([(bg,29,[vE,ke]),(br,29,[ke,ke])]++LE)) ?_ ?_
 ·refine ja ?_;refine kx (σ:=Nat) (λi ρ w'=>i<=m/\ρ 1=vC/\(ρ 2=vL/\ρ 3=vQ/\ρ 4=vD/\ρ 10=pB br/\ρ 11=pB bg/\ρ 12=iB m)/\ρ 13=iB i/\∃vE LE,Gl kA 51 5 vE (ku i λk=>(oP cash k,ke,ke)) LE/\St w w' ([(bg,29,[vE,ke]),(br,29,[ke,ke])]++LE)) (λi=>m-i) 0
   ⟨ax _,rfl,⟨rfl,rfl,rfl,rfl,rfl,rfl⟩,rfl,ke,[],Gl.nil _ _ _,hS⟩ ?_
  clear hS;rintro i ρ w3 ⟨hi,h1,⟨h2,h3,h4,h10,h11,h12⟩,h13,vE,LE,hG,hS⟩;have htl:=ka i λk=>(oP cash k,ke,ke);refine V3 ?_;by_cases hlt:i<m
  ·refine Y1 ?_;refine jp (kQ rfl V8 ?_);refine J1 ?_;intro be wz4 hS hBz4;refine J1 ?_;intro wz5 hS;refine ja ?_;replace hS:St w _ ([(be,51,kA (0,ke,ke)),(bg,29,[vE,ke]),(br,29,[ke,ke])]++LE):=hS.cast (by rw[<-Ur];rfl);refine J2 ?_;refine jp (kj rfl (hC.j5 hS.j5) ⟨_,Tryz.underlying22⟩ ?_);refine J1 ?_;refine jb ?_;refine kz (λρ w'=>ρ 1=vC/\(ρ 2=vL/\ρ 3=vQ/\ρ 4=vD/\ρ 10=pB br/\ρ 11=pB bg/\ρ 12=iB m)/\ρ 13=iB i/\ρ 14=pB be/\St w w' ([(be,51,kA ((oP cash i),ke,ke)),(bg,29,[vE,ke]),(br,29,[ke,ke])]++LE)) ?_ ?_
   ·refine ja ?_;by_cases hic:i<cash.length
    ·refine V1 ?_;have hx:=hc _ (kH cash i 0 hic);refine J2 ?_;refine jp (kp (i:=i) rfl rfl (hC.j5 hS.j5) oO dO Wk (jq (ky (i:=i) 0 rfl pG (hC.j5 hS.j5) dO rfl rfl (.inr rfl) (jh (j7 Tryz.call20 rfl (xJ (cash.getD i 0) _ hx) ?_)))));rintro r w5 ⟨rfl,hB5⟩;replace hS:=hS.ko hB5;refine J2 ?_;intro wz6 hS;refine ja ?_;refine⟨_,rfl,jY,⟨jY,jY,jY,jY,jY,jY⟩,jY,rfl,?_⟩;rw[show oP cash i=oM (cash.getD i 0)from aj hic];exact hS
    ·refine V1 ?_;refine⟨_,rfl,jY,⟨jY,jY,jY,jY,jY,jY⟩,jY,rfl,?_⟩;rw[show oP cash i=0 from ah hic];exact hS
   clear hS h1 h2 h3 h4 h10 h11 h12 h13;rintro ρ w5 ⟨h1,⟨h2,h3,h4,h10,h11,h12⟩,h13,h14,hS⟩;obtain⟨aE,cE,hvE⟩:=hG.len;subst hvE;refine J3 ?_;refine jh (mO (vs:=[_]) rfl pw rfl dD dD dD (by simp[Value.cells,mP]) rfl hS ?_);intro b7 wz8 hS hBz8;refine jh (mz [(oP cash i,ke,ke)] rfl rfl pw dD hG hS rfl rfl mP (JP _) dL dL ?_);intro va9 La9 wa9 hG hS hga9;obtain⟨aN,cN,hvN⟩:=hG.len;subst hvN;obtain⟨LN,hLN⟩:∃L,L=La9:=⟨_,rfl⟩;rw[<-hLN]at hG hS;refine J1 ?_;refine jh (nW (k:=1) rfl rfl pu hS rfl (by simp) rfl ?_);intro wz10 hS;refine ja ?_;rw[<-nZ i λk=>(oP cash k,ke,ke)]at hG hS;have hS9:St w _ ([(bg,29,[(.slice aN (ku (i+1) λk=>(oP cash k,ke,ke)).length cN),ke]),(br,29,[ke,ke])]++LN):=hS.drop (ab _ _);refine V3 ?_;exact⟨i+1,_,rfl,⟨hlt,jY,⟨jY,jY,jY,jY,jY,jY⟩,vi rfl oO,_,LN,hG,hS9⟩,oO⟩
  ·refine J1 ?_;refine jt ?_;obtain rfl:i=m:=oO;exact⟨_,rfl,⟨h2,h3,h4,h10,h11,h12⟩,vE,LE,hG,hS⟩
 clear hS;rintro ρ w3 ⟨⟨h2,h3,h4,h10,h11,h12⟩,vE,LE,hG,hS⟩;obtain⟨hX,⟨_,h0,_⟩|⟨bE,cE,sp,hv,hLE,k1,k2,k3⟩⟩:=hG
 ·rw[ka]at h0;omega
 rw[ka]at hv k1;rw[aw,lK mP,ka]at k3;subst hv hLE;obtain⟨vE,hvE⟩:=jz (Value.slice (some ⟨bE,0,none⟩) m cE);have hGE:∀ev:Nat->Value×Value,Gl kA 51 5 (Value.slice (some ⟨bE,0,none⟩) m cE) (ku m λi=>(oP cash i,ev i)) [(bE,51,(ku m λi=>(oP cash i,(ev) i)).flatMap kA++sp)]:=λev=>
  ⟨by rw[lK mP],.inr ⟨bE,cE,sp,by rw[ka],rfl,by rw[ka];exact k1,k2,by rw[aw,lK mP,ka];exact k3⟩⟩
 have hEs:∀(wx:World) (ev:Nat->Value×Value) (H:List kV),St w wx H->(bE,51,(ku m λi=>(oP cash i,(ev) i)).flatMap kA++sp)∈H->Sl kA 5 wx (Value.slice (some ⟨bE,0,none⟩) m cE) (ku m λi=>(oP cash i,ev i)):=λwx ev H h hm=>(hGE ev).sl (H:=[]) (h.drop (List.singleton_sublist.2 hm)) mP;replace hS:St w w3 ([(bg,29,[(Value.slice (some ⟨bE,0,none⟩) m cE),ke]),(br,29,[ke,ke])]++([(bE,51,(ku m λi=>(oP cash i,(λ_=>(ke,ke)) i)).flatMap kA++sp)]::ku m λ_=>[]).flatten):=by
  rw[List.flatten_cons,PR];exact hS
 refine J1 ?_;refine jp (kj rfl (hL.j5 hS.j5) ⟨_,Tryz.underlying23⟩ ?_);refine J1 ?_;refine jb ?_;refine kz (λρ w'=>(ρ 2=vL/\ρ 3=vQ/\ρ 4=vD/\ρ 10=pB br/\ρ 11=pB bg/\ρ 12=iB m)/\∃(ev:Nat->Value×Value) (LC:List (List kV)),(∀i,(ev i).2=ke)/\mv lZ 53 5 (ku m λi=>(ev i).1) (ku m (xZ m L L.length)) LC/\St w w' ([(bg,29,[(Value.slice (some ⟨bE,0,none⟩) m cE),ke]),(br,29,[ke,ke])]++([(bE,51,(ku m λi=>(oP cash i,(ev) i)).flatMap kA++sp)]::LC).flatten)) ?_ ?_
 ·refine ja ?_;refine kx (σ:=Nat) (λj ρ w'=>j<=L.length/\(ρ 2=vL/\ρ 3=vQ/\ρ 4=vD/\ρ 10=pB br/\ρ 11=pB bg/\ρ 12=iB m)/\ρ 51=vL/\ρ 52=iB L.length/\ρ 53=iB j/\∃(ev:Nat->Value×Value) (LC:List (List kV)),(∀i,(ev i).2=ke)/\mv lZ 53 5 (ku m λi=>(ev i).1) (ku m (xZ m L j)) LC/\St w w' ([(bg,29,[(Value.slice (some ⟨bE,0,none⟩) m cE),ke]),(br,29,[ke,ke])]++([(bE,51,(ku m λi=>(oP cash i,(ev) i)).flatMap kA++sp)]::LC).flatten)) (λj=>L.length-j) 0
   ⟨ax _,⟨h2,h3,h4,h10,h11,h12⟩,rfl,rfl,rfl,_,_,(λ_=>rfl),VV m L,hS⟩ ?_
  clear hS h2 h3 h4 h10 h11 h12;rintro j ρ w4 ⟨hj,⟨h2,h3,h4,h10,h11,h12⟩,h51,h52,h53,ev,LC,hev,hR,hS⟩;refine V1 ?_;by_cases hlt:j<L.length
  ·refine J1 ?_;refine jb ?_;obtain⟨c,hcd⟩:=jz (L.getD j z4);have hcx:=hl c (by rw[hcd];exact kH _ _ _ hlt);have hc0:=hcx 0 dD;have hc1:=hcx 1 dD;have hc2:=hcx 2 dD;have hc3:=hcx 3 dD;obtain⟨i,hi⟩:=jz (c 0%m);have him:i<m:=by rw[hi];exact bG _ oO
   refine kz (λρ w'=>(ρ 2=vL/\ρ 3=vQ/\ρ 4=vD/\ρ 10=pB br/\ρ 11=pB bg/\ρ 12=iB m)/\ρ 51=vL/\ρ 52=iB L.length/\ρ 53=iB j/\∃(ev:Nat->Value×Value) (LC:List (List kV)),(∀i,(ev i).2=ke)/\mv lZ 53 5 (ku m λi=>(ev i).1) (ku m (xZ m L (j+1))) LC/\St w w' ([(bg,29,[(Value.slice (some ⟨bE,0,none⟩) m cE),ke]),(br,29,[ke,ke])]++([(bE,51,(ku m λi=>(oP cash i,(ev) i)).flatMap kA++sp)]::LC).flatten)) ?_ ?_
   ·refine jr ?_;refine jp (kp (i:=j) h51 h53 (hL.j5 hS.j5) oO dO VW (jq (ky (i:=j) z4 rfl zJ (hL.j5 hS.j5) dO rfl rfl (.inl rfl) ?_)));refine J1 ?_;intro bc wz11 hS hBz11;refine J1 ?_;intro wz12 hS;refine ja ?_;rw[<-hcd]at hS;replace hS:St w _ ([(bc,69,ys c),(bg,29,[(Value.slice (some ⟨bE,0,none⟩) m cE),ke]),(br,29,[ke,ke])]++([(bE,51,(ku m λi=>(oP cash i,(ev) i)).flatMap kA++sp)]::LC).flatten):=hS;have hdr:([(bg,29,[(Value.slice (some ⟨bE,0,none⟩) m cE),ke]),(br,29,[ke,ke])]++([(bE,51,(ku m λi=>(oP cash i,(ev) i)).flatMap kA++sp)]::LC).flatten).Sublist ([(bc,69,ys c),(bg,29,[(Value.slice (some ⟨bE,0,none⟩) m cE),ke]),(br,29,[ke,ke])]++([(bE,51,(ku m λi=>(oP cash i,(ev) i)).flatMap kA++sp)]::LC).flatten):=ab _ _;have hGi:=hR.g i (by rw[ka];exact him);rw[kw _ _ him,kw _ _ him]at hGi;obtain⟨a1,c1,hv1⟩:=hGi.len;have h6:=Bx m L j i;obtain⟨C,hC⟩:=jz (xZ m L j i);rw[<-hC]at hGi hv1 h6;have hel1:((ku m λi=>(oP cash i,ev i)).getD i p9).2.1=Value.slice a1 C.length c1:=by rw[kw _ _ him];exact hv1
    have hmem:(bE,51,(ku m λi=>(oP cash i,(ev) i)).flatMap kA++sp)∈([(bc,69,ys c),(bg,29,[(Value.slice (some ⟨bE,0,none⟩) m cE),ke]),(br,29,[ke,ke])]++([(bE,51,(ku m λi=>(oP cash i,(ev) i)).flatMap kA++sp)]::LC).flatten):=by simp
    have hte:=ka m λi=>(oP cash i,ev i);refine jr ?_;refine jp (uq (n:=4) (i:=0) rfl rfl rfl dD Tryz.underlying69 pG ?_);refine J3 ?_;refine jp (pY rfl rfl oO (r:=((i:Nat):Int)) (by rw[hi];exact o9 _ m) ?_);refine J4 ?_;refine jp (kp (i:=i) rfl rfl (hEs _ ev _ hS hmem) oO dO pw ?_);refine jp (oG rfl (nc (hEs _ ev _ hS hmem) (λ_=>rfl) dD dO) qk ?_);refine jq (oE (v:= .slice a1 C.length c1) (i:=i) (off:=3) p9 rfl pS (hEs _ ev _ hS hmem) (λ_=>rfl) dD oO rfl (by rw[<-hel1];rfl) (.inr rfl) ?_);refine V2 ?_;by_cases hc6:6<=C.length
    ·refine J1 ?_;refine jt ?_;have e:ku m (xZ m L (j+1))=ku m (xZ m L j):=kB λk _=>by
      show(if _ then _ else _)=_;rw[ah (by rw[<-hcd,<-hi];rintro⟨e1,e2⟩;rw[<-e1,<-hC]at e2;omega)]
     exact⟨_,rfl,⟨jY,jY,jY,jY,jY,jY⟩,jY,jY,jY,ev,LC,hev,by rw[e];exact hR,hS.drop hdr⟩
    ·refine V1 ?_;obtain⟨h,hh⟩:=jz (c 1% (m+1));have hhm:h<m+1:=by rw[hh];exact bG _ oO
     refine jr ?_;refine jp (uq (n:=4) (i:=1) rfl rfl rfl dD Tryz.underlying69 pG ?_);refine J3 ?_;refine jp (pe rfl rfl (r:=((m+1:Nat):Int)) (by exact pP _ ⟨oO,oO,oO⟩) (jp (pY rfl rfl oO (r:=((h:Nat):Int)) (by rw[hh];exact o9 _ (m+1)) ?_)));refine V1 ?_;refine kz (λρ w'=>((ρ 2=vL/\ρ 3=vQ/\ρ 4=vD/\ρ 10=pB br/\ρ 11=pB bg/\ρ 12=iB m)/\ρ 51=vL/\ρ 52=iB L.length/\ρ 53=iB j/\ρ 16=pB bc/\ρ 17=iB i)/\ρ 18=iB h/\ρ 83= .bool (decide (h=i\/m<=h))/\St w w' ([(bc,69,ys c),(bg,29,[(Value.slice (some ⟨bE,0,none⟩) m cE),ke]),(br,29,[ke,ke])]++([(bE,51,(ku m λi=>(oP cash i,(ev) i)).flatMap kA++sp)]::LC).flatten)) ?_ ?_
     ·by_cases e1:h=i
      ·refine J4 ?_;refine kN (kb 79 kR rfl dT) (kN (kb 79 kR rfl dT) (kN (kb 79 kR rfl dT) (jp (kC (vb rfl dT) rfl ?_))));refine ja ?_;exact⟨_,rfl,⟨⟨jY,jY,jY,jY,jY,jY⟩,jY,jY,jY,by first|assumption|rfl,by first|assumption|rfl⟩,rfl,vb rfl (ak (.inl e1)).symm,hS⟩
      ·refine J4 ?_;refine kf (j8 79 kR rfl dF) (ks rfl (kf (j8 79 kR rfl dF) (ks h12 (kf (j8 79 kR rfl dF) (y3 rfl rfl (jp (kC (vb rfl dF) rfl ?_)))))));refine ja ?_;exact⟨_,rfl,⟨⟨jY,jY,jY,jY,jY,jY⟩,jY,jY,jY,by first|assumption|rfl,by first|assumption|rfl⟩,rfl,vb rfl (by rw[dP];omega),hS⟩
     clear hS h2 h3 h4 h10 h11 h12 h51 h52 h53;rintro ρ w6 ⟨⟨⟨h2,h3,h4,h10,h11,h12⟩,h51,h52,h53,h16,h17⟩,h18,h83,hS⟩;obtain⟨x,hx⟩:=jz (Uy m c);have hxh:x.h=if h=i\/m<=h then-1 else(h:Int):=by rw[hx,hh,hi];rfl
     refine ja ?_;refine kz (λρ w'=>((ρ 2=vL/\ρ 3=vQ/\ρ 4=vD/\ρ 10=pB br/\ρ 11=pB bg/\ρ 12=iB m)/\ρ 51=vL/\ρ 52=iB L.length/\ρ 53=iB j/\ρ 16=pB bc/\ρ 17=iB i)/\ρ 18=iB x.h/\St w w' ([(bc,69,ys c),(bg,29,[(Value.slice (some ⟨bE,0,none⟩) m cE),ke]),(br,29,[ke,ke])]++([(bE,51,(ku m λi=>(oP cash i,(ev) i)).flatMap kA++sp)]::LC).flatten)) ?_ ?_
     ·by_cases e1:h=i\/m<=h
      ·refine k9 h83 (ak e1) ?_;refine V1 ?_;exact⟨_,rfl,⟨⟨jY,jY,jY,jY,jY,jY⟩,jY,jY,jY,by first|assumption|rfl,by first|assumption|rfl⟩,vi rfl (by rw[hxh,aj e1]),hS⟩
      ·refine lx h83 (ae e1) ?_;refine ja ?_;exact⟨_,rfl,⟨⟨jY,jY,jY,jY,jY,jY⟩,jY,jY,jY,by first|assumption|rfl,by first|assumption|rfl⟩,by rw[hxh,ah e1];assumption,hS⟩
     clear hS h2 h3 h4 h10 h11 h12 h51 h52 h53 h16 h17 h18 h83;rintro ρ w6 ⟨⟨⟨h2,h3,h4,h10,h11,h12⟩,h51,h52,h53,h16,h17⟩,h18,hS⟩;have hlc:=hR.ln;rw[ka]at hlc;have hLi:([(bE,51,(ku m λi=>(oP cash i,(ev) i)).flatMap kA++sp)]::LC)[i+1]?=some (LC.getD i []):=by rw[List.getElem?_cons_succ];exact Gr [] (show i<LC.length by omega)
     have hS9:=ng (P:=[(bc,69,ys c),(bg,29,[(Value.slice (some ⟨bE,0,none⟩) m cE),ke]),(br,29,[ke,ke])]) hS hLi;clear hS;have hS:St w _ (([(bc,69,ys c),(bg,29,[(Value.slice (some ⟨bE,0,none⟩) m cE),ke]),(br,29,[ke,ke])]++([(bE,51,(ku m λi=>(oP cash i,(ev) i)).flatMap kA++sp)]::LC.set i []).flatten)++LC.getD i []):=hS9;clear hS9;have hxv:lZ x= #[.int .i64 x.h,.int .i64 ((c 2%3:Nat):Int),.bool (j9 (oM (c 3))).neg,.string (j9 (oM (c 3))).num,.string (j9 (oM (c 3))).den].toList:=by rw[hx];rfl
     rw[hv1]at hGi;have hcl:xZ m L (j+1)=λk=>if k=i then C++[x]else xZ m L j k:=by
      funext k;show(if _ then _ else _)=_;rw[<-hcd,<-hi];by_cases e:k=i
      ·rw[aj e,aj ⟨e.symm,by rw[e,<-hC];omega⟩,e,<-hC,hx]
      ·rw[ah e,ah (λh=>e h.1.symm)]
     refine ja ?_;refine Bk 23 [jo 0,jv 1,jo 2,jo 3,ju 4,jo 5,jo 6,jo 7,ju 8,jo 9,jo 10,ju 11,jo 12,jo 13,jo 14,ju 15,jv 16,jo 17,jv 18,jw 19,jo 20,jo 21,jw 22] kR kR hS ?_;intro wz13 hS hBz13;refine kO (i:=0) (U':=[jv 1,jo 2,jo 3,ju 4,jo 5,jo 6,jo 7,ju 8,jo 9,jo 10,ju 11,jo 12,jo 13,jo 14,ju 15,jv 16,jo 17,jv 18,jw 19,jo 20,jo 21,jw 22]) kR kR rfl rfl (lI h11 tv (kO (i:=2) (U':=[jv 1,jo 3,ju 4,jo 5,jo 6,jo 7,ju 8,jo 9,jo 10,ju 11,jo 12,jo 13,jo 14,ju 15,jv 16,jo 17,jv 18,jw 19,jo 20,jo 21,jw 22]) kR kR rfl rfl (ks h17 (kO (i:=3) (U':=[jv 1,ju 4,jo 5,jo 6,jo 7,ju 8,jo 9,jo 10,ju 11,jo 12,jo 13,jo 14,ju 15,jv 16,jo 17,jv 18,jw 19,jo 20,jo 21,jw 22]) kR kR rfl rfl (lI h11 tv (pb (i:=4) (U':=[jv 1,jo 5,jo 6,jo 7,ju 8,jo 9,jo 10,ju 11,jo 12,jo 13,jo 14,ju 15,jv 16,jo 17,jv 18,jw 19,jo 20,jo 21,jw 22]) kR kR rfl rfl (kX (k:=1) rfl pu hS rfl rfl rfl (.inr rfl) (kO (i:=5) (U':=[jv 1,jo 6,jo 7,ju 8,jo 9,jo 10,ju 11,jo 12,jo 13,jo 14,ju 15,jv 16,jo 17,jv 18,jw 19,jo 20,jo 21,jw 22]) kR kR rfl rfl (ks h17 (kO (i:=6) (U':=[jv 1,jo 7,ju 8,jo 9,jo 10,ju 11,jo 12,jo 13,jo 14,ju 15,jv 16,jo 17,jv 18,jw 19,jo 20,jo 21,jw 22]) kR kR rfl rfl (kp (i:=i) rfl rfl (hEs _ ev _ hS (by simp)) oO dO pw ?_)))))))))));refine kO (i:=7) (U':=[jv 1,ju 8,jo 9,jo 10,ju 11,jo 12,jo 13,jo 14,ju 15,jv 16,jo 17,jv 18,jw 19,jo 20,jo 21,jw 22]) kR kR rfl rfl (oG rfl (nc (hEs _ ev _ hS (by simp)) (λ_=>rfl) dD dO) qk ?_);refine pb (i:=8) (U':=[jv 1,jo 9,jo 10,ju 11,jo 12,jo 13,jo 14,ju 15,jv 16,jo 17,jv 18,jw 19,jo 20,jo 21,jw 22]) kR kR rfl rfl (oE (v:= .slice a1 C.length c1) (i:=i) (off:=3) p9 rfl pS (hEs _ ev _ hS (by simp)) (λ_=>rfl) dD oO rfl (by rw[<-hel1];rfl) (.inr rfl) ?_);refine kO (i:=9) (U':=[jv 1,jo 10,ju 11,jo 12,jo 13,jo 14,ju 15,jv 16,jo 17,jv 18,jw 19,jo 20,jo 21,jw 22]) kR kR rfl rfl (ks h18 (kO (i:=10) (U':=[jv 1,ju 11,jo 12,jo 13,jo 14,ju 15,jv 16,jo 17,jv 18,jw 19,jo 20,jo 21,jw 22]) kR kR rfl rfl (uq (n:=4) (i:=2) h16 rfl rfl dD Tryz.underlying69 pG (pb (i:=11) (U':=[jv 1,jo 12,jo 13,jo 14,ju 15,jv 16,jo 17,jv 18,jw 19,jo 20,jo 21,jw 22]) kR kR rfl rfl (kX (k:=0) rfl pG hS rfl rfl rfl (.inr rfl) (kO (i:=12) (U':=[jv 1,jo 13,jo 14,ju 15,jv 16,jo 17,jv 18,jw 19,jo 20,jo 21,jw 22]) kR kR rfl rfl (pY rfl rfl oO (r:=((c 2%3:Nat):Int)) (by exact o9 _ 3) (kO (i:=13) (U':=[jv 1,jo 14,ju 15,jv 16,jo 17,jv 18,jw 19,jo 20,jo 21,jw 22]) kR kR rfl rfl (kJ rfl Tryz.underlying3 ⟨_,Tryz.underlying25⟩ (cx _ oO) (kO (i:=14) (U':=[jv 1,ju 15,jv 16,jo 17,jv 18,jw 19,jo 20,jo 21,jw 22]) kR kR rfl rfl (uq (n:=4) (i:=3) h16 rfl rfl dD Tryz.underlying69 pG (pb (i:=15) (U':=[jv 1,jv 16,jo 17,jv 18,jw 19,jo 20,jo 21,jw 22]) kR kR rfl rfl (kX (k:=0) rfl pG hS rfl rfl rfl (.inr rfl) ?_)))))))))))));refine qt (x:=jv 1) (y:=jv 16) (U':=[jv 16,jo 17,jv 18,jw 19,jo 20,jo 21,jw 22]) (U'':=[jv 1,jo 17,jv 18,jw 19,jo 20,jo 21,jw 22]) kR kR kR ?_ ?_
     ·refine kI rfl rfl (qw (kX (k:=1) rfl pu hS rfl rfl rfl (.inr rfl) ?_));refine⟨Below.refl _ _,?_⟩;refine kT (x:=jv 16) (U':=[jo 17,jv 18,jw 19,jo 20,jo 21,jw 22]) kR kR (kI rfl rfl (j7 Tryz.call20 rfl (xJ (c 3) _ hc3) ?_));rintro r w7 ⟨rfl,hB7⟩;refine⟨hB7,?_⟩;replace hS:=hS.ko hB7;refine kO (i:=17) (U':=[jv 18,jw 19,jo 20,jo 21,jw 22]) kR kR rfl rfl (kQ rfl (xr _ _ _) (kT (x:=jv 18) (U':=[jw 19,jo 20,jo 21,jw 22]) kR kR (kI rfl rfl (mO (vs:=[_]) rfl qv rfl dD dD dD (by simp[Value.cells]) rfl hS ?_))));intro bx wz14 hS hBz14;refine⟨hBz14,?_⟩;rw[show([Value.agg #[.int .i64 x.h,.int .i64 ((c 2%3:Nat):Int),.bool (j9 (oM (c 3))).neg,.string (j9 (oM (c 3))).num,.string (j9 (oM (c 3))).den]]).flatMap (λv=>v.cells.toList)=[x].flatMap lZ from(by rw[cI,cI,hxv];rfl)]at hS;refine kT (x:=jw 19) (U':=[jo 20,jo 21,jw 22]) kR kR (kY rfl rfl (mz [x] rfl rfl qv dD hGi hS rfl rfl mY (uL [x]) dL dL ?_));intro va15 La15 wa15 hGi hS hga15;obtain⟨aX,cX,hvX⟩:=hGi.len;subst hvX;obtain⟨LN,hLN⟩:=jz La15;rw[<-hLN]at hGi hS;refine kO (i:=20) (U':=[jo 21,jw 22]) kR kR rfl rfl (kF (i:=i) rfl rfl oO dO pw (kO (i:=21) (U':=[jw 22]) kR kR rfl rfl (lI rfl qk (kT (x:=jw 22) (U':=[]) kR kR (kY rfl rfl (Eu (k:=3) (i:=i) (off:=3) p9 (oP cash i,.slice aX (C++[x]).length cX,(ev i).2) mP rfl rfl pS hS rfl oO (by rw[ka];exact him) rfl rfl dD (by rw[kw _ _ him];rfl) rfl ?_))))));intro wz16 hS;refine na ?_;refine ja ?_;obtain⟨ev',LC',f1,f2,f3⟩:=xI (P:=[(bc,69,ys c),(bg,29,[(Value.slice (some ⟨bE,0,none⟩) m cE),ke]),(br,29,[ke,ke])]) hev hR him hcl hGi hS;exact⟨_,rfl,⟨jY,jY,jY,jY,jY,jY⟩,jY,jY,jY,ev',LC',f1,f2,f3.drop (ab _ _)⟩
     ·refine kI rfl rfl (j7 Tryz.call20 rfl (xJ (c 3) _ hc3) ?_);rintro r w7 ⟨rfl,hB7⟩;refine⟨hB7,?_⟩;replace hS:=hS.ko hB7;refine kO (i:=17) (U':=[jv 1,jv 18,jw 19,jo 20,jo 21,jw 22]) kR kR rfl rfl (kQ rfl (xr _ _ _) ?_);refine qt (x:=jv 1) (y:=jv 18) (U':=[jv 18,jw 19,jo 20,jo 21,jw 22]) (U'':=[jv 1,jw 19,jo 20,jo 21,jw 22]) kR kR kR ?_ ?_
      ·refine kI rfl rfl (qw (kX (k:=1) rfl pu hS rfl rfl rfl (.inr rfl) ?_));refine⟨Below.refl _ _,?_⟩;refine kT (x:=jv 18) (U':=[jw 19,jo 20,jo 21,jw 22]) kR kR (kI rfl rfl (mO (vs:=[_]) rfl qv rfl dD dD dD (by simp[Value.cells]) rfl hS ?_));intro bx wz17 hS hBz17;refine⟨hBz17,?_⟩;rw[show([Value.agg #[.int .i64 x.h,.int .i64 ((c 2%3:Nat):Int),.bool (j9 (oM (c 3))).neg,.string (j9 (oM (c 3))).num,.string (j9 (oM (c 3))).den]]).flatMap (λv=>v.cells.toList)=[x].flatMap lZ from(by rw[cI,cI,hxv];rfl)]at hS;refine kT (x:=jw 19) (U':=[jo 20,jo 21,jw 22]) kR kR (kY rfl rfl (mz [x] rfl rfl qv dD hGi hS rfl rfl mY (uL [x]) dL dL ?_));intro va18 La18 wa18 hGi hS hga18;obtain⟨aX,cX,hvX⟩:=hGi.len;subst hvX;obtain⟨LN,hLN⟩:=jz La18;rw[<-hLN]at hGi hS;refine kO (i:=20) (U':=[jo 21,jw 22]) kR kR rfl rfl (kF (i:=i) rfl rfl oO dO pw (kO (i:=21) (U':=[jw 22]) kR kR rfl rfl (lI rfl qk (kT (x:=jw 22) (U':=[]) kR kR (kY rfl rfl (Eu (k:=3) (i:=i) (off:=3) p9 (oP cash i,.slice aX (C++[x]).length cX,(ev i).2) mP rfl rfl pS hS rfl oO (by rw[ka];exact him) rfl rfl dD (by rw[kw _ _ him];rfl) rfl ?_))))));intro wz19 hS;refine na ?_;refine ja ?_;obtain⟨ev',LC',f1,f2,f3⟩:=xI (P:=[(bc,69,ys c),(bg,29,[(Value.slice (some ⟨bE,0,none⟩) m cE),ke]),(br,29,[ke,ke])]) hev hR him hcl hGi hS;exact⟨_,rfl,⟨jY,jY,jY,jY,jY,jY⟩,jY,jY,jY,ev',LC',f1,f2,f3.drop (ab _ _)⟩
      ·refine kI rfl rfl (mO (vs:=[_]) rfl qv rfl dD dD dD (by simp[Value.cells]) rfl hS ?_);intro bx wz20 hS hBz20;refine⟨hBz20,?_⟩;rw[show([Value.agg #[.int .i64 x.h,.int .i64 ((c 2%3:Nat):Int),.bool (j9 (oM (c 3))).neg,.string (j9 (oM (c 3))).num,.string (j9 (oM (c 3))).den]]).flatMap (λv=>v.cells.toList)=[x].flatMap lZ from(by rw[cI,cI,hxv];rfl)]at hS;refine qt (x:=jv 1) (y:=jw 19) (U':=[jw 19,jo 20,jo 21,jw 22]) (U'':=[jv 1,jo 20,jo 21,jw 22]) kR kR kR ?_ ?_
       ·refine kI rfl rfl (qw (kX (k:=2) rfl pu hS rfl rfl rfl (.inr rfl) ?_));refine⟨Below.refl _ _,?_⟩;refine kT (x:=jw 19) (U':=[jo 20,jo 21,jw 22]) kR kR (kY rfl rfl (mz [x] rfl rfl qv dD hGi hS rfl rfl mY (uL [x]) dL dL ?_));intro va21 La21 wa21 hGi hS hga21;obtain⟨aX,cX,hvX⟩:=hGi.len;subst hvX;obtain⟨LN,hLN⟩:=jz La21;rw[<-hLN]at hGi hS;refine kO (i:=20) (U':=[jo 21,jw 22]) kR kR rfl rfl (kF (i:=i) rfl rfl oO dO pw (kO (i:=21) (U':=[jw 22]) kR kR rfl rfl (lI rfl qk (kT (x:=jw 22) (U':=[]) kR kR (kY rfl rfl (Eu (k:=3) (i:=i) (off:=3) p9 (oP cash i,.slice aX (C++[x]).length cX,(ev i).2) mP rfl rfl pS hS rfl oO (by rw[ka];exact him) rfl rfl dD (by rw[kw _ _ him];rfl) rfl ?_))))));intro wz22 hS;refine na ?_;refine ja ?_;obtain⟨ev',LC',f1,f2,f3⟩:=xI (P:=[(bc,69,ys c),(bg,29,[(Value.slice (some ⟨bE,0,none⟩) m cE),ke]),(br,29,[ke,ke])]) hev hR him hcl hGi hS;exact⟨_,rfl,⟨jY,jY,jY,jY,jY,jY⟩,jY,jY,jY,ev',LC',f1,f2,f3.drop (ab _ _)⟩
       ·refine kY rfl rfl (mz [x] rfl rfl qv dD hGi hS rfl rfl mY (uL [x]) dL dL ?_);intro va23 La23 wa23 hGi hS hga23;obtain⟨aX,cX,hvX⟩:=hGi.len;subst hvX;obtain⟨LN,hLN⟩:=jz La23;rw[<-hLN]at hGi hS;refine kT (x:=jv 1) (U':=[jo 20,jo 21,jw 22]) kR kR (kI rfl rfl (qw (kX (k:=1) rfl pu hS rfl rfl rfl (.inr rfl) ?_)));refine⟨Below.refl _ _,?_⟩;refine kO (i:=20) (U':=[jo 21,jw 22]) kR kR rfl rfl (kF (i:=i) rfl rfl oO dO pw (kO (i:=21) (U':=[jw 22]) kR kR rfl rfl (lI rfl qk (kT (x:=jw 22) (U':=[]) kR kR (kY rfl rfl (Eu (k:=3) (i:=i) (off:=3) p9 (oP cash i,.slice aX (C++[x]).length cX,(ev i).2) mP rfl rfl pS hS rfl oO (by rw[ka];exact him) rfl rfl dD (by rw[kw _ _ him];rfl) rfl ?_))))));intro wz24 hS;refine na ?_;refine ja ?_;obtain⟨ev',LC',f1,f2,f3⟩:=xI (P:=[(bc,69,ys c),(bg,29,[(Value.slice (some ⟨bE,0,none⟩) m cE),ke]),(br,29,[ke,ke])]) hev hR him hcl hGi hS;exact⟨_,rfl,⟨jY,jY,jY,jY,jY,jY⟩,jY,jY,jY,ev',LC',f1,f2,f3.drop (ab _ _)⟩
   clear hS h2 h3 h4 h10 h11 h12 h51 h52 h53;rintro ρ w6 ⟨⟨h2,h3,h4,h10,h11,h12⟩,h51,h52,h53,ev,LC,hev,hR,hS⟩;refine V2 ?_;exact⟨j+1,_,rfl,⟨hlt,⟨jY,jY,jY,jY,jY,jY⟩,jY,jY,vi rfl oO,ev,LC,hev,hR,hS⟩,oO⟩
  ·refine J1 ?_;refine jt ?_;obtain rfl:j=L.length:=oO;exact⟨_,rfl,⟨h2,h3,h4,h10,h11,h12⟩,ev,LC,hev,hR,hS⟩
 clear hS h2 h3 h4 h10 h11 h12;rintro ρ w4 ⟨⟨h2,h3,h4,h10,h11,h12⟩,ev,LC,hev,hR,hS⟩;obtain⟨cl,hcl⟩:=jz (xZ m L L.length);have hc6:∀i,(cl i).length<=6:=λi=>by rw[hcl];exact Bx m L L.length i
 rw[<-hcl]at hR;obtain⟨nC,hnC⟩:∃nC:Nat->Nat,nC=λi=>(cl i).length:=⟨_,rfl⟩;have hst9:(∀i,i<m->([]:List Value).length=(uT m nC Q 0 i).length/\([]:List (List Value)).length=(uT m nC Q 0 i).length/\IR [] (ev i).2 (uT m nC Q 0 i) [] []):=λi _=>⟨rfl,rfl,by
  rw[hev i];exact⟨λwz wx _=>⟨rfl,Sl.nil _ _ _,λk hk=>absurd hk (aS _)⟩⟩⟩
 replace hS:St w w4 ([(bg,29,[(Value.slice (some ⟨bE,0,none⟩) m cE),ke]),(br,29,[ke,ke])]++([(bE,51,(ku m λi=>(oP cash i,(ev) i)).flatMap kA++sp)]::[]::LC).flatten):=hS;refine J1 ?_;refine jp (kj rfl (hQ.j5 hS.j5) ⟨_,Tryz.underlying24⟩ ?_);refine J1 ?_;refine jb ?_;refine kz (λρ w'=>(ρ 2=vL/\ρ 3=vQ/\ρ 4=vD/\ρ 10=pB br/\ρ 11=pB bg/\ρ 12=iB m)/\∃(ev:Nat->Value×Value) (DA:List kV) (av:Nat->List Value) (pv:Nat->List (List Value)),(∀i,i<m->(av i).length=(uT m nC Q Q.length i).length/\(pv i).length=(uT m nC Q Q.length i).length/\IR DA (ev i).2 (uT m nC Q Q.length i) (av i) (pv i))/\mv lZ 53 5 (ku m λi=>(ev i).1) (ku m cl) LC/\St w w' ([(bg,29,[(Value.slice (some ⟨bE,0,none⟩) m cE),ke]),(br,29,[ke,ke])]++([(bE,51,(ku m λi=>(oP cash i,(ev) i)).flatMap kA++sp)]::DA::LC).flatten)) ?_ ?_
 ·refine ja ?_;refine kx (σ:=Nat) (λj ρ w'=>j<=Q.length/\(ρ 2=vL/\ρ 3=vQ/\ρ 4=vD/\ρ 10=pB br/\ρ 11=pB bg/\ρ 12=iB m)/\ρ 107=vQ/\ρ 108=iB Q.length/\ρ 109=iB j/\∃(ev:Nat->Value×Value) (DA:List kV) (av:Nat->List Value) (pv:Nat->List (List Value)),(∀i,i<m->(av i).length=(uT m nC Q j i).length/\(pv i).length=(uT m nC Q j i).length/\IR DA (ev i).2 (uT m nC Q j i) (av i) (pv i))/\mv lZ 53 5 (ku m λi=>(ev i).1) (ku m cl) LC/\St w w' ([(bg,29,[(Value.slice (some ⟨bE,0,none⟩) m cE),ke]),(br,29,[ke,ke])]++([(bE,51,(ku m λi=>(oP cash i,(ev) i)).flatMap kA++sp)]::DA::LC).flatten)) (λj=>Q.length-j) 0
   ⟨ax _,⟨h2,h3,h4,h10,h11,h12⟩,rfl,rfl,rfl,ev,[],(λ_=>[]),(λ_=>[]),hst9,hR,hS⟩ ?_
  clear hS h2 h3 h4 h10 h11 h12 hst9 hev hR;clear ev;rintro j ρ w4 ⟨hj,⟨h2,h3,h4,h10,h11,h12⟩,h107,h108,h109,ev,DA,av,pv,hPA,hR,hS⟩;refine V1 ?_;by_cases hlt:j<Q.length
  ·refine J1 ?_;refine jb ?_;obtain⟨p,hpd⟩:=jz (Q.getD j z4);have hpx:=hq p (by rw[hpd];exact kH _ _ _ hlt);have hp0:=hpx 0 dD;obtain⟨i,hi⟩:=jz (p 0%m);have him:i<m:=by rw[hi];exact bG _ oO
   refine kz (λρ w'=>(ρ 2=vL/\ρ 3=vQ/\ρ 4=vD/\ρ 10=pB br/\ρ 11=pB bg/\ρ 12=iB m)/\ρ 107=vQ/\ρ 108=iB Q.length/\ρ 109=iB j/\∃(ev:Nat->Value×Value) (DA:List kV) (av:Nat->List Value) (pv:Nat->List (List Value)),(∀i,i<m->(av i).length=(uT m nC Q (j+1) i).length/\(pv i).length=(uT m nC Q (j+1) i).length/\IR DA (ev i).2 (uT m nC Q (j+1) i) (av i) (pv i))/\mv lZ 53 5 (ku m λi=>(ev i).1) (ku m cl) LC/\St w w' ([(bg,29,[(Value.slice (some ⟨bE,0,none⟩) m cE),ke]),(br,29,[ke,ke])]++([(bE,51,(ku m λi=>(oP cash i,(ev) i)).flatMap kA++sp)]::DA::LC).flatten)) ?_ ?_
   ·refine jr ?_;refine jp (kp (i:=j) h107 h109 (hQ.j5 hS.j5) oO dO SK (jq (ky (i:=j) z4 rfl yj (hQ.j5 hS.j5) dO rfl rfl (.inl rfl) ?_)));refine J1 ?_;intro bc wz25 hS hBz25;refine J1 ?_;intro wz26 hS;refine ja ?_;rw[<-hpd]at hS;replace hS:St w _ ((bc,70,o5 p)::[(bg,29,[(Value.slice (some ⟨bE,0,none⟩) m cE),ke]),(br,29,[ke,ke])]++([(bE,51,(ku m λi=>(oP cash i,(ev) i)).flatMap kA++sp)]::DA::LC).flatten):=hS;have hGi:=hR.g i (by rw[ka];exact him);rw[kw _ _ him,kw _ _ him]at hGi;obtain⟨a1,c1,hv1⟩:=hGi.len;have hci:=hc6 i;obtain⟨l1,l2,hPi⟩:=hPA i him;have hlA:=Kl m nC Q j i;obtain⟨A,hA⟩:=jz (uT m nC Q j i);rw[<-hA]at l1 l2 hPi hlA;have hDs:DA.Sublist ((bc,70,o5 p)::[(bg,29,[(Value.slice (some ⟨bE,0,none⟩) m cE),ke]),(br,29,[ke,ke])]++([(bE,51,(ku m λi=>(oP cash i,(ev) i)).flatMap kA++sp)]::DA::LC).flatten):=((ap DA LC.flatten).trans (ao [(bE,51,(ku m λi=>(oP cash i,(ev) i)).flatMap kA++sp)] _)).trans (ao _ _);have hAg:=hPi.g _ _ (hS.drop hDs);obtain⟨a2,c2,hv2,_⟩:=hAg.sl.form;rw[l1]at hv2;have hev2:ev i=(.slice a1 (cl i).length c1,.slice a2 A.length c2):=iG hv1 hv2;have hel:((ku m λi=>(oP cash i,ev i)).getD i p9)=(oP cash i,Value.slice a1 (cl i).length c1,Value.slice a2 A.length c2):=by rw[kw _ _ him,hev2]
    have hte:=ka m λi=>(oP cash i,ev i);refine jr ?_;refine jp (uq (n:=3) (i:=0) rfl rfl rfl dD Tryz.underlying70 pG ?_);refine J3 ?_;refine jp (pY rfl rfl oO (r:=((i:Nat):Int)) (by rw[hi];exact o9 _ m) ?_);refine J4 ?_;refine jp (kp (i:=i) rfl rfl (hEs _ ev _ hS (by simp)) oO dO pw ?_);refine jp (oG rfl (nc (hEs _ ev _ hS (by simp)) (λ_=>rfl) dD dO) BR ?_);refine jq (oE (v:= .slice a2 A.length c2) (i:=i) (off:=4) p9 rfl xq (hEs _ ev _ hS (by simp)) (λ_=>rfl) dD oO rfl (by rw[hel];rfl) (.inr rfl) ?_);refine J2 ?_;refine jb ?_;by_cases hA2:A.length<2
    ·refine V1 ?_;have hag:∀k,uT m nC Q (j+1) k=if k=i then uT m nC Q j i++[wM A (nC i) p]else uT m nC Q j k:=λk=>by
      show(if _ then _ else _)=_;rw[<-hpd,<-hi];by_cases e:k=i
      ·rw[aj e,aj ⟨e.symm,by rw[e,<-hA];exact hA2⟩,e,<-hA]
      ·rw[ah e,ah (λh=>e h.1.symm)]
     have hni:nC i=(cl i).length:=by rw[hnC]
     rw[hv2]at hPi;refine ja ?_;refine kE [jo 0,ju 1,jo 2,jo 3,ju 4,jo 5,jo 6,ju 7,ju 8,jv 9,jo 10,jo 11,jw 12] kR kR hS ?_;intro wz27 hS hBz27;refine J6 ?_;refine jl rfl (kp (i:=i) rfl rfl (hEs _ ev _ hS (by simp)) oO dO pw (jm rfl (ky (v:=MD (oP cash i) (.slice a1 (cl i).length c1) (.slice a2 A.length c2)) (i:=i) p9 rfl tq (hEs _ ev _ hS (by simp)) oO rfl (by rw[hel];rfl) (.inl rfl) ?_)));refine J1 ?_;refine jn rfl (j7 Tryz.call21 rfl (NT (oP cash i) a1 (cl i).length c1 _ A (av i) (pv i) p _ (hPi.g _ _ (hS.drop hDs)) oO hpx oO) ?_);rintro r w5 ⟨x,vs,LO,D2,hGr,hMt,hS5⟩;refine⟨hS5.j5,?_⟩;replace hS:=(hS.join hS5).perm ay;obtain⟨aR,cR,hvr⟩:=hGr.len;subst hvr;refine jl rfl (kF (i:=i) rfl rfl oO dO pw ?_);refine J1 ?_;refine jx rfl (Eu (k:=3) (i:=i) (off:=4) p9 (oP cash i,(ev i).1,.slice aR (av i++[x]).length cR) mP rfl rfl xq hS rfl oO (by rw[ka];exact him) rfl rfl dD (by rw[kw _ _ him];rfl) rfl ?_);intro wz28 hS;refine ja ?_;rw[<-hni]at hMt;obtain⟨ev',DA',av',pv',f1,f2,f3⟩:=Sq (P:=(bc,70,o5 p)::[(bg,29,[(Value.slice (some ⟨bE,0,none⟩) m cE),ke]),(br,29,[ke,ke])]) hPA hR him hag hGr hMt hS;exact⟨_,rfl,⟨jY,jY,jY,jY,jY,jY⟩,jY,jY,jY,ev',DA',av',pv',f1,f2,f3.drop (ab _ _)⟩
    ·refine V1 ?_;have e:∀k,uT m nC Q (j+1) k=uT m nC Q j k:=λk=>by
      show(if _ then _ else _)=_;rw[ah (by rw[<-hpd,<-hi];rintro⟨e1,e2⟩;rw[<-e1,<-hA]at e2;exact hA2 e2)]
     exact⟨_,rfl,⟨jY,jY,jY,jY,jY,jY⟩,jY,jY,jY,ev,DA,av,pv,(λk hk=>by rw[e k];exact hPA k hk),hR,hS.drop (ab _ _)⟩
   clear hS h2 h3 h4 h10 h11 h12 h107 h108 h109;rintro ρ w6 ⟨⟨h2,h3,h4,h10,h11,h12⟩,h107,h108,h109,ev,DA,av,pv,hPA,hR,hS⟩;refine V2 ?_;exact⟨j+1,_,rfl,⟨hlt,⟨jY,jY,jY,jY,jY,jY⟩,jY,jY,vi rfl oO,ev,DA,av,pv,hPA,hR,hS⟩,oO⟩
  ·refine J1 ?_;refine jt ?_;obtain rfl:j=Q.length:=oO;exact⟨_,rfl,⟨h2,h3,h4,h10,h11,h12⟩,ev,DA,av,pv,hPA,hR,hS⟩
 clear hS h2 h3 h4 h10 h11 h12 hst9 hR hev;clear ev;rintro ρ w4 ⟨⟨h2,h3,h4,h10,h11,h12⟩,ev,DA,av,pv,hPA,hR,hS⟩;have hPA2:=λi hi=>(hPA i hi).2.2;clear hPA;refine J1 ?_;refine jp (kj rfl (hD.j5 hS.j5) ⟨_,Tryz.underlying24⟩ ?_);refine J1 ?_;refine jb ?_;refine kz (λρ w'=>(ρ 2=vL/\ρ 3=vQ/\ρ 4=vD/\ρ 10=pB br/\ρ 11=pB bg/\ρ 12=iB m)/\∃(vY:Value) (DA:List kV) (dv:List Value),UI DA vY (E3 m cl D D.length) dv/\(∀i,i<m->IR DA (ev i).2 (uT m nC Q Q.length i) (av i) (pv i))/\St w w' ([(bg,29,[(Value.slice (some ⟨bE,0,none⟩) m cE),vY]),(br,29,[ke,ke])]++([(bE,51,(ku m λi=>(oP cash i,(ev) i)).flatMap kA++sp)]::DA::LC).flatten)) ?_ ?_
 ·refine ja ?_;refine kx (σ:=Nat) (λj ρ w'=>j<=D.length/\(ρ 2=vL/\ρ 3=vQ/\ρ 4=vD/\ρ 10=pB br/\ρ 11=pB bg/\ρ 12=iB m)/\ρ 139=vD/\ρ 140=iB D.length/\ρ 141=iB j/\∃(vY:Value) (DA:List kV) (dv:List Value),UI DA vY (E3 m cl D j) dv/\(∀i,i<m->IR DA (ev i).2 (uT m nC Q Q.length i) (av i) (pv i))/\St w w' ([(bg,29,[(Value.slice (some ⟨bE,0,none⟩) m cE),vY]),(br,29,[ke,ke])]++([(bE,51,(ku m λi=>(oP cash i,(ev) i)).flatMap kA++sp)]::DA::LC).flatten)) (λj=>D.length-j) 0
   ⟨ax _,⟨h2,h3,h4,h10,h11,h12⟩,rfl,rfl,rfl,ke,DA,[],⟨rfl,λwz wx _=>⟨Sl.nil _ _ _,λk hk=>absurd hk (aS _)⟩⟩,hPA2,hS⟩ ?_
  clear hS h2 h3 h4 h10 h11 h12 hPA2;clear DA;rintro j ρ w4 ⟨hj,⟨h2,h3,h4,h10,h11,h12⟩,h139,h140,h141,vY,DA,dv,hPD,hPA,hS⟩;refine V1 ?_;by_cases hlt:j<D.length
  ·refine J1 ?_;refine jb ?_;obtain⟨d,hdd⟩:=jz (D.getD j z4);have hdx:=hd d (by rw[hdd];exact kH _ _ _ hlt);refine kz (λρ w'=>(ρ 2=vL/\ρ 3=vQ/\ρ 4=vD/\ρ 10=pB br/\ρ 11=pB bg/\ρ 12=iB m)/\ρ 139=vD/\ρ 140=iB D.length/\ρ 141=iB j/\∃(vY:Value) (DA:List kV) (dv:List Value),UI DA vY (E3 m cl D (j+1)) dv/\(∀i,i<m->IR DA (ev i).2 (uT m nC Q Q.length i) (av i) (pv i))/\St w w' ([(bg,29,[(Value.slice (some ⟨bE,0,none⟩) m cE),vY]),(br,29,[ke,ke])]++([(bE,51,(ku m λi=>(oP cash i,(ev) i)).flatMap kA++sp)]::DA::LC).flatten)) ?_ ?_
   ·refine jr ?_;refine jp (kp (i:=j) h139 h141 (hD.j5 hS.j5) oO dO SK (jq (ky (i:=j) z4 rfl yj (hD.j5 hS.j5) dO rfl rfl (.inl rfl) ?_)));refine J1 ?_;intro bc wz29 hS hBz29;refine J1 ?_;intro wz30 hS;refine ja ?_;rw[<-hdd]at hS;replace hS:St w _ ((bc,70,o5 d)::[(bg,29,[(Value.slice (some ⟨bE,0,none⟩) m cE),vY]),(br,29,[ke,ke])]++([(bE,51,(ku m λi=>(oP cash i,(ev) i)).flatMap kA++sp)]::DA::LC).flatten):=hS;have hDs:DA.Sublist ((bc,70,o5 d)::[(bg,29,[(Value.slice (some ⟨bE,0,none⟩) m cE),vY]),(br,29,[ke,ke])]++([(bE,51,(ku m λi=>(oP cash i,(ev) i)).flatMap kA++sp)]::DA::LC).flatten):=((ap DA LC.flatten).trans (ao [(bE,51,(ku m λi=>(oP cash i,(ev) i)).flatMap kA++sp)] _)).trans (ao _ _);have hLs:LC.flatten.Sublist ((bc,70,o5 d)::[(bg,29,[(Value.slice (some ⟨bE,0,none⟩) m cE),vY]),(br,29,[ke,ke])]++([(bE,51,(ku m λi=>(oP cash i,(ev) i)).flatMap kA++sp)]::DA::LC).flatten):=((ao DA LC.flatten).trans (ao [(bE,51,(ku m λi=>(oP cash i,(ev) i)).flatMap kA++sp)] _)).trans (ao _ _);have hDb:=hPD.g _ _ (hS.drop hDs);obtain⟨aY,cY,hvY,_⟩:=hDb.sl.form;rw[ka]at hvY;have hds3:=BH m cl D j;subst hvY;refine J4 ?_;refine jb ?_;obtain⟨ds,hds⟩:=jz (E3 m cl D j);have hdsj:E3 m cl D (j+1)=if ds.length<3 then ds++[⟨oM (d 2),R9 ds d cl m⟩]else ds:=by rw[hds,hdd];rfl
    rw[<-hds]at hPD hDb hds3⊢;by_cases hA2:ds.length<3
    ·refine V1 ?_;rw[<-hds]at hS hLs;rw[aj hA2]at hdsj;have hEsR:WY _ _ m (oP cash) ev cl:=⟨hEs _ ev _ hS (by simp),λk hk=>by
      have h:=hR.row (P:=[]) (hS.drop hLs) mY (i:=k) (by rw[ka];exact hk);rw[kw _ _ hk,kw _ _ hk]at h;exact h⟩
     refine J2 ?_;refine jh (j7 Tryz.call22 rfl (UL d _ hEsR hDb hdx oO (λk _=>by have:=hc6 k;omega) oO) ?_);rintro r w5 ⟨vL2,LO,D2,hGr,hMt,hS5⟩;replace hS:=(hS.join hS5).perm ay;have hGr2:=hGr;obtain⟨aR,cR,hvr⟩:=hGr.len;subst hvr;refine J1 ?_;refine jh (nW (k:=1) rfl rfl rU hS rfl (by simp) rfl ?_);intro wz31 hS;refine ja ?_;have hPD2:=hPD.snoc hGr2 hMt;replace hS:St w _ (((bc,70,o5 d)::[(bg,29,[(Value.slice (some ⟨bE,0,none⟩) m cE),Value.slice aR ((ku ds.length λk=>((ds.getD k t8).W,dv.getD k undef))++[(oM (d 2),vL2)]).length cR]),(br,29,[ke,ke])]++([(bE,51,(ku m λi=>(oP cash i,(ev) i)).flatMap kA++sp)]::DA::LC).flatten)++(LO++D2)):=hS;have hS9:=(tw (P:=(bc,70,o5 d)::[(bg,29,[(Value.slice (some ⟨bE,0,none⟩) m cE),Value.slice aR ((ku ds.length λk=>((ds.getD k t8).W,dv.getD k undef))++[(oM (d 2),vL2)]).length cR]),(br,29,[ke,ke])]) (Ls:=[(bE,51,(ku m λi=>(oP cash i,(ev) i)).flatMap kA++sp)]::DA::LC) (k:=1) (A:=LO++D2) (hS.perm ay) rfl (dQ _)).drop (ab _ _);exact⟨_,rfl,⟨jY,jY,jY,jY,jY,jY⟩,jY,jY,jY,_,_,_,by rw[hdsj];exact hPD2,(λk hk=>(hPA k hk).mono (ao _ _)),hS9⟩
    ·refine V1 ?_;rw[ah hA2]at hdsj;exact⟨_,rfl,⟨jY,jY,jY,jY,jY,jY⟩,jY,jY,jY,_,DA,dv,by rw[hdsj];exact hPD,hPA,by rw[hds];exact hS.drop (ab _ _)⟩
   clear hS h2 h3 h4 h10 h11 h12 h139 h140 h141;rintro ρ w6 ⟨⟨h2,h3,h4,h10,h11,h12⟩,h139,h140,h141,vY,DA,dv,hPD,hPA,hS⟩;refine V2 ?_;exact⟨j+1,_,rfl,⟨hlt,⟨jY,jY,jY,jY,jY,jY⟩,jY,jY,vi rfl oO,vY,DA,dv,hPD,hPA,hS⟩,oO⟩
  ·refine J1 ?_;refine jt ?_;obtain rfl:j=D.length:=oO;exact⟨_,rfl,⟨h2,h3,h4,h10,h11,h12⟩,vY,DA,dv,hPD,hPA,hS⟩
 clear hS h2 h3 h4 h10 h11 h12 hPA2;clear DA;rintro ρ w4 ⟨⟨h2,h3,h4,h10,h11,h12⟩,vY,DA,dv,hPD,hPA,hS⟩;have hDs:DA.Sublist ([(bg,29,[(Value.slice (some ⟨bE,0,none⟩) m cE),vY]),(br,29,[ke,ke])]++([(bE,51,(ku m λi=>(oP cash i,(ev) i)).flatMap kA++sp)]::DA::LC).flatten):=((ap DA LC.flatten).trans (ao [(bE,51,(ku m λi=>(oP cash i,(ev) i)).flatMap kA++sp)] _)).trans (ao _ _);obtain⟨aY,cY,hvY,_⟩:=(hPD.g _ _ (hS.drop hDs)).sl.form;have hPD2:=hPD;have hform:∀i,i<m->∃a l c,(ev i).2= .slice a l c:=λi hi=>by
  obtain⟨a,c,h,_⟩:=((hPA i hi).g _ _ (hS.drop hDs)).sl.form;exact⟨a,_,c,h⟩
 subst hvY;refine J2 ?_;intro wz32 hS;refine jt ?_;refine mq (k:=1) rfl h10 qV hS rfl rfl ?_;have hS8:St w _ ([(bg,29,[(Value.slice (some ⟨bE,0,none⟩) m cE),_]),(br,29,[(Value.slice (some ⟨bE,0,none⟩) m cE),_])]++([(bE,51,(ku m λi=>(oP cash i,(ev) i)).flatMap kA++sp)]::DA::LC).flatten):=hS;have hS9:=hS8.drop (ao _ _);rw[<-hm];rw[hnC]at hPA;rw[hcl]at hPA hR;refine⟨_,_,ev,av,pv,dv,[(bE,51,(ku m λi=>(oP cash i,(ev) i)).flatMap kA++sp)],DA,LC,rfl,⟨⟨hGE ev,hR,hform⟩,hPA,by rw[<-hcl];exact hPD2⟩,hS9.perm ?_⟩;rw[aF];exact bU _ ay
def F8 (n:Nat) (q:Nat->Rat) (cl:Nat->List rG) (ds:List sV):mT:=⟨ku n λi=>⟨q i,cl i⟩,ds⟩
theorem Hc (n:Nat) (q:Nat->Rat) (cl:Nat->List rG) (ds:List sV):(F8 n q cl ds).n=n:=ka _ _
theorem Pi {n:Nat} (q:Nat->Rat) (cl:Nat->List rG) (ds:List sV) {i:Nat} (h:i<n):(F8 n q cl ds).e i=⟨q i,cl i⟩:=kw _ _ h
theorem WM.gr {n:Nat} {q:Nat->Rat} {cl:Nat->List rG} {A:Nat->List (List (List nD))} {ds:List sV} {vE vD:Value} {ev:Nat->Value×Value} {av:Nat->List Value} {pv:Nat->List (List Value)} {dv:List Value} {LE:List kV} {LC:List (List kV)} {DA:List kV}
  (h:WM n q cl A ds vE vD ev av pv dv LE LC DA) {w0 w:World} (hS:St w0 w ((LE++LC.flatten)++DA)):EE w vE vD (F8 n q cl ds) (ku n ev) dv/\∀i,i<(F8 n q cl ds).n->GT w ((ku n ev).getD i pW).2 (A i) (av i) (pv i):=by
 have hE:=h.e.XH (hS.drop (ap _ _));have hD:=h.d.g _ _ (hS.drop (ao _ _));have hes:(ku n λi=>(q i,ev i))=ku (F8 n q cl ds).n λi=>(((F8 n q cl ds).e i).cash,(ku n ev).getD i pW):=by
  rw[Hc];exact kB λi hi=>by rw[Pi q cl ds hi,kw _ _ hi]
 refine⟨⟨by rw[<-hes];exact hE.es,hD.sl,λi hi=> ?_,hD.lg,λi hi=> ?_⟩,λi hi=> ?_⟩;all_goals rw[Hc]at hi
 ·rw[kw _ _ hi,Pi q cl ds hi];exact hE.cl i hi
 ·rw[kw _ _ hi];exact h.e.a i hi
 ·rw[kw _ _ hi];exact(h.a i hi).g _ _ (hS.drop (ao _ _))
theorem No (va vb:Value) (A:List RR) (w:World) (ha:Sl j6 3 w va A) (hb:Sl j6 3 w vb A):
  lW Tryz.prog 17 #[va,vb] w λv w'=>v= .bool true/\Below w.heap.size w w':=
 lW.mono (Ba va vb A A w ha hb) λv w' ⟨h1,h2⟩=>⟨by rw[h1,ak rfl],h2⟩
theorem MB (va vb:Value) (A:List (List RR)) (us vs:List Value) (w:World) (ha:qE j6 3 w va A us) (hb:qE j6 3 w vb A vs):
  lW Tryz.prog 19 #[va,vb] w λv w'=>v= .bool true/\Below w.heap.size w w':=by
 have hS:=St.init w;have hla:=ha.len;have hlb:=hb.len;have hmx:=ha.sl.maxLen;refine enter Tryz.func19 rfl Tryz.ntmps19 rfl ?_;refine J2 ?_;refine jp (kj rfl (ha.sl.j5 hS.j5) ⟨_,Tryz.underlying35⟩ ?_);refine J1 ?_;refine jp (kj rfl (hb.sl.j5 hS.j5) ⟨_,Tryz.underlying35⟩ ?_);refine V1 ?_;rw[hla,hlb];refine lx rfl (ae (λh=>h rfl)) ?_;refine V1 ?_;refine kx (σ:=Nat) (λi ρ w'=>i<=A.length/\ρ 0=va/\ρ 1=vb/\ρ 5=iB i/\St w w' []) (λi=>A.length-i) 0
  ⟨ax _,rfl,rfl,rfl,hS⟩ ?_
 clear hS;rintro i ρ w2 ⟨hi,h0,h1,h5,hS⟩;refine J2 ?_;refine jp (kj rfl (ha.sl.j5 hS.j5) ⟨_,Tryz.underlying35⟩ ?_);refine V1 ?_;by_cases hlt:i<A.length
 ·refine V1 ?_;refine kE [jo 0,jo 1,jo 2,ju 3,jo 4,jo 5,jo 6,ju 7,jv 8,jo 9] kR kR hS ?_;intro wz1 hS hBz1;refine J2 ?_;refine jl rfl (kp (i:=i) rfl rfl (ha.sl.j5 hS.j5) oO dO lL (jm rfl (ky (i:=i) undef rfl lV (ha.sl.j5 hS.j5) dO rfl rfl (.inr rfl) ?_)));refine J2 ?_;refine jl rfl (kp (i:=i) rfl rfl (hb.sl.j5 hS.j5) oO dO lL (jm rfl (ky (i:=i) undef rfl lV (hb.sl.j5 hS.j5) dO rfl rfl (.inr rfl) (jn rfl (j7 Tryz.call17 rfl (No _ _ (A.getD i []) _ ((ha.row i hlt).j5 hS.j5) ((hb.row i hlt).j5 hS.j5)) ?_)))));rintro r w3 ⟨rfl,hB3⟩;refine⟨hB3,?_⟩;replace hS:=hS.ko hB3;refine V1 ?_;refine lx rfl (rfl) ?_;refine V3 ?_;exact⟨i+1,_,rfl,⟨hlt,jY,jY,vi rfl oO,hS⟩,oO⟩
 ·refine J2 ?_;refine jt ?_;refine kD rfl rfl ?_;exact⟨rfl,hS.j5⟩
def VM (i:Nat):Rat:=if i=0 then((30:Int):Rat)else 0
def To (i:Nat):List rG:=if i=0 then [⟨-1,2,((40:Int):Rat)⟩,⟨1,2,((20:Int):Rat)⟩]else [⟨-1,2,((50:Int):Rat)⟩]
theorem MJ (r:RR) (a:Option Addr) (n c:Nat):Tryz.prog.built 51 [(0,lu r),(1,.slice a n c)]=some #[.bool r.neg,.string r.num,.string r.den,.slice a n c,ke]:=by kernel_rfl
theorem Nk (a:Option Addr) (n c:Nat):Tryz.prog.built 51 [(1,.slice a n c)]=some #[.bool false,.string ⟨#[]⟩,.string ⟨#[]⟩,.slice a n c,ke]:=by kernel_rfl
theorem Pm (a:Option Addr) (n c:Nat):Tryz.prog.built 29 [(0,.slice a n c)]=some #[.slice a n c,ke]:=by kernel_rfl
theorem RF (w:World):
  lW Tryz.prog 32 #[] w λr w'=>∃(vE vD:Value) (ev:Nat->Value×Value) (LE DA:List kV) (LC:List (List kV)),r= .agg #[vE,vD]/\WM 2 VM To (λ_=>[]) [] vE vD ev (λ_=>[]) (λ_=>[]) [] LE LC DA/\St w w' ((LE++LC.flatten)++DA):=by
 have hS:=St.init w;refine enter Tryz.func32 rfl Tryz.ntmps32 rfl ?_;refine J1 ?_;intro br wz1 hS hBz1;refine ja ?_;obtain⟨q3,hq3⟩:∃q:Rat,q=((30:Int):Rat):=⟨_,rfl⟩;obtain⟨q4,hq4⟩:∃q:Rat,q=((40:Int):Rat):=⟨_,rfl⟩;obtain⟨q2,hq2⟩:∃q:Rat,q=((20:Int):Rat):=⟨_,rfl⟩;obtain⟨q5,hq5⟩:∃q:Rat,q=((50:Int):Rat):=⟨_,rfl⟩;have h3:=λw=>mH 30 w dD dD;have h4:=λw=>mH 40 w dD dD;have h2:=λw=>mH 20 w dD dD;have h5:=λw=>mH 50 w dD dD;rw[<-hq3]at h3;rw[<-hq4]at h4;rw[<-hq2]at h2;rw[<-hq5]at h5;refine jr ?_;refine jh (j7 Tryz.call33 rfl (h3 _) ?_);rintro r w1 ⟨rfl,hB1⟩;replace hS:=hS.ko hB1;refine jh (j7 Tryz.call33 rfl (h4 _) ?_);rintro r w2 ⟨rfl,hB2⟩;replace hS:=hS.ko hB2;refine jp (kQ rfl (xr _ _ _) (jh (j7 Tryz.call33 rfl (h2 _) ?_)));rintro r w3 ⟨rfl,hB3⟩;replace hS:=hS.ko hB3;refine jp (kQ rfl (xr _ _ _) (jh (mO (vs:=[_,_]) rfl qv rfl dD dD dD (by simp[Value.cells]) rfl hS ?_)));intro b6 wz2 hS hBz2;refine jp (kQ rfl (MJ _ _ _ _) (jh (j7 Tryz.call33 rfl (h5 _) ?_)));rintro r w4 ⟨rfl,hB4⟩;replace hS:=hS.ko hB4;refine jp (kQ rfl (xr _ _ _) (jh (mO (vs:=[_]) rfl qv rfl dD dD dD (by simp[Value.cells]) rfl hS ?_)));intro b7 wz3 hS hBz3;refine jp (kQ rfl (Nk _ _ _) (jh (mO (vs:=[_,_]) rfl pw rfl dD dD dD (by simp[Value.cells]) rfl hS ?_)));intro bE wz4 hS hBz4;refine jp (kQ rfl (Pm _ _ _) ?_);refine J1 ?_;intro wz5 hS;refine jt ?_;refine mq (k:=3) rfl rfl qV hS rfl rfl ?_;obtain⟨s6,hs6⟩:=jz (Value.slice (some ⟨b6,0,none⟩) 2 2);obtain⟨s7,hs7⟩:=jz (Value.slice (some ⟨b7,0,none⟩) 1 1);have hS1:St w _ ([(bE,51,kA (q3,Value.slice (some ⟨b6,0,none⟩) 2 2,ke)++[.bool false,.string ⟨#[]⟩,.string ⟨#[]⟩,Value.slice (some ⟨b7,0,none⟩) 1 1,ke]),(b7,53,lZ ⟨-1,2,q5⟩),(b6,53,lZ ⟨-1,2,q4⟩++lZ ⟨1,2,q2⟩)]++[_]):=hS;have hS2:=hS1.drop (ap _ _);clear hS hS1;rw[<-hs6,<-hs7]at hS2;have e7: [Value.bool false,.string ⟨#[]⟩,.string ⟨#[]⟩,s7,ke]=kA (0,s7,ke):=by
  show _=j6 (j9 0)++_;rw[oC];rfl
 rw[e7]at hS2;obtain⟨ev,hev⟩:∃ev:Nat->Value×Value,ev=λi=>if i=0 then(s6,ke)else(s7,ke):=⟨_,rfl⟩
 have hE:(ku 2 λi=>(VM i,ev i)).flatMap kA=kA (q3,s6,ke)++kA (0,s7,ke):=by rw[hev,hq3];rfl
 have h6:(To 0).flatMap lZ=lZ ⟨-1,2,q4⟩++lZ ⟨1,2,q2⟩:=by rw[hq4,hq2];rfl
 have h7:(To 1).flatMap lZ=lZ ⟨-1,2,q5⟩:=by rw[hq5];rfl
 rw[<-hE,<-h6,<-h7]at hS2;have g0:=SC (enc:=kA) (b:=bE) (t:=51) (n:=2) (X:=ku 2 λi=>(VM i,ev i)) mP (ka _ _) dD;have g6:=SC (enc:=lZ) (b:=b6) (t:=53) (n:=2) (X:=To 0) mY rfl dD;have g7:=SC (enc:=lZ) (b:=b7) (t:=53) (n:=1) (X:=To 1) mY rfl dD;have e0:ev 0=(s6,ke):=by rw[hev];rfl
 have e1:ev 1=(s7,ke):=by rw[hev];rfl
 refine⟨_,ke,ev,[(bE,51,(ku 2 λi=>(VM i,ev i)).flatMap kA)],[],[[(b6,53,(To 0).flatMap lZ)],[(b7,53,(To 1).flatMap lZ)]],rfl,⟨⟨g0,?_,λi hi=> ?_⟩,λi hi=>⟨λwz wx _=> ?_⟩,⟨rfl,λwz wx _=>⟨Sl.nil _ _ _,λk hk=>absurd hk (aS _)⟩⟩⟩,?_⟩
 ·have h:=(mv.nil.snoc g6).snoc g7;rw[<-hs6,<-hs7]at h;have r1:(ku 2 λi=>(ev i).1)=([]++[s6])++[s7]:=by rw[hev];rfl
  rw[r1];exact h
 ·match i,hi with
  |0,_=>rw[e0];exact⟨none,0,0,rfl⟩
  |1,_=>rw[e1];exact⟨none,0,0,rfl⟩
 ·have h:(ev i).2=ke:=by
   match i,hi with
   |0,_=>rw[e0]
   |1,_=>rw[e1]
  rw[h];exact⟨rfl,Sl.nil _ _ _,λk hk=>absurd hk (aS _)⟩
 ·rw[aK];exact hS2.perm (List.Perm.cons _ (List.Perm.swap _ _ _))
noncomputable section
def yZ (g:mT) (A:Nat->List (List (List nD))) (i c:Nat):Rat:=lH (λi=>om (g.e i).cl (A i)) (xS g A) i c-y8 g (lH (λi=>om (g.e i).cl (A i)) (xS g A)) g.ds.length i c
def mw:mT:=F8 2 VM To []
theorem PW {D0:Nat} (w:World) (hh:U0 D0 mw λ_=>[]) (h0:yZ mw (λ_=>[]) 0 0=((20:Int):Rat)) (h1:yZ mw (λ_=>[]) 1 0=((10:Int):Rat)):
  lW Tryz.prog 12 #[] w λr w'=>r= .bool true/\Below w.heap.size w w':=by
 have hS:=St.init w;refine enter Tryz.func12 rfl Tryz.ntmps12 rfl ?_;refine Y1 ?_;refine jh (j7 Tryz.call32 rfl (RF _) ?_);rintro r w2 ⟨vE,vD,ev,LE,DA,LC,rfl,hP,hS2⟩;obtain⟨hM,hA⟩:=hP.gr hS2;replace hS:=hS.ko hS2.j5;clear hS2;refine jh (j7 Tryz.call9 rfl (y0 vE vD mw _ _ (λ_=>[]) (λ_=>[]) (λ_=>[]) _ hM hA hh) ?_);rintro r w3 ⟨rs,LR,rfl,hR,hS3⟩;have hB3:=hS3.j5;replace hR:=hR _ _ hS3;clear hS3;obtain⟨vM,vG,vD',vF,vN,vS,vR,vU,uG,uD,uF,uN,e,m1,m2,m3,m4,m5,m6,m7,m8⟩:=hR;obtain⟨a1,c1,e1,_⟩:=m1.form;obtain⟨a2,c2,e2,_⟩:=m2.sl.form;obtain⟨a3,c3,e3,_⟩:=m3.sl.form;obtain⟨a4,c4,e4,_⟩:=m4.sl.form;obtain⟨a5,c5,e5,_⟩:=m5.sl.form;obtain⟨a6,c6,e6,_⟩:=m6.form;obtain⟨a7,c7,e7,_⟩:=m7.form;obtain⟨a8,c8,e8,_⟩:=m8.form;have hl5:uN.length=2:=by rw[m5.len];rfl
 rw[hl5]at e5;subst e1 e2 e3 e4 e5 e6 e7 e8 e;clear m1 m2 m3 m4 m6 m7 m8 hA hM;replace hS:=hS.ko hB3;have hW:=hS.j5;clear hS;have hS:=St.init w3;have r0:=m5.row 0 dD;have r1:=m5.row 1 dD;have t0:(tp mw.n mw.cn (yZ mw λ_=>[])).getD 0 []=ku 2 λc=>j9 (yZ mw (λ_=>[]) 0 c):=kw _ _ dD;have t1:(tp mw.n mw.cn (yZ mw λ_=>[])).getD 1 []=ku 1 λc=>j9 (yZ mw (λ_=>[]) 1 c):=kw _ _ dD;replace r0:Sl j6 3 w3 (uN.getD 0 undef) (ku 2 λc=>j9 (yZ mw (λ_=>[]) 0 c)):=t0▸r0;replace r1:Sl j6 3 w3 (uN.getD 1 undef) (ku 1 λc=>j9 (yZ mw (λ_=>[]) 1 c)):=t1▸r1;obtain⟨b0,d0,f0,_⟩:=r0.form;obtain⟨b1,d1,f1,_⟩:=r1.form;rw[ka]at f0 f1;rw[f0]at r0;rw[f1]at r1;have l0:=ka 2 λc=>j9 (yZ mw (λ_=>[]) 0 c);have l1:=ka 1 λc=>j9 (yZ mw (λ_=>[]) 1 c);have hq0:decide ((ku 2 λc=>j9 (yZ mw (λ_=>[]) 0 c)).getD 0 kP=j9 ((20:Int):Rat))=true:=ak (by rw[kw _ _ dD,h0]);have hq1:decide ((ku 1 λc=>j9 (yZ mw (λ_=>[]) 1 c)).getD 0 kP=j9 ((10:Int):Rat))=true:=ak (by rw[kw _ _ dD,h1]);refine J4 ?_;intro bs wz1 hS hBz1;refine J1 ?_;intro wz2 hS;refine V1 ?_;refine RZ [0,1,3,7,15,31,63,127,255,511,1023,2047,4095,8191,16383,32767,65535,131071,262143,524287,1048575,2097151,4194303,8388607,16777215,33554431,67108863,134217727,268435455,536870911,1073741823,33554431,4294967295,8589934591,17179869183,34359738367,68719476735,137438953471,274877906943,549755813887,1099511627775,34359738367,4398046511103,8796093022207,17592186044415] [jo 0,jo 1,jo 2,jo 3,ju 4,jo 5,jo 6,jo 7,jo 8,jo 9,ju 10,jo 11,ju 12,jo 13,jo 14,jo 15,jo 16,jo 17,ju 18,jo 19,ju 20,jo 21,jo 22,jo 23,jo 24,jo 25,ju 26,jo 27,ju 28,jo 29,ju 30,jv 31,jo 32,jo 33,jo 34,jo 35,ju 36,jo 37,ju 38,jo 39,ju 40,jv 41,jo 42,jo 43,jo 44] kR kR hS ?_;intro wz3 hS hBz3;refine J3 ?_;refine kU rfl (j8 10 kR rfl rfl) (lI rfl up (nl rfl (j8 10 kR rfl rfl) (kX (k:=0) rfl qb hS rfl rfl rfl (.inr rfl) (kU rfl (j8 10 kR rfl rfl) (kj rfl (m5.sl.j5 hS.j5) ⟨_,Tryz.underlying35⟩ (kU rfl (j8 10 kR rfl rfl) (qd rfl rfl (jl rfl (kC (vb rfl rfl) rfl ?_)))))))));refine J1 ?_;refine kU rfl (j8 16 kR rfl dT) (lI rfl up (nl rfl (j8 16 kR rfl dT) (kX (k:=0) rfl qb hS rfl rfl rfl (.inr rfl) (kU rfl (j8 16 kR rfl dT) (kp (i:=0) rfl rfl (m5.sl.j5 hS.j5) oO dO lL (nl rfl (j8 16 kR rfl dT) (ky (v:= .slice b0 2 d0) (i:=0) undef rfl lV (m5.sl.j5 hS.j5) (by rw[hl5];decide) rfl (by rw[f0];rfl) (.inr rfl) (kU rfl (j8 16 kR rfl dT) (kj rfl (r0.j5 hS.j5) ⟨_,Tryz.underlying34⟩ (kU rfl (j8 16 kR rfl dT) (qd rfl rfl (jl rfl (kC (vb rfl dT) rfl ?_)))))))))))));refine J1 ?_;refine kU rfl (j8 24 kR rfl dT) (lI rfl up (nl rfl (j8 24 kR rfl dT) (kX (k:=0) rfl qb hS rfl rfl rfl (.inr rfl) (kU rfl (j8 24 kR rfl dT) (kp (i:=1) rfl rfl (m5.sl.j5 hS.j5) oO dO lL (nl rfl (j8 24 kR rfl dT) (ky (v:= .slice b1 1 d1) (i:=1) undef rfl lV (m5.sl.j5 hS.j5) (by rw[hl5];decide) rfl (by rw[f1];rfl) (.inr rfl) (kU rfl (j8 24 kR rfl dT) (kj rfl (r1.j5 hS.j5) ⟨_,Tryz.underlying34⟩ (kU rfl (j8 24 kR rfl dT) (qd rfl rfl (jl rfl (kC (vb rfl dT) rfl ?_)))))))))))));refine J1 ?_;refine kU rfl (j8 32 kR rfl dT) (lI rfl up (nl rfl (j8 32 kR rfl dT) (kX (k:=0) rfl qb hS rfl rfl rfl (.inr rfl) (kU rfl (j8 32 kR rfl dT) (kp (i:=0) rfl rfl (m5.sl.j5 hS.j5) oO dO lL (nl rfl (j8 32 kR rfl dT) (ky (v:= .slice b0 2 d0) (i:=0) undef rfl lV (m5.sl.j5 hS.j5) (by rw[hl5];decide) rfl (by rw[f0];rfl) (.inr rfl) (kU rfl (j8 32 kR rfl dT) (kp (i:=0) rfl rfl (r0.j5 hS.j5) rfl dO kM (nl rfl (j8 32 kR rfl dT) (ky (i:=0) kP rfl ki (r0.j5 hS.j5) dO rfl rfl (.inl rfl) (Ac rfl (j8 32 kR rfl dT) (j7 Tryz.call33 rfl (mH 20 _ dD dD) ?_)))))))))))));rintro r w5 ⟨rfl,hB5⟩;refine⟨hB5,?_⟩;replace hS:=hS.ko hB5;refine kU rfl (j8 32 kR rfl dT) (NU rfl rfl (jl rfl (kC (vb rfl dT) rfl ?_)));refine J1 ?_;refine kU rfl (j8 42 kR rfl hq0) (lI rfl up (nl rfl (j8 42 kR rfl hq0) (kX (k:=0) rfl qb hS rfl rfl rfl (.inr rfl) (kU rfl (j8 42 kR rfl hq0) (kp (i:=1) rfl rfl (m5.sl.j5 hS.j5) oO dO lL (nl rfl (j8 42 kR rfl hq0) (ky (v:= .slice b1 1 d1) (i:=1) undef rfl lV (m5.sl.j5 hS.j5) (by rw[hl5];decide) rfl (by rw[f1];rfl) (.inr rfl) (kU rfl (j8 42 kR rfl hq0) (kp (i:=0) rfl rfl (r1.j5 hS.j5) rfl dO kM (nl rfl (j8 42 kR rfl hq0) (ky (i:=0) kP rfl ki (r1.j5 hS.j5) dO rfl rfl (.inl rfl) (Ac rfl (j8 42 kR rfl hq0) (j7 Tryz.call33 rfl (mH 10 _ dD dD) ?_)))))))))))));rintro r w6 ⟨rfl,hB6⟩;refine⟨hB6,?_⟩;replace hS:=hS.ko hB6;refine kU rfl (j8 42 kR rfl hq0) (NU rfl rfl (jl rfl (kC (vb rfl hq0) rfl ?_)));refine J1 ?_;refine jt ?_;refine kD rfl rfl ?_;exact⟨vb rfl hq1,hW.trans (hS.j5.mono hW.size)⟩
end
structure sL (D0:Nat) (q:Rat):Prop where
 nn:0<=q
 mu:Mu D0 q
 le:q<=((2000:Nat):Rat)
theorem sL.L {D0:Nat} {q:Rat} (h:sL D0 q) (d0:0<D0) (s0:sz D0<=2):Sx.L q<=4:=by
 have h1:=h.mu.size d0 h.nn h.le;have h2:sz 2000<=2:=lN dD;omega
structure Gf (P:Rat->Prop) (n i:Nat) (e:QP) (A:List (List (List nD))):Prop where
 cash:P e.cash
 cn:e.cl.length<=7
 cl:∀c∈e.cl,-1<=c.h/\c.h<n/\c.h≠i/\0<=c.rk/\c.rk<=7/\P c.q
 an:A.length<=2
 tn:∀X∈A,X.length<=3
 pn:∀X∈A,∀l∈X,l.length<=8
 pt:∀X∈A,∀l∈X,∀p∈l,(p.c= -1/\p.cap=true\/0<=p.c/\p.c<e.cl.length)/\P p.q
 nd:(y6 A).Nodup
abbrev Ma (D0:Nat):=Gf (sL D0)
structure Lt (P:Rat->Prop) (g:mT) (A:Nat->List (List (List nD))):Prop where
 n0:0<g.n
 n:g.n<=8
 dn:g.ds.length<=6
 es:∀i,i<g.n->Gf P g.n i (g.e i) (A i)
 W:∀d,d<g.ds.length->P (g.d d).W
 ln:∀d,d<g.ds.length->(g.d d).legs.length<=4
 lg:nV g
 ho:F4 g
 hl:∀d,d<g.ds.length->∀j,j<(g.d d).legs.length->(g.c (g.lg d j).1 (g.lg d j).2).h=(g.c (g.lg d 0).1 (g.lg d 0).2).h
 nd:(AL g).Nodup
structure GV (D0:Nat) (g:mT) (A:Nat->List (List (List nD))):Prop extends Lt (sL D0) g A where
 d0:0<D0
 s0:sz D0<=2
theorem If {α:Type} {k:Nat}:∀ {X:List (List α)},(∀l∈X,l.length<=k)->X.flatten.length<=X.length*k
 | [],_=>ax _
 |l::X,h=>by
  have h1:=h l (aJ ..);have h2:=If (X:=X) λl hl=>h l (aI _ hl);rw[List.flatten_cons,aw,ba,bl];omega
theorem EJ (A:List (List (List nD))) {k:Nat} (h:k<A.length):∃R,y6 A=(y6 (A.take k)++nT (A.getD k []).flatten)++R:=by
 refine⟨y6 (A.drop (k+1)),?_⟩;rw[<-Ix A h];unfold y6;rw[<-eW,<-bO,da]
section
variable {D0 n i : Nat} {e : QP} {A : List (List (List nD))}
theorem Gf.fl (h:Ma D0 n i e A) {X:List (List nD)} (hX:X∈A):X.flatten.length<=24:=by
 have h1:=If (h.pn X hX);have h2:=h.tn X hX;omega
theorem Gf.m7 (h:Ma D0 n i e A):(y6 A).length<=7:=by
 have h1:∀c∈y6 A,0<=c/\c<e.cl.length:=λc hc=>by
  unfold y6 at hc;rw[eh]at hc;obtain⟨l,hl,hc⟩:=hc;rw[bT]at hl;obtain⟨X,hX,rfl⟩:=hl;obtain⟨p,hp,e1,e2⟩:=uO hc;rw[eh]at hp;obtain⟨l,hl,hp⟩:=hp;rcases(h.pt X hX l hl p hp).1 with q|q
  ·exact absurd (e1▸q.1) e2
  ·rw[<-e1];exact q
 have h2:((y6 A).map Int.toNat).Nodup:=by
  refine jN.2 (List.Pairwise.imp_of_mem (fun {a b} ha hb hne hab=>hne ?_) h.nd);have:=h1 a ha;have:=h1 b hb;omega
 have h3:((y6 A).map Int.toNat).length<=(List.range e.cl.length).length:=List.Nodup.length_le_of_subset h2 λx hx=>by
  obtain⟨c,hc,rfl⟩:=bT.1 hx;have:=h1 c hc;rw[cS];omega
 rw[aO,dE]at h3;have:=h.cn;omega
theorem Gf.W7 (h:Ma D0 n i e A) (d0:0<D0) (s0:sz D0<=2) (hn:n<=8):UT e.cash e.cl A:=by
 have hMX:MX=1099511627776:=rfl;have hcn:=h.cn;have han:=h.an;refine⟨oO,oO,h.cash.nn,by have:=h.cash.L d0 s0;omega,λc hc=> ?_,λk hk=> ?_⟩
 ·obtain⟨a1,a2,_,a4,a5,a6⟩:=h.cl c hc;exact⟨⟨a1,oO⟩,⟨a4,a5⟩,a6.nn,by have:=a6.L d0 s0;omega⟩
 ·have hX:=kH A k [] hk;obtain⟨R,hR⟩:=EJ A hk;have hnd:=h.nd;rw[hR,de,de]at hnd;obtain⟨⟨n1,n2,n3⟩,_,_⟩:=hnd;have hfl:=h.fl hX;have h7:=h.m7;rw[hR,aw,aw]at h7;refine⟨by have:=h.tn _ hX;omega,λj hj=>by have:=h.pn _ hX _ (kH _ j [] hj);omega,oO,n2,oO,λp hp=> ?_⟩;rw[eh]at hp;obtain⟨l,hl,hpl⟩:=hp;obtain⟨q1,q2⟩:=h.pt _ hX l hl p hpl;refine⟨?_,λ_=>q2.nn,by have:=q2.L d0 s0;omega⟩;rcases q1 with q|q
  ·exact .inl q
  ·refine .inr ⟨q.1,q.2,λhm=> ?_⟩;refine n3 p.c hm p.c ?_ rfl;unfold nT;exact bT.2 ⟨p,dS.2 ⟨eh.2 ⟨l,hl,hpl⟩,ak oO⟩,rfl⟩
end
theorem IH {l:List (Nat×Nat)} {j:Nat} (h:l.Nodup) (hj:j<l.length):l.getD j (0,0)∉l.take j:=by
 have e:l=l.take j++(l.getD j (0,0)::l.drop (j+1)):=by
  conv=>lhs;rw[<-da j l,dJ hj]
  rw[ai,aG hj];rfl
 rw[e,de]at h;exact λhm=>h.2.2 _ hm _ (aJ ..) rfl
theorem ND (ds:List sV) {k:Nat} (h:k<ds.length):ds.flatMap sV.legs=((ds.take k).flatMap sV.legs++(ds.getD k t8).legs)++(ds.drop (k+1)).flatMap sV.legs:=by
 conv=>lhs;rw[<-da k ds,dJ h]
 rw[dk,cw,ai,aG h,aF];rfl
theorem Pv (ds:List sV):∀k,k<=ds.length->mL (λd=>(ds.getD d t8).legs) k=(ds.take k).flatMap sV.legs
 |0,_=>rfl
 |k+1,h=>by
  rw[lC ds k t8 oO,dk,cI,<-Pv ds k oO];exact oQ _ _
theorem Ot (P l:List (Nat×Nat)) (j:Nat):(P++l).getD (P.length+j) (0,0)=l.getD j (0,0):=by
 rw[ai,bV oO,cW,<-ai]
theorem Hn (g:mT):AL g=g.ds.flatMap sV.legs:=by
 have:=Pv g.ds g.ds.length (aB _);rw[bK]at this;exact this
section
variable {D0 : Nat} {g : mT} {A : Nat → List (List (List nD))}
theorem GV.W7 (h:GV D0 g A):PG g A:=by
 have hMX:MX=1099511627776:=rfl;refine⟨h.n,by have:=h.dn;omega,λi hi=>(h.es i hi).W7 h.d0 h.s0 h.n,λi hi c hc=> ?_,λk hk=> ?_⟩
 ·obtain⟨_,a2,a3,_⟩:=(h.es i hi).cl (g.c i c) (kH _ _ _ hc);exact⟨a3,a2⟩
 ·have hnd:=h.nd;rw[Hn,ND g.ds hk,de]at hnd;have hl:=h.ln k hk;have hw:=h.W k hk;refine⟨oO,hw.nn,by have:=hw.L h.d0 h.s0;omega,h.lg k hk,h.hl k hk,λj hj=> ?_⟩;have h1:=hnd.1;have h2:=IH h1 (j:=((g.ds.take k).flatMap sV.legs).length+j) (by rw[aw];exact Nat.add_lt_add_left hj _);rw[Ot,iJ,aU oO,cW]at h2;exact h2
end
theorem sL.sub {D0:Nat} {p q:Rat} (h:sL D0 p) (g:sL D0 q) (hle:q<=p):sL D0 (p-q):=by
 have h1:=g.nn;have h2:=h.le;exact⟨by grind,h.mu.sub g.mu,by grind⟩
theorem sL.min {D0:Nat} {p q:Rat} (h:sL D0 p) (g:sL D0 q):sL D0 (zw p q):=by
 unfold zw;split
 ·assumption
 ·assumption
theorem sL.zero (D0:Nat):sL D0 0:=⟨bP,Mu.zero,dD⟩
theorem Va (p q:Rat):zw p q<=p:=by
 unfold zw;split
 ·grind
 ·grind
theorem OC {D0:Nat} {f:Nat->Rat} {p:nD} (hf:∀k,sL D0 (f k)) (hp:sL D0 p.q):sL D0 (MG f p):=by
 unfold MG;split
 ·exact hp
 ·split
  ·exact(hf _).min hp
  ·exact hf _
theorem Ty {f:Nat->Rat} {p:nD} (h:p.c≠-1):MG f p<=f p.c.toNat:=by
 unfold MG;rw[ah h];split
 ·exact Va _ _
 ·exact bP
theorem Tv {D0:Nat} {s:(Nat->Rat)×Tr} {p:nD} (hf:∀k,sL D0 (s.1 k)) (hp:sL D0 p.q):∀k,sL D0 ((Vf s p).1 k):=by
 intro k;unfold Vf;by_cases h:p.c= -1
 ·simp only[aj h];exact hf k
 ·simp only[ah h];unfold JC;split
  ·exact(hf _).sub (OC hf hp) (Ty h)
  ·exact hf k
theorem Od:∀(l m:List Pa),qs (l++m)=qs l+qs m
 | [],m=>by show qs m=0+qs m;grind
 |p::l,m=>by
  show p.q+qs (l++m)=p.q+qs l+qs m;rw[Od l m];grind
structure TA (D0:Nat) (t:Tr):Prop where
 q:∀p∈t.ps,sL D0 p.q
 s:t.sm=qs t.ps
theorem TA.add {D0:Nat} {t:Tr} (h:TA D0 t) {c:Int} {q:Rat} (hq:sL D0 q):TA D0 (zh t ⟨c,q⟩):=by
 refine⟨λp hp=> ?_,?_⟩
 ·rcases bB.1 hp with h1|h1
  ·exact h.q p h1
  ·rw[aQ.1 h1];exact hq
 ·show t.sm+q=qs (t.ps++[⟨c,q⟩]);rw[Od,<-h.s];show _=t.sm+(q+0);grind
theorem TA.zero (D0:Nat):TA D0 r6:=⟨λp hp=>(by cases hp),rfl⟩
theorem Jy {D0:Nat} {f:Nat->Rat} {l:List nD} (hf:∀k,sL D0 (f k)) (hp:∀p∈l,sL D0 p.q):∀j,j<=l.length->(∀k,sL D0 ((A6 f l j).1 k))/\TA D0 (A6 f l j).2
 |0,_=>⟨hf,TA.zero D0⟩
 |j+1,h=>by
  obtain⟨h1,h2⟩:=Jy hf hp j oO;have h3:=hp _ (kH l j u4 oO);rw[y9 f l oO];exact⟨Tv h1 h3,h2.add (OC h1 h3)⟩
theorem JO {D0:Nat} {f:Nat->Rat} {m:List Int} (hf:∀k,sL D0 (f k)):∀j,j<=m.length->TA D0 (GX f m j)
 |0,_=>TA.zero D0
 |j+1,h=>by
  rw[zV f m oO];exact(JO hf j oO).add (hf _)
theorem FC {D0:Nat} {f:Nat->Rat} {X:List (List nD)} (hf:∀k,sL D0 (f k)) (hp:∀l∈X,∀p∈l,sL D0 p.q):∀i,i<=X.length->(∀k,sL D0 ((yh f X i).1 k))/\∀t∈(yh f X i).2,TA D0 t
 |0,_=>⟨hf,λt ht=>(by cases ht)⟩
 |i+1,h=>by
  obtain⟨h1,h2⟩:=FC hf hp i oO;obtain⟨h3,h4⟩:=Jy h1 (hp _ (kH X i [] oO)) (X.getD i []).length (aB _);refine⟨h3,λt ht=> ?_⟩;rcases bB.1 ht with q|q
  ·exact h2 t q
  ·rw[aQ.1 q];exact h4
theorem sL.aa {D0:Nat} {q:Rat} (h:sL D0 q):q<=(AA:Rat):=by
 have h1:=h.le;have h2:((2000:Nat):Rat)<=(AA:Rat):=by exact_mod_cast (show 2000<=AA by decide)
 grind
theorem TA.nn {D0:Nat}:∀ {l:List Pa},(∀p∈l,sL D0 p.q)->0<=qs l
 | [],_=>bP
 |p::l,h=>by
  have h1:=(h p (aJ ..)).nn;have h2:=TA.nn (l:=l) λp hp=>h p (aI _ hp);show 0<=p.q+qs l;grind
theorem TA.L {D0:Nat} {t:Tr} (h:TA D0 t) (d0:0<D0) (s0:sz D0<=2) (hn:t.ps.length<=24):Sx.L t.sm<=6:=by
 obtain⟨h1,h2,_⟩:=Ry (D0:=D0) (l:=t.ps) λp hp=>⟨(h.q p hp).mu,(h.q p hp).aa⟩;rw[h.s];have h3:=h1.size d0 (TA.nn h.q) h2;have h4:sz (t.ps.length*AA)<=4:=lN (bY (aH _ hn) dD);omega
section
variable {D0 n i : Nat} {e : QP} {A : List (List (List nD))}
theorem Gf.q (h:Ma D0 n i e A) (k:Nat):sL D0 (qi e.cl k):=by
 unfold qi;by_cases hk:k<e.cl.length
 ·exact(h.cl _ (kH _ _ _ hk)).2.2.2.2.2
 ·rw[ai,dg oO];exact sL.zero D0
theorem Gf.Xi (h:Ma D0 n i e A) {X:List (List nD)} (hX:X∈A):(nT X.flatten).Nodup/\(nT X.flatten).length<=7:=by
 obtain⟨k,hk,rfl⟩:=eV hX;obtain⟨R,hR⟩:=EJ A hk;have e1:A.getD k []=A[k]:=by rw[ai,aG hk];rfl
 rw[e1]at hR;have h1:=h.nd;have h2:=h.m7;rw[hR,de,de]at h1;rw[hR,aw,aw]at h2;exact⟨h1.1.2.1,oO⟩
theorem Gf.lay (h:Ma D0 n i e A) (d0:0<D0) (s0:sz D0<=2) {X:List (List nD)} (hX:X∈A):Qu e.cl X:=by
 have hcn:=h.cn;have hq:=h.q;have hp:∀l∈X,∀p∈l,sL D0 p.q:=λl hl p hp=>(h.pt X hX l hl p hp).2;have hfl:=h.fl hX;have htn:=h.tn X hX;obtain⟨x1,x2⟩:=h.Xi hX;have hml:(u6 X).length<=7:=by
  unfold u6;rw[(qJ Dy _).length_eq];exact x2
 refine⟨oO,λk _=>by have:=(hq k).L d0 s0;omega,oO,oO,λj hj=>by have:=h.pn X hX _ (kH X j [] hj);omega,λj hj c hc=> ?_,λj hj c hc=> ?_,λj hj=> ?_,x1,oO⟩
 ·rcases(h.pt X hX _ (kH X j [] hj) _ (kH _ c u4 hc)).1 with q|q
  ·exact .inl q.1
  ·exact .inr q
 ·have hl8:=h.pn X hX _ (kH X j [] hj);have hpl:=hp _ (kH X j [] hj);obtain⟨a1,_⟩:=FC hq hp j oO;obtain⟨b1,b2⟩:=Jy a1 hpl c oO;have b3:=BI (yh (qi e.cl) X j).1 (X.getD j []) c oO;refine⟨by have:=b2.L d0 s0 oO;omega,λk _=>by have:=(b1 k).L d0 s0;omega,by have:=(hpl _ (kH _ c u4 hc)).L d0 s0;omega⟩
 ·obtain⟨a1,_⟩:=FC hq hp X.length (aB _);have b2:=JO (m:=u6 X) a1 j oO;have b3:=BM (yh (qi e.cl) X X.length).1 (u6 X) j oO;exact⟨by have:=b2.L d0 s0 oO;omega,by have:=(a1 ((u6 X).getD j 0).toNat).L d0 s0;omega⟩
theorem Ge {cl:List rG} (hq:∀k,sL D0 (qi cl k)) (r:Nat):∀i,TA D0 (tk cl i r)
 |0=>TA.zero D0
 |i+1=>by
  unfold tk;split
  ·exact(Ge hq r i).add (hq i)
  ·exact Ge hq r i
theorem Qr {f:Nat->Rat} (hf:∀k,sL D0 (f k)):∀n,0<=kg f n/\Mu D0 (kg f n)/\kg f n<=((n*2000:Nat):Rat)
 |0=>⟨bP,Mu.zero,by rw[fq];exact bP⟩
 |n+1=>by
  obtain⟨h1,h2,h3⟩:=Qr hf n;have h:=hf n;have h4:=h.nn;have h5:=h.le;refine⟨?_,h2.add h.mu,?_⟩
  ·show 0<=kg f n+f n;grind
  ·show kg f n+f n<=_;rw[bl,dG,gQ];grind
theorem SP {f:Nat->Rat} (hf:∀k,sL D0 (f k)) (d0:0<D0) (s0:sz D0<=2) {k:Nat} (hk:k<=7):Sx.L (kg f k)<=4:=by
 obtain⟨h1,h2,h3⟩:=Qr hf k;have h4:=h2.size d0 h1 h3;have h5:sz (k*2000)<=2:=lN (bY (aH _ hk) dD);omega
theorem Gf.XO (h:Ma D0 n i e A) (d0:0<D0) (s0:sz D0<=2):Rn e.cl A:=by
 have hcn:=h.cn;have han:=h.an;refine⟨oO,λk _=>by have:=(h.q k).L d0 s0;omega,λk hk=> ?_,λj hj r=> ?_,λj hj=>by have:=SP h.q d0 s0 (k:=j) oO;omega,oO,λk hk=>h.lay d0 s0 (kH A k [] hk)⟩
 ·obtain⟨_,_,_,a4,a5,_⟩:=h.cl _ (kH e.cl k o6 hk);exact⟨a4,oO⟩
 ·have h1:=(Ge h.q r j).L d0 s0 (by have:=BF e.cl j r;omega);omega
end
def ze (n:Nat) (t:Tr):Prop:=∀p∈t.ps,p.c= -1\/0<=p.c/\p.c<n
theorem ze.add {n:Nat} {t:Tr} (h:ze n t) {c:Int} {q:Rat} (hc:c= -1\/0<=c/\c<n):ze n (zh t ⟨c,q⟩):=λp hp=>by
 rcases bB.1 hp with h1|h1
 ·exact h p h1
 ·rw[aQ.1 h1];exact hc
theorem ze.zero (n:Nat):ze n r6:=λp hp=>by cases hp
theorem QI {n:Nat} {f:Nat->Rat} {l:List nD} (hp:∀p∈l,p.c= -1\/0<=p.c/\p.c<n):∀j,j<=l.length->ze n (A6 f l j).2
 |0,_=>ze.zero n
 |j+1,h=>by
  rw[y9 f l oO];exact(QI hp j oO).add (hp _ (kH l j u4 oO))
theorem Qd {n:Nat} {f:Nat->Rat} {m:List Int} (hm:∀c∈m,0<=c/\c<n):∀j,j<=m.length->ze n (GX f m j)
 |0,_=>ze.zero n
 |j+1,h=>by
  rw[zV f m oO];exact(Qd hm j oO).add (.inr (hm _ (kH m j 0 oO)))
theorem O4 {n:Nat} {f:Nat->Rat} {X:List (List nD)} (hp:∀l∈X,∀p∈l,p.c= -1\/0<=p.c/\p.c<n):∀i,i<=X.length->∀t∈(yh f X i).2,ze n t/\∃l∈X,t.ps.length<=l.length
 |0,_,t,ht=>by cases ht
 |i+1,h,t,ht=>by
  rcases bB.1 ht with q|q
  ·exact O4 hp i oO t q
  ·rw[aQ.1 q];exact⟨QI (hp _ (kH X i [] oO)) _ (aB _),_,kH X i [] oO,by rw[BI _ _ _ (aB _)];exact aB _⟩
theorem Kf (cl:List rG) (r:Nat):∀i,i<=cl.length->ze cl.length (tk cl i r)
 |0,_=>ze.zero _
 |i+1,h=>by
  unfold tk;split
  ·exact(Kf cl r i oO).add (.inr ⟨oO,oO⟩)
  ·exact Kf cl r i oO
theorem TA.ok {D0:Nat} {t:Tr} (h:TA D0 t):DM t:=⟨λp hp=>(h.q p hp).nn,h.s⟩
theorem TA.b {D0:Nat} {t:Tr} (h:TA D0 t) (hn:t.ps.length<=8):IT D0 t:=⟨hn,λp hp=>⟨(h.q p hp).mu,(h.q p hp).aa⟩⟩
section
variable {D0 n i : Nat} {e : QP} {A : List (List (List nD))}
theorem Gf.pc (h:Ma D0 n i e A) {X:List (List nD)} (hX:X∈A):∀l∈X,∀p∈l,p.c= -1\/0<=p.c/\p.c<e.cl.length:=λl hl p hp=>by
 rcases(h.pt X hX l hl p hp).1 with q|q
 ·exact .inl q.1
 ·exact .inr q
theorem Gf.mm (h:Ma D0 n i e A) {X:List (List nD)} (hX:X∈A):(∀c∈u6 X,0<=c/\c<e.cl.length)/\(u6 X).length<=7:=by
 obtain⟨x1,x2⟩:=h.Xi hX;have hp:=qJ Dy (nT X.flatten);refine⟨λc hc=> ?_,by unfold u6;rw[hp.length_eq];exact x2⟩;obtain⟨p,hp1,e1,e2⟩:=uO (hp.mem_iff.1 hc);rw[eh]at hp1;obtain⟨l,hl,hpl⟩:=hp1;rcases h.pc hX l hl p hpl with q|q
 ·exact absurd (e1▸q) e2
 ·rw[<-e1];exact q
theorem Gf.Sn (h:Ma D0 n i e A) {X:List (List nD)} (hX:X∈A):(Jt e.cl X).length<=4/\∀t∈Jt e.cl X,TA D0 t/\ze e.cl.length t/\t.ps.length<=8:=by
 have hp:∀l∈X,∀p∈l,sL D0 p.q:=λl hl p hp=>(h.pt X hX l hl p hp).2;obtain⟨m1,m2⟩:=h.mm hX;obtain⟨a1,a2⟩:=FC h.q hp X.length (aB _);have hl:=Bu (qi e.cl) X X.length;have htn:=h.tn X hX;refine⟨by unfold Jt;rw[aw,hl];show _+1<=_;omega,λt ht=> ?_⟩;rcases bB.1 ht with q|q
 ·obtain⟨b1,l,hl,b2⟩:=O4 (h.pc hX) X.length (aB _) t q;have:=h.pn X hX l hl;exact⟨a2 t q,b1,oO⟩
 ·rw[aQ.1 q];exact⟨JO a1 _ (aB _),Qd m1 _ (aB _),by rw[BM _ _ _ (aB _)];omega⟩
theorem Gf.VI (h:Ma D0 n i e A):∀t∈(om e.cl A).rk,TA D0 t/\ze e.cl.length t/\t.ps.length<=8:=λt ht=>by
 obtain⟨r,_,rfl⟩:=rD ht;exact⟨Ge h.q r _,Kf _ _ _ (aB _),by have:=BF e.cl e.cl.length r;have:=h.cn;omega⟩
theorem UW (A:List (List (List nD))) (cl:List rG):((A.map (Jw cl)).flatMap Pl.mem).Perm ((y6 A).map Int.toNat):=by
 induction A with
 |nil=>exact dQ _
 |cons X A ih=>
  rw[df,cw];have e1:y6 (X::A)=nT X.flatten++y6 A:=rfl;rw[e1,bO];exact((qJ Dy (nT X.flatten)).map Int.toNat).append ih
theorem Gf.nn (h:Ma D0 n i e A):∀c∈y6 A,0<=c/\c<e.cl.length:=λc hc=>by
 unfold y6 at hc;rw[eh]at hc;obtain⟨l,hl,hc⟩:=hc;rw[bT]at hl;obtain⟨X,hX,rfl⟩:=hl;obtain⟨p,hp,e1,e2⟩:=uO hc;rw[eh]at hp;obtain⟨l,hl,hp⟩:=hp;rcases h.pc hX l hl p hp with q|q
 ·exact absurd (e1▸q) e2
 ·rw[<-e1];exact q
theorem Gf.W0 (h:Ma D0 n i e A):pE (om e.cl A):=by
 have hr:=h.VI;refine⟨λt ht=>(hr t ht).1.ok,λt ht p hp=>(hr t ht).2.1 p hp,λp hp t ht=> ?_,λp hp t ht q hq=> ?_,?_,λp hp k hk=> ?_⟩
 ·obtain⟨X,hX,rfl⟩:=bT.1 hp;exact((h.Sn hX).2 t ht).1.ok
 ·obtain⟨X,hX,rfl⟩:=bT.1 hp;exact((h.Sn hX).2 t ht).2.1 q hq
 ·refine(UW A e.cl).nodup_iff.2 ?_;refine jN.2 (List.Pairwise.imp_of_mem (fun {a b} ha hb hne hab=>hne ?_) h.nd);have:=h.nn a ha;have:=h.nn b hb;omega
 ·obtain⟨X,hX,rfl⟩:=bT.1 hp;obtain⟨c,hc,rfl⟩:=bT.1 hk;have:=(h.mm hX).1 c hc;show c.toNat<e.cl.length;omega
theorem Gf.XD (h:Ma D0 n i e A):Kh D0 (om e.cl A):=by
 have hr:=h.VI;refine⟨h.cn,by show(ku 8 _).length<=8;rw[ka];exact aB _,by show(A.map _).length<=2;rw[aO];exact h.an,λp hp=> ?_,λp hp=> ?_,λt ht=>(hr t ht).1.b (hr t ht).2.2,λp hp t ht=> ?_⟩
 ·obtain⟨X,hX,rfl⟩:=bT.1 hp;show((u6 X).map Int.toNat).length<=7;rw[aO];exact(h.mm hX).2
 ·obtain⟨X,hX,rfl⟩:=bT.1 hp;exact(h.Sn hX).1
 ·obtain⟨X,hX,rfl⟩:=bT.1 hp;have:=(h.Sn hX).2 t ht;exact this.1.b this.2.2
end
section
variable {D0 : Nat} {g : mT} {A : Nat → List (List (List nD))}
theorem GV.ok (h:GV D0 g A):nK g (λi=>om (g.e i).cl (A i)) (sb (AL g)):=
 ⟨λi hi=>(h.es i hi).W0,λ_ _=>rfl,λi hi=>(h.es i hi).cash.nn,h.ho,h.lg,λ_ _ _ _=>by unfold sb;exact fF,h.nd⟩
theorem GV.b (h:GV D0 g A):wP D0 g (λi=>om (g.e i).cl (A i)):=
 ⟨h.d0,h.s0,h.n0,h.n,h.dn,h.ln,λi hi=>(h.es i hi).XD,λi hi=>⟨(h.es i hi).cash.mu,(h.es i hi).cash.aa⟩,λd hd=>⟨(h.W d hd).nn,(h.W d hd).mu,(h.W d hd).aa⟩,λi hi=>dt (SP (h.es i hi).q h.d0 h.s0 (k:=(g.e i).cl.length) (h.es i hi).cn) dD⟩
theorem GV.WI (h:GV D0 g A):U0 D0 g A:=⟨h.W7,λi hi=>(h.es i hi).XO h.d0 h.s0,h.ok,h.b⟩
theorem GV.WK (h:GV D0 g A):Uo g (λi=>om (g.e i).cl (A i)) (sb (AL g)) (xS g A):=(Tm h.ok h.b).2.1
end
theorem Mu.nat (D m:Nat):Mu D ((m:Int):Rat):=⟨(m:Int)*(D:Int),by rw[eR,dj D]⟩
theorem sL.nat {D m:Nat} (h:m<=2000):sL D ((m:Int):Rat):=by
 refine⟨?_,Mu.nat D m,?_⟩
 ·rw[dj];exact Rat.natCast_nonneg
 ·rw[dj];exact yC h
def AS (q:Rat):Prop:=sL 60 q/\q<=((30:Nat):Rat)
theorem AS.nat {m:Nat} (h:m<=30):AS ((m:Int):Rat):=⟨sL.nat oO,by rw[dj];exact yC h⟩
theorem AS.zero:AS 0:=⟨sL.zero 60,dD⟩
theorem AS.rQ (x:Nat):AS (oM x):=by
 unfold oM;split
 ·obtain⟨a,ha⟩:=jz (x/5%23);obtain⟨b,hb⟩:=jz (x/115%6);have ha2:a<23:=by rw[ha];exact bG _ dD
  have hb2:b<6:=by rw[hb];exact bG _ dD
  rw[<-ha,<-hb];have key:∀b,b<6->∀a,a<23->(0<=mkRat ((a:Nat):Int) (1+b)/\mkRat ((a:Nat):Int) (1+b)<=30)/\mkRat ((a:Nat):Int) (1+b)*60=(((a*(60/(1+b)):Nat):Int):Rat):=by decide+kernel
  obtain⟨⟨h1,h2⟩,h3⟩:=key b hb2 a ha2;exact⟨⟨h1,⟨_,h3⟩,eO h2 dD⟩,h2⟩
 ·split
  ·have h:x/5%4<4:=bG _ dD;exact AS.nat oO
  ·have h:x/5%13<13:=bG _ dD;exact AS.nat oO
theorem zG (l m:List nD):nT (l++m)=nT l++nT m:=by
 unfold nT;rw[ie,bO]
theorem Ql {A:List (List (List nD))} {k:Nat} (h:(k:Int)∈y6 A):FO k A=true:=by
 unfold y6 at h;rw[eh]at h;obtain⟨l,hl,h⟩:=h;rw[bT]at hl;obtain⟨X,hX,rfl⟩:=hl;obtain⟨p,hp,e1,e2⟩:=uO h;rw[eh]at hp;obtain⟨l,hl,hp⟩:=hp;exact dA.2 ⟨X,hX,dA.2 ⟨l,hl,dA.2 ⟨p,hp,ak e1⟩⟩⟩
section
variable (A : List (List (List nD))) (p : Nat → Nat)
theorem BY:∀n t,∀q∈o7 A p n t,∃k:Nat,k<n/\q.c=k/\Nz (p 1) k=t+1/\FO k A=false/\AS q.q
 |0,_,q,hq=>by cases hq
 |n+1,t,q,hq=>by
  unfold o7 at hq;split at hq
  ·rename_i h;rcases bB.1 hq with h1|h1
   ·obtain⟨k,k1,k2⟩:=BY n t q h1;exact⟨k,oO,k2⟩
   ·rw[aQ.1 h1];refine⟨n,eg _,?_,h.1,h.2,?_⟩
    ·unfold yV;split<;>rfl
    ·unfold yV;split
     ·have:p 2/64%9<9:=bG _ dD;exact AS.nat oO
     ·exact AS.zero
  ·obtain⟨k,k1,k2⟩:=BY n t q hq;exact⟨k,oO,k2⟩
theorem HE (n t:Nat):∀c∈nT (o7 A p n t),∃k:Nat,k<n/\c=k/\Nz (p 1) k=t+1/\FO k A=false:=λc hc=>by
 obtain⟨q,hq,e1,_⟩:=uO hc;obtain⟨k,k1,k2,k3,k4,_⟩:=BY A p n t q hq;exact⟨k,k1,e1▸k2,k3,k4⟩
theorem y5:∀n t,(nT (o7 A p n t)).Nodup
 |0,_=>fe
 |n+1,t=>by
  unfold o7;split
  ·rw[zG,de];have e:nT [yV p n]=[(n:Int)]:=by
    unfold yV;split<;>(unfold nT;rw[fB,aj (ak (show(n:Int)≠-1 by omega))];rfl)
   rw[e];refine⟨y5 n t,by simp,λa ha b hb hab=> ?_⟩;rw[aQ]at hb;obtain⟨k,k1,k2,_⟩:=HE A p n t a ha;omega
  ·exact y5 n t
theorem Rx (n:Nat):nT (wM A n p).flatten=nT (o7 A p n 0)++(nT (o7 A p n 1)++nT (o7 A p n 2)):=by
 have e:∀t,nT (if p 0/8%4=0/\t=p 0/32%3 then o7 A p n t++[Se p]else o7 A p n t)=nT (o7 A p n t):=λt=>by
  split
  ·rw[zG];show _++[]=_;rw[aK]
  ·rfl
 show nT (_++(_++(_++[])))=_;rw[aK,zG,zG,e,e,e]
theorem RY (n:Nat):(nT (wM A n p).flatten).Nodup/\∀c∈nT (wM A n p).flatten,∃k:Nat,k<n/\c=k/\FO k A=false:=by
 rw[Rx];have hm:=HE A p n;refine⟨?_,λc hc=> ?_⟩
 ·rw[de,de];refine⟨y5 A p n 0,⟨y5 A p n 1,y5 A p n 2,λa ha b hb hab=> ?_⟩,λa ha b hb hab=> ?_⟩
  ·obtain⟨k,_,k2,k3,_⟩:=hm 1 a ha;obtain⟨l,_,l2,l3,_⟩:=hm 2 b hb;have:k=l:=oO;subst this;omega
  ·obtain⟨k,_,k2,k3,_⟩:=hm 0 a ha;rcases bB.1 hb with hb|hb
   ·obtain⟨l,_,l2,l3,_⟩:=hm 1 b hb;have:k=l:=oO;subst this;omega
   ·obtain⟨l,_,l2,l3,_⟩:=hm 2 b hb;have:k=l:=oO;subst this;omega
 ·rcases bB.1 hc with hc|hc
  ·obtain⟨k,k1,k2,_,k4⟩:=hm 0 c hc;exact⟨k,k1,k2,k4⟩
  ·rcases bB.1 hc with hc|hc
   ·obtain⟨k,k1,k2,_,k4⟩:=hm 1 c hc;exact⟨k,k1,k2,k4⟩
   ·obtain⟨k,k1,k2,_,k4⟩:=hm 2 c hc;exact⟨k,k1,k2,k4⟩
structure WB (n:Nat):Prop where
 an:A.length<=2
 tn:∀X∈A,X.length<=3
 pn:∀X∈A,∀l∈X,l.length<=8
 pt:∀X∈A,∀l∈X,∀p∈l,(p.c= -1/\p.cap=true\/0<=p.c/\p.c<n)/\AS p.q
 nd:(y6 A).Nodup
end
theorem WB.snoc {n:Nat} {A:List (List (List nD))} (h:WB A n) (h2:A.length<2) (hn:n<=6) (p:Nat->Nat):WB (A++[wM A n p]) n:=by
 have hm:∀ {P:List (List nD)->Prop},(∀X∈A,P X)->P (wM A n p)->∀X∈A++[wM A n p],P X:=λh1 h2 X hX=>by
  rcases bB.1 hX with h|h
  ·exact h1 X h
  ·rw[aQ.1 h];exact h2
 have hx:∀ {P:List nD->Prop},(∀t,P (o7 A p n t))->(∀t,P (o7 A p n t++[Se p]))->∀l∈wM A n p,P l:=λh1 h2 l hl=>by
  obtain⟨t,_,rfl⟩:=rD hl;by_cases e:p 0/8%4=0/\t=p 0/32%3
  ·rw[aj e];exact h2 t
  ·rw[ah e];exact h1 t
 have hl:=z6 A p n;have hq:∀t,∀q∈o7 A p n t,(q.c= -1/\q.cap=true\/0<=q.c/\q.c<n)/\AS q.q:=λt q hq=>by
  obtain⟨k,k1,k2,_,_,k5⟩:=BY A p n t q hq;exact⟨.inr ⟨oO,oO⟩,k5⟩
 refine⟨by rw[aw];show _+1<=2;omega,hm h.tn (by unfold wM;rw[ka];exact aB _),hm h.pn (hx (λt=>by have:=hl t;omega) λt=>by rw[aw];have:=hl t;show _+1<=8;omega),hm h.pt (hx hq λt q hq2=> ?_),?_⟩
 ·rcases bB.1 hq2 with h1|h1
  ·exact hq t q h1
  ·rw[aQ.1 h1];have:p 0/96%7<7:=bG _ dD;exact⟨.inl ⟨rfl,rfl⟩,AS.nat oO⟩
 ·obtain⟨n1,n2⟩:=RY A p n;have e:y6 (A++[wM A n p])=y6 A++nT (wM A n p).flatten:=by
   unfold y6;rw[bO,eW,jy,gq]
  rw[e,de];refine⟨h.nd,n1,λa ha b hb hab=> ?_⟩;obtain⟨k,_,k2,k3⟩:=n2 b hb;rw[hab,k2]at ha;rw[Ql ha]at k3;exact Bool.noConfusion k3
theorem SY (size:Nat) (n:Nat->Nat) (Q:List (Nat->Nat)) (hn:∀i,n i<=6):∀j i,WB (uT size n Q j i) (n i)
 |0,_=>⟨ax _,λ_ h=>absurd h (ct),λ_ h=>absurd h (ct),λ_ h=>absurd h (ct),fe⟩
 |j+1,i=>by
  have h:=SY size n Q hn j i;unfold uT;split
  ·rename_i e;exact h.snoc e.2 (hn i) _
  ·exact h
theorem Qy (size:Nat) (L:List (Nat->Nat)):∀j i,∀c∈xZ size L j i,-1<=c.h/\c.h<size/\c.h≠i/\0<=c.rk/\c.rk<=2/\AS c.q
 |0,_,c,hc=>by cases hc
 |j+1,i,c,hc=>by
  unfold xZ at hc;split at hc
  ·rename_i e;rcases bB.1 hc with h|h
   ·exact Qy size L j i c h
   ·rw[aQ.1 h];have h2:(L.getD j z4) 2%3<3:=bG _ dD;obtain⟨h,hh⟩:=jz ((L.getD j z4) 1% (size+1));obtain⟨k,hk⟩:=jz ((L.getD j z4) 0%size);have e1:=e.1;have h1:(Uy size (L.getD j z4)).h=if h=k\/size<=h then-1 else(h:Int):=by rw[hh,hk];rfl
    rw[<-hk]at e1;refine⟨?_,?_,?_,by show(0:Int)<=((_:Nat):Int);omega,by show((_:Nat):Int)<=2;omega,AS.rQ _⟩;all_goals
     rw[h1];split
     ·omega
     ·omega
  ·exact Qy size L j i c hc
theorem Qq {p:Nat×Nat} {ds:List sV} (h:p∈ds.flatMap sV.legs):E2 p ds=true:=by
 obtain⟨d,hd,h⟩:=du.1 h;exact dA.2 ⟨d,hd,dA.2 ⟨p,h,ak rfl⟩⟩
structure Q2 (ds:List sV) (n:Nat) (cl:Nat->List rG) (i c:Nat) (s:QR):Prop where
 m:∀q∈s.l,q.1<n/\q.2<(cl q.1).length/\E2 q ds=false/\((cl q.1).getD q.2 o6).h=s.ho/\(q.1<i\/q.1=i/\q.2<c)
 nd:s.l.Nodup
section
variable {ds : List sV} {n : Nat} {cl : Nat → List rG} {i c : Nat} {s : QR}
theorem Q2.mono (h:Q2 ds n cl i c s) {i' c':Nat} (hl:i<i'\/i=i'/\c<=c'):Q2 ds n cl i' c' s:=⟨λq hq=>by
 obtain⟨a1,a2,a3,a4,a5⟩:=h.m q hq;exact⟨a1,a2,a3,a4,oO⟩,h.nd⟩
theorem Q2.step (h:Q2 ds n cl i c s) (d:Nat->Nat) (hi:i<n) (hc:c<(cl i).length):Q2 ds n cl i (c+1) (qH ds d i ((cl i).getD c o6) c s):=by
 have h0:=h.mono (i':=i) (c':=c+1) (.inr ⟨rfl,Nat.le_succ _⟩);unfold qH;split
 ·exact h0
 ·rename_i e1;split
  ·rename_i e2;refine⟨λq hq=> ?_,?_⟩
   ·rcases bB.1 hq with h1|h1
    ·obtain⟨a1,a2,a3,a4,a5⟩:=h0.m q h1;refine⟨a1,a2,a3,?_,a5⟩;rcases e2.2 with e3|e3
     ·rw[e3]at h1;cases h1
     ·exact a4.trans e3.symm
    ·rw[aQ.1 h1];refine⟨hi,hc,?_,rfl,.inr ⟨rfl,eg _⟩⟩;cases hg:E2 (i,c) ds
     ·rfl
     ·exact absurd (.inl hg) e1
   ·rw[de];refine⟨h.nd,by simp,λa ha b hb hab=> ?_⟩;rw[aQ]at hb;have:=(h.m a ha).2.2.2.2;rw[hab,hb]at this;rcases this with h1|h1
    ·exact absurd h1 (dB _)
    ·exact absurd h1.2 (dB _)
  ·exact⟨h0.m,h0.nd⟩
theorem Tj (d:Nat->Nat) (hi:i<n) (h:Q2 ds n cl i 0 s):∀c,c<=(cl i).length->Q2 ds n cl i c (IP ds d i (cl i) c s)
 |0,_=>h
 |c+1,hc=>(Tj d hi h c oO).step d hi oO
theorem SJ (ds:List sV) (n:Nat) (cl:Nat->List rG) (d:Nat->Nat):∀i,i<=n->Q2 ds n cl i 0 (Jo ds d cl i)
 |0,_=>⟨λq hq=>(by cases hq),fe⟩
 |i+1,hi=>(Tj d oO (SJ ds n cl d i oO) (cl i).length (aB _)).mono (.inl (eg _))
end
structure Xl (n:Nat) (cl:Nat->List rG) (ds:List sV):Prop where
 k:ds.length<=3
 m:∀d∈ds,AS d.W/\d.legs.length<=4/\∃ho:Int,∀q∈d.legs,q.1<n/\q.2<(cl q.1).length/\((cl q.1).getD q.2 o6).h=ho
 nd:(ds.flatMap sV.legs).Nodup
theorem Tk (n:Nat) (cl:Nat->List rG) (hc:∀i,i<n->(cl i).length<=10) (D:List (Nat->Nat)):∀j,Xl n cl (E3 n cl D j)
 |0=>⟨ax _,λd hd=>(by cases hd),fe⟩
 |j+1=>by
  have h:=Tk n cl hc D j;unfold E3;split
  ·rename_i e;obtain⟨d,hd⟩:=jz (D.getD j z4);obtain⟨ds,hds⟩:=jz (E3 n cl D j);rw[<-hds]at h e;rw[<-hd,<-hds];have b:=SJ ds n cl d n (aB _);have b4:=(Kz ds d cl n hc n (aB _)).2;have hp:(R9 ds d cl n).Perm (Jo ds d cl n).l:=by
    unfold R9;split
    ·exact List.reverse_perm _
    ·exact dQ _
   refine⟨by rw[aw];show _+1<=3;omega,λx hx=> ?_,?_⟩
   ·rcases bB.1 hx with h1|h1
    ·exact h.m x h1
    ·rw[aQ.1 h1];refine⟨AS.rQ _,by show(R9 ds d cl n).length<=4;rw[hp.length_eq];exact b4,(Jo ds d cl n).ho,λq hq=> ?_⟩;obtain⟨a1,a2,_,a4,_⟩:=b.m q (hp.mem_iff.1 hq);exact⟨a1,a2,a4⟩
   ·rw[dk,cI,de];refine⟨h.nd,hp.nodup_iff.2 b.nd,λx hx y hy hxy=> ?_⟩;have h1:=(b.m y (hp.mem_iff.1 hy)).2.2.1;rw[<-hxy,Qq hx]at h1;exact Bool.noConfusion h1
  ·exact h
def Vq (n:Nat) (cash:List Nat) (L D:List (Nat->Nat)):mT:=F8 (1+n%4) (oP cash) (xZ (1+n%4) L L.length) (E3 (1+n%4) (xZ (1+n%4) L L.length) D D.length)
def VU (n:Nat) (L Q:List (Nat->Nat)):Nat->List (List (List nD)):=uT (1+n%4) (λi=>(xZ (1+n%4) L L.length i).length) Q Q.length
theorem Uk (cash:List Nat) (i:Nat):AS (oP cash i):=by
 unfold oP;split
 ·exact AS.rQ _
 ·exact AS.zero
theorem Qh (n:Nat) (cash:List Nat) (L Q D:List (Nat->Nat)):Lt AS (Vq n cash L D) (VU n L Q):=by
 obtain⟨m,hm⟩:=jz (1+n%4);have hm4:m<=4/\0<m:=oO;obtain⟨cl,hcl⟩:=jz (xZ m L L.length);have hc6:∀i,(cl i).length<=6:=λi=>by rw[hcl];exact Bx m L _ i
 have hcc:∀i,∀c∈cl i,-1<=c.h/\c.h<m/\c.h≠i/\0<=c.rk/\c.rk<=2/\AS c.q:=λi=>by rw[hcl];exact Qy m L L.length i
 obtain⟨ds,hds⟩:=jz (E3 m cl D D.length);have hd:Xl m cl ds:=by rw[hds];exact Tk m cl (λi _=>dt (hc6 i) dD) D D.length
 have hA:∀i,WB (VU n L Q i) (cl i).length:=λi=>by
  unfold VU;rw[<-hm,<-hcl];exact SY m _ Q hc6 Q.length i
 have hg:Vq n cash L D=F8 m (oP cash) cl ds:=by unfold Vq;rw[<-hm,<-hcl,<-hds]
 rw[hg];obtain⟨A,hAe⟩:=jz (VU n L Q);rw[<-hAe]at hA⊢;have hn:(F8 m (oP cash) cl ds).n=m:=Hc _ _ _ _;have he:∀i,i<m->(F8 m (oP cash) cl ds).e i=⟨oP cash i,cl i⟩:=λi hi=>Pi _ _ _ hi;have hcx:∀i,i<m->∀c,(F8 m (oP cash) cl ds).c i c=(cl i).getD c o6:=λi hi c=>by unfold mT.c;rw[he i hi]
 have hcn:∀i,i<m->(F8 m (oP cash) cl ds).cn i=(cl i).length:=λi hi=>by unfold mT.cn;rw[he i hi]
 have hdm:∀k,k<ds.length->((F8 m (oP cash) cl ds).d k)∈ds:=λk hk=>kH ds k t8 hk;have hlg:∀k,k<ds.length->∀j,j<((F8 m (oP cash) cl ds).d k).legs.length->(F8 m (oP cash) cl ds).lg k j∈((F8 m (oP cash) cl ds).d k).legs:=λk hk j hj=>kH _ j (0,0) hj;refine⟨oO,oO,by have:=hd.k;show ds.length<=6;omega,λi hi=> ?_,λd h=>((hd.m _ (hdm d h))).1,λd h=>((hd.m _ (hdm d h))).2.1,λk hk j hj=> ?_,λi hi c hc hh=> ?_,λk hk j hj=> ?_,by rw[Hn];exact hd.nd⟩
 ·rw[hn]at hi⊢;rw[he i hi];have a:=hA i;refine⟨Uk cash i,by have:=hc6 i;show(cl i).length<=7;omega,λc hc=> ?_,a.an,a.tn,a.pn,a.pt,a.nd⟩;obtain⟨a1,a2,a3,a4,a5,a6⟩:=hcc i c hc;exact⟨a1,a2,a3,a4,oO,a6⟩
 ·obtain⟨_,_,ho,h⟩:=hd.m _ (hdm k hk);obtain⟨h1,h2,h3⟩:=h _ (hlg k hk j hj);exact⟨by rw[hn];exact h1,by rw[hcn _ h1];exact h2⟩
 ·rw[hn]at hi;rw[hcn i hi]at hc;rw[hcx i hi]at hh⊢;obtain⟨a1,a2,_⟩:=hcc i _ (kH (cl i) c o6 hc);refine⟨((cl i).getD c o6).h.toNat,by rw[hn];omega,oO⟩
 ·obtain⟨_,_,ho,h⟩:=hd.m _ (hdm k hk);obtain⟨h1,_,h3⟩:=h _ (hlg k hk j hj);obtain⟨g1,_,g3⟩:=h _ (hlg k hk 0 oO);rw[hcx _ h1,hcx _ g1,h3,g3]
theorem Gf.mono {P Q:Rat->Prop} (h:∀q,P q->Q q) {n i:Nat} {e:QP} {A:List (List (List nD))} (a:Gf P n i e A):Gf Q n i e A:=
 ⟨h _ a.cash,a.cn,λc hc=>by obtain⟨a1,a2,a3,a4,a5,a6⟩:=a.cl c hc;exact⟨a1,a2,a3,a4,a5,h _ a6⟩,a.an,a.tn,a.pn,λX hX l hl p hp=>⟨(a.pt X hX l hl p hp).1,h _ (a.pt X hX l hl p hp).2⟩,a.nd⟩
theorem Lt.mono {P Q:Rat->Prop} (h:∀q,P q->Q q) {g:mT} {A:Nat->List (List (List nD))} (a:Lt P g A):Lt Q g A:=
 ⟨a.n0,a.n,a.dn,λi hi=>(a.es i hi).mono h,λd hd=>h _ (a.W d hd),a.ln,a.lg,a.ho,a.hl,a.nd⟩
theorem Lt.v {g:mT} {A:Nat->List (List (List nD))} (a:Lt AS g A):GV 60 g A:=⟨a.mono λ_ h=>h.1,dD,lN dD⟩
section
variable {f : Rat}
theorem Wt (hf:0<f) {p q:Rat}:p*f<q*f↔p<q:=by
 have key:∀ {a b:Rat},a<b->a*f<b*f:=fun {a b} h=>by
  have:=Rat.mul_pos (show 0<b-a by grind) hf;grind
 refine⟨λh=> ?_,key⟩;by_cases h1:p<q
 ·exact h1
 ·by_cases h2:q<p
  ·have:=key h2;grind
  ·have:p=q:=Rat.le_antisymm (gE.1 h2) (gE.1 h1);rw[this]at h;exact absurd h dw
theorem Tl (hf:0<f) {p q:Rat}:p*f<=q*f↔p<=q:=by
 rw[<-gE,<-gE,Wt hf]
theorem PP (hf:0<f) (p:Rat):pQ (p*f)=pQ p*f:=by
 have h0:(0:Rat)=0*f:=(fO f).symm;unfold pQ DX;by_cases h:0<=p
 ·rw[aj h,aj (by rw[h0];exact(Tl hf).2 h)]
 ·rw[ah h,ah λg=>h (by rw[h0]at g;exact(Tl hf).1 g)];exact h0
theorem GD {g h:Nat->Rat} {n:Nat} (e:∀i,i<n->g i=h i*f):kg g n=kg h n*f:=by
 rw[km e,gm,<-qx];exact km λi _=>gm _ _
theorem Ru (hf:0<f) {q q':Nat->Rat} {k:Nat} (h:∀j,j<k->q' j=q j*f):oc q' k=oc q k*f:=GD λj hj=>by rw[h j hj,PP hf]
theorem Ph (hf:0<f) {W:Rat} {q q':Nat->Rat} {k:Nat} (h:∀j,j<k->q' j=q j*f):wE (W*f) q' k=wE W q k*f:=by
 rw[qg,qg,Ru hf h,PP hf W,<-PP hf (oc q k-pQ W)];congr 1;grind
theorem P2 (hf:0<f) {W:Rat} {q q':Nat->Rat} {k:Nat} (h:∀j,j<k+1->q' j=q j*f):rR (W*f) q' k=rR W q k*f:=by
 unfold rR;rw[Ph hf h,Ph hf λj hj=>h j oO];grind
theorem Uj (hf:0<f) {W:Rat} {q q':Nat->Rat} {n:Nat} (h:∀j,j<n->q' j=q j*f):we (W*f) q' n=we W q n*f:=by
 unfold we;rw[GD h,GD λk hk=>P2 hf λj hj=>h j oO];grind
structure WG (f:Rat) (g g':mT):Prop where
 n:g'.n=g.n
 dn:g'.ds.length=g.ds.length
 W:∀d,d<g.ds.length->(g'.d d).W=(g.d d).W*f
 lg:∀d,d<g.ds.length->(g'.d d).legs=(g.d d).legs
 cash:∀i,i<g.n->yJ g' i=yJ g i*f
 ho:∀d,d<g.ds.length->0<lX g d->Aa g' d=Aa g d
section
variable {g g' : mT} {B B' : Nat → Nat → Bool} {dl dl' : Nat → Nat → Rat} {Y Y' : Nat → Ly}
def XP (f:Rat) (g:mT) (dl dl':Nat->Nat->Rat):Prop:=∀d,d<g.ds.length->∀k,k<lX g d->dl' (g.lg d k).1 (g.lg d k).2=dl (g.lg d k).1 (g.lg d k).2*f
theorem WG.l (S:WG f g g') {d:Nat} (hd:d<g.ds.length):(∀k,g'.lg d k=g.lg d k)/\lX g' d=lX g d:=by
 unfold mT.lg lX;rw[S.lg d hd];exact⟨λ_=>rfl,rfl⟩
theorem WG.q (S:WG f g g') (h:XP f g dl dl') {d:Nat} (hd:d<g.ds.length):∀k,k<lX g d->qD g' dl' d k=qD g dl d k*f:=λk hk=>by
 unfold qD;rw[(S.l hd).1];exact h d hd k hk
theorem Xu {a b:Rat} (h:a=b):a<=b:=h▸bP
theorem R5 {x y:Nat->Rat} (G:Uo g Y B x) (H:Uo g Y B y):∀i,i<g.n->x i=y i:=λi hi=>
 Rat.le_antisymm (H.top x G.nn (λj hj=>Xu (G.fx j hj)) i hi) (G.top y H.nn (λj hj=>Xu (H.fx j hj)) i hi)
end
end
theorem Qp:GV 60 mw λ_=>[]:=by
 have hn:mw.n=2:=rfl;have h30:sL 60 ((30:Int):Rat):=sL.nat (m:=30) dD;have h40:sL 60 ((40:Int):Rat):=sL.nat (m:=40) dD;have h20:sL 60 ((20:Int):Rat):=sL.nat (m:=20) dD;have h50:sL 60 ((50:Int):Rat):=sL.nat (m:=50) dD;refine⟨⟨dD,dD,dD,λi hi=> ?_,λd hd=>absurd hd (aS _),λd hd=>absurd hd (aS _),λd hd=>absurd hd (aS _),λi hi c hc hh=> ?_,λd hd=>absurd hd (aS _),fe⟩,dD,lN dD⟩
 ·rw[hn]at hi⊢;match i,hi with
  |0,_=>
   refine⟨h30,dD,λc hc=> ?_,dD,λX hX=>(by cases hX),λX hX=>(by cases hX),λX hX=>(by cases hX),fe⟩;rcases bC.1 hc with rfl|hc
   ·exact⟨dD,dD,dD,dD,dD,h40⟩
   ·rw[aQ.1 hc];exact⟨dD,dD,dD,dD,dD,h20⟩
  |1,_=>
   refine⟨sL.zero 60,dD,λc hc=> ?_,dD,λX hX=>(by cases hX),λX hX=>(by cases hX),λX hX=>(by cases hX),fe⟩;rw[aQ.1 hc];exact⟨dD,dD,dD,dD,dD,h50⟩
 ·rw[hn]at hi;match i,hi,c,hc with
  |0,_,0,_=>exact absurd rfl hh
  |0,_,1,_=>exact⟨1,dD,rfl⟩
  |1,_,0,_=>exact absurd rfl hh
  |0,_,c+2,h=>exact absurd (show c+2<2 from h) oO
  |1,_,c+1,h=>exact absurd (show c+1<1 from h) oO
noncomputable section
theorem Gi (x:Nat->Rat) (i c:Nat) (m:Rat) (h:x i=m):lH (λi=>om (mw.e i).cl []) x i c=dC (om (mw.e i).cl []) m c:=by
 rw[<-h];rfl
theorem TJ:xS mw (λ_=>[]) 0=30/\xS mw (λ_=>[]) 1=10:=by
 have G:=Qp.WK;have hB:∀i c,sb (AL mw) i c=false:=λ_ _=>rfl;have h0:∀dl,F0 mw (sb (AL mw)) dl 0=0:=λdl=>by
  show(0+oZ mw (sb (AL mw)) dl 0 0+oZ mw (sb (AL mw)) dl 0 1)+0=0;have a:∀i,i<2->oZ mw (sb (AL mw)) dl 0 i=0:=λi hi=>kW λc hc=>ah λe=>by
   match i,hi,c,hc with
   |0,_,0,_=>exact absurd e.1 dD
   |0,_,1,_=>exact absurd e.1 dD
   |1,_,0,_=>exact absurd e.1 dD
   |0,_,c+2,h=>exact absurd (show c+2<2 from h) oO
   |1,_,c+1,h=>exact absurd (show c+1<1 from h) oO
  rw[a 0 dD,a 1 dD];grind
 have h1:∀dl:Nat->Nat->Rat,F0 mw (sb (AL mw)) dl 1=dl 0 1:=λdl=>by
  show(0+oZ mw (sb (AL mw)) dl 1 0+oZ mw (sb (AL mw)) dl 1 1)+0=dl 0 1;have a:oZ mw (sb (AL mw)) dl 1 1=0:=kW λc hc=>ah λe=>by
   match c,hc with
   |0,_=>exact absurd e.1 dD
   |c+1,h=>exact absurd (show c+1<1 from h) oO
  have b:oZ mw (sb (AL mw)) dl 1 0=dl 0 1:=by
   show 0+(if(-1:Int)=((1:Nat):Int)/\sb (AL mw) 0 0=false then dl 0 0 else 0)+(if(1:Int)=((1:Nat):Int)/\sb (AL mw) 0 1=false then dl 0 1 else 0)=_;rw[ah (λe=>absurd e.1 dD),aj ⟨rfl,rfl⟩];grind
  rw[a,b];grind
 have e0:xS mw (λ_=>[]) 0=30:=by
  rw[G.fx 0 dD,h0];decide+kernel
 refine⟨e0,?_⟩;rw[G.fx 1 dD,h1,Gi _ 0 1 30 e0];decide+kernel
theorem Mk:yZ mw (λ_=>[]) 0 0=((20:Int):Rat)/\yZ mw (λ_=>[]) 1 0=((10:Int):Rat):=by
 obtain⟨e0,e1⟩:=TJ;unfold yZ;rw[Gi _ 0 0 30 e0,Gi _ 1 0 10 e1];refine⟨?_,?_⟩
 ·show dC (om (mw.e 0).cl []) 30 0-0=_;decide+kernel
 ·show dC (om (mw.e 1).cl []) 10 0-0=_;decide+kernel
theorem Rm (w:World):lW Tryz.prog 12 #[] w λr w'=>r= .bool true/\Below w.heap.size w w':=PW w Qp.WI Mk.1 Mk.2
end
def nA:Nat->List (List (List nD)):=λ_=>[]
section
variable {g : mT} {i c : Nat} {a : Rat}
theorem Pc {g:mT} {dl:Nat->Nat->Rat} {d:Nat} {u:Nat->Nat->Rat} {i c:Nat} (hu:u i c=0) (h:(i,c)∉(g.d d).legs):∀k,k<=lX g d->Bj g dl d u k i c=0
 |0,_=>hu
 |k+1,hk=>by
  show xe (Bj g dl d u k) (g.lg d k).1 (g.lg d k).2 _ i c=0;unfold xe;rw[ah λe=>h (by
   have:g.lg d k∈(g.d d).legs:=kH _ k (0,0) hk;rw[show(i,c)=g.lg d k from iG e.1 e.2];exact this)]
  exact Pc hu h k oO
theorem Oq {g:mT} {dl:Nat->Nat->Rat} {i c:Nat} (h:(i,c)∉AL g):∀d,d<=g.ds.length->y8 g dl d i c=0
 |0,_=>rfl
 |d+1,hd=>Pc (Oq h d oO) (λe=>h (Jd.2 ⟨d,hd,e⟩)) _ (aB _)
end
def Az (k:Nat) (c:rG):rG:=⟨if c.h= -1 then-1 else c.h+k,c.rk,c.q⟩
def Xn (k:Nat) (e:QP):QP:=⟨e.cash,e.cl.map (Az k)⟩
def Bf (k:Nat) (p:Nat×Nat):Nat×Nat:=(p.1+k,p.2)
def W6 (k:Nat) (d:sV):sV:=⟨d.W,d.legs.map (Bf k)⟩
def mE (g h:mT):mT:=⟨g.es++h.es.map (Xn g.n),g.ds++h.ds.map (W6 g.n)⟩
def xY (g:mT) (A:Nat->List (List (List nD))) (i:Nat):List (List (List nD)):=if i<g.n then A i else []
theorem uR (f:Nat->Rat) (a:Nat):∀b,kg f (a+b)=kg f a+kg (λi=>f (a+i)) b
 |0=>by show kg f a=kg f a+0;grind
 |b+1=>by
  show kg f (a+b)+f (a+b)=kg f a+(kg (λi=>f (a+i)) b+f (a+b));rw[uR f a b];grind
theorem Gt {α:Type} (l m:List α) (d:α) {i:Nat} (h:i<l.length):(l++m).getD i d=l.getD i d:=by
 rw[ai,ai,cZ h]
theorem PK {α β:Type} (l:List β) (m:List α) (t:α->β) (d:β) (d':α) {i:Nat} (h:i<m.length):(l++m.map t).getD (l.length+i) d=t (m.getD i d'):=by
 rw[ai,ai,bV (jS _ _),cW,eQ,aG h];rfl
theorem Ok (k:Nat) (cl:List rG):qi (cl.map (Az k))=qi cl:=by
 funext i;unfold qi;rw[ai,ai,eQ];cases cl[i]?with
 |none=>rfl
 |some x=>rfl
theorem SQ (k:Nat) (cl:List rG) (r:Nat):∀i,tk (cl.map (Az k)) i r=tk cl i r
 |0=>rfl
 |i+1=>by
  have h:((cl.map (Az k)).getD i o6).rk=(cl.getD i o6).rk:=by
   rw[ai,ai,eQ];cases cl[i]?with
   |none=>rfl
   |some x=>rfl
  unfold tk;rw[h,SQ k cl r i,Ok]
theorem VS (k:Nat) (cl:List rG):om (cl.map (Az k)) []=om cl []:=by
 unfold om;rw[aO,Ok];congr 1;exact kB λr _=>SQ k cl r _
section
variable {g h : mT} {A : Nat → List (List (List nD))}
theorem x3 (g h:mT):(mE g h).n=g.n+h.n:=by
 show(g.es++h.es.map _).length=_;rw[aw,aO];rfl
theorem C4 (g h:mT):(mE g h).ds.length=g.ds.length+h.ds.length:=by
 show(g.ds++h.ds.map _).length=_;rw[aw,aO]
theorem Dm {i:Nat} (hi:i<g.n):(mE g h).e i=g.e i:=Gt _ _ _ hi
theorem CO {i:Nat} (hi:i<h.n):(mE g h).e (g.n+i)=Xn g.n (h.e i):=PK _ _ _ _ _ hi
theorem yf {d:Nat} (hd:d<g.ds.length):(mE g h).d d=g.d d:=Gt _ _ _ hd
theorem AX {d:Nat} (hd:d<h.ds.length):(mE g h).d (g.ds.length+d)=W6 g.n (h.d d):=PK _ _ _ _ _ hd
theorem Cl {i:Nat} (hi:i<g.n):(mE g h).cn i=g.cn i:=by unfold mT.cn;rw[Dm hi]
theorem Ct {i:Nat} (hi:i<h.n):(mE g h).cn (g.n+i)=h.cn i:=by
 unfold mT.cn;rw[CO hi];exact aO ..
theorem En {i:Nat} (hi:i<g.n) (c:Nat):(mE g h).c i c=g.c i c:=by unfold mT.c;rw[Dm hi]
theorem Eb {i c:Nat} (hi:i<h.n) (hc:c<h.cn i):(mE g h).c (g.n+i) c=Az g.n (h.c i c):=by
 unfold mT.c;rw[CO hi];show((h.e i).cl.map (Az g.n)).getD c o6=_;rw[ai,ai,eQ,aG (show c<(h.e i).cl.length from hc)];rfl
theorem wZ {d:Nat} (hd:d<g.ds.length) (k:Nat):(mE g h).lg d k=g.lg d k:=by unfold mT.lg;rw[yf hd]
theorem Jq {d:Nat} (hd:d<g.ds.length):lX (mE g h) d=lX g d:=by unfold lX;rw[yf hd]
theorem yu {d:Nat} (hd:d<h.ds.length):lX (mE g h) (g.ds.length+d)=lX h d:=by
 unfold lX;rw[AX hd];exact aO ..
theorem xk {d k:Nat} (hd:d<h.ds.length) (hk:k<lX h d):(mE g h).lg (g.ds.length+d) k=Bf g.n (h.lg d k):=by
 unfold mT.lg;rw[AX hd];show((h.d d).legs.map (Bf g.n)).getD k (0,0)=_;rw[ai,ai,eQ,aG (show k<(h.d d).legs.length from hk)];rfl
theorem O9 (g h:mT):AL (mE g h)=AL g++(AL h).map (Bf g.n):=by
 rw[Hn,Hn,Hn];show(g.ds++h.ds.map (W6 g.n)).flatMap sV.legs=_;rw[dk,List.flatMap_map,List.map_flatMap];rfl
theorem OH (hl:nV g) {p:Nat×Nat} (hp:p∈AL g):p.1<g.n:=by
 obtain⟨d,hd,hm⟩:=Jd.1 hp;obtain⟨k,hk,e⟩:=eV hm;have h2:=(hl d hd k hk).1;have e2:g.lg d k=p:=by
  unfold mT.lg;rw[ai,aG hk];exact e
 rw[e2]at h2;exact h2
theorem VQ {i:Nat} (hi:i<g.n) (c:Nat):sb (AL (mE g h)) i c=sb (AL g) i c:=by
 unfold sb;rw[O9];refine dP.2 ⟨λe=> ?_,λe=>fM _ e⟩;rcases bB.1 e with e|e
 ·exact e
 ·obtain⟨p,_,q⟩:=bT.1 e;have:p.1+g.n=i:=bI Prod.fst q;omega
theorem Wi (hl:nV g) (i c:Nat):sb (AL (mE g h)) (g.n+i) c=sb (AL h) i c:=by
 unfold sb;rw[O9];refine dP.2 ⟨λe=> ?_,λe=>iX _ (bT.2 ⟨_,e,iG (dK _ _) rfl⟩)⟩;rcases bB.1 e with e|e
 ·have:=OH hl e;exact absurd this (by show¬g.n+i<g.n;omega)
 ·obtain⟨p,hp,q⟩:=bT.1 e;have h1:p.1+g.n=g.n+i:=bI Prod.fst q;have h2:p.2=c:=bI Prod.snd q;have h3:p=(i,c):=iG (by show p.1=i;omega) h2;rw[h3]at hp;exact hp
theorem JD {g:mT} (hl:nV g) (ho:F4 g) {d:Nat} (hd:d<g.ds.length) (h0:0<lX g d):Aa g d= -1\/∃a:Nat,a<g.n/\Aa g d=a:=by
 obtain⟨h1,h2⟩:=hl d hd 0 h0;by_cases e:Aa g d= -1
 ·exact .inl e
 ·exact .inr (ho _ h1 _ h2 e)
theorem QM (hl:nV g) {d:Nat} (hd:d<g.ds.length) (h0:0<lX g d):Aa (mE g h) d=Aa g d:=by
 unfold Aa;rw[wZ hd,En (hl d hd 0 h0).1]
theorem OM (hl:nV h) {d:Nat} (hd:d<h.ds.length) (h0:0<lX h d):Aa (mE g h) (g.ds.length+d)=if Aa h d= -1 then-1 else Aa h d+g.n:=by
 obtain⟨h1,h2⟩:=hl d hd 0 h0;unfold Aa;rw[xk hd h0];show((mE g h).c ((h.lg d 0).1+g.n) (h.lg d 0).2).h=_;rw[dK,Eb h1 h2];rfl
variable {dl dl1 dl2 : Nat → Nat → Rat}
theorem Ta (hl:nV g) (h1:∀i,i<g.n->∀c,dl i c=dl1 i c) {d:Nat} (hd:d<g.ds.length) {k:Nat} (hk:k<lX g d):qD (mE g h) dl d k=qD g dl1 d k:=by
 unfold qD;rw[wZ hd];exact h1 _ (hl d hd k hk).1 _
theorem SX (hl:nV h) (h2:∀i,i<h.n->∀c,dl (g.n+i) c=dl2 i c) {d:Nat} (hd:d<h.ds.length) {k:Nat} (hk:k<lX h d):qD (mE g h) dl (g.ds.length+d) k=qD h dl2 d k:=by
 unfold qD;rw[xk hd hk];show dl ((h.lg d k).1+g.n) (h.lg d k).2=_;rw[dK];exact h2 _ (hl d hd k hk).1 _
theorem E9 {W:Rat} {q q':Nat->Rat} {k:Nat} (h:∀j,j<k+1->q' j=q j):rR W q' k=rR W q k:=by
 have:=P2 (f:=1) (W:=W) (q:=q) (q':=q') (k:=k) dD λj hj=>by rw[h j hj,fp]
 rw[fp,fp]at this;exact this
theorem N8 {W:Rat} {q q':Nat->Rat} {k:Nat} (h:∀j,j<k->q' j=q j):we W q' k=we W q k:=by
 have:=Uj (f:=1) (W:=W) (q:=q) (q':=q') (n:=k) dD λj hj=>by rw[h j hj,fp]
 rw[fp,fp]at this;exact this
theorem SO (lg:nV g) (lh:nV h) (oh:F4 h) (h1:∀i,i<g.n->∀c,dl i c=dl1 i c) {j:Nat} (hj:j<g.n):F0 (mE g h) (sb (AL (mE g h))) dl j=F0 g (sb (AL g)) dl1 j:=by
 unfold F0;rw[x3,C4,uR,uR];have z1:kg (λi=>oZ (mE g h) (sb (AL (mE g h))) dl j (g.n+i)) h.n=0:=kW λi hi=>by
  unfold oZ;rw[Ct hi];refine kW λc hc=>ah λe=> ?_;have e:=e.1;rw[Eb hi hc]at e;have e:(if(h.c i c).h= -1 then-1 else(h.c i c).h+(g.n:Int))=(j:Int):=e;by_cases q:(h.c i c).h= -1
  ·rw[aj q]at e;omega
  ·rw[ah q]at e;obtain⟨a,_,ha⟩:=oh i hi c hc q;omega
 have z2:kg (λi=>oa (mE g h) (g.ds.length+i) j (rR ((mE g h).d (g.ds.length+i)).W (qD (mE g h) dl (g.ds.length+i))) (we ((mE g h).d (g.ds.length+i)).W (qD (mE g h) dl (g.ds.length+i)) (lX (mE g h) (g.ds.length+i)))) h.ds.length=0:=kW λd hd=>by
  unfold oa;rw[yu hd,kW λk hk=>ah λe=> ?_,ah λe=> ?_]
  ·grind
  ·have e2:=e.2;rw[OM lh hd e.1]at e2;rcases JD lh oh hd e.1 with q|⟨a,_,q⟩
   ·rw[aj q]at e2;omega
   ·rw[ah oO]at e2;omega
  ·rw[xk hd hk]at e;have e:(h.lg d k).1+g.n=j:=e;omega
 rw[z1,z2];have r1:kg (oZ (mE g h) (sb (AL (mE g h))) dl j) g.n=kg (oZ g (sb (AL g)) dl1 j) g.n:=km λi hi=>by
  unfold oZ;rw[Cl hi];exact km λc _=>by rw[En hi,VQ hi,h1 i hi]
 have r2:kg (λd=>oa (mE g h) d j (rR ((mE g h).d d).W (qD (mE g h) dl d)) (we ((mE g h).d d).W (qD (mE g h) dl d) (lX (mE g h) d))) g.ds.length=kg (λd=>oa g d j (rR (g.d d).W (qD g dl1 d)) (we (g.d d).W (qD g dl1 d) (lX g d))) g.ds.length:=km λd hd=>by
  have hq:=fun {k} (hk:k<lX g d)=>Ta (h:=h) lg h1 hd hk;unfold oa;rw[Jq hd,yf hd,N8 λk hk=>hq hk];congr 1
  ·refine km λk hk=> ?_;rw[wZ hd,E9 λk hk=>hq oO]
  ·by_cases h0:0<lX g d
   ·rw[QM lg hd h0]
   ·rw[ah λe=>h0 e.1,ah λe=>h0 e.1]
 rw[r1,r2];grind
theorem Wd (lg:nV g) (og:F4 g) (lh:nV h) (oh:F4 h) (h2:∀i,i<h.n->∀c,dl (g.n+i) c=dl2 i c) (j:Nat):F0 (mE g h) (sb (AL (mE g h))) dl (g.n+j)=F0 h (sb (AL h)) dl2 j:=by
 unfold F0;rw[x3,C4,uR,uR];have z1:kg (oZ (mE g h) (sb (AL (mE g h))) dl (g.n+j)) g.n=0:=kW λi hi=>by
  unfold oZ;rw[Cl hi];refine kW λc hc=>ah λe=> ?_;have e:=e.1;rw[En hi]at e;obtain⟨a,a1,ha⟩:=og i hi c hc oO;omega
 have z2:kg (λd=>oa (mE g h) d (g.n+j) (rR ((mE g h).d d).W (qD (mE g h) dl d)) (we ((mE g h).d d).W (qD (mE g h) dl d) (lX (mE g h) d))) g.ds.length=0:=kW λd hd=>by
  unfold oa;rw[Jq hd,kW λk hk=>ah λe=> ?_,ah λe=> ?_]
  ·grind
  ·have e2:=e.2;rw[QM lg hd e.1]at e2;rcases JD lg og hd e.1 with q|⟨a,_,q⟩
   ·omega
   ·omega
  ·rw[wZ hd]at e;have:=(lg d hd k hk).1;omega
 rw[z1,z2];have hkey:∀(x:Int),(x= -1\/∃a:Nat,a<h.n/\x=a)->((if x= -1 then-1 else x+(g.n:Int))=((g.n+j:Nat):Int)↔x=(j:Int)):=λx hx=>by
  rcases hx with q|⟨a,_,q⟩
  ·rw[aj q];omega
  ·rw[ah oO];omega
 have r1:kg (λi=>oZ (mE g h) (sb (AL (mE g h))) dl (g.n+j) (g.n+i)) h.n=kg (oZ h (sb (AL h)) dl2 j) h.n:=km λi hi=>by
  unfold oZ;rw[Ct hi];refine km λc hc=> ?_;rw[Eb hi hc,Wi lg,h2 i hi];have hx:(h.c i c).h= -1\/∃a:Nat,a<h.n/\(h.c i c).h=a:=by
   by_cases q:(h.c i c).h= -1
   ·exact .inl q
   ·exact .inr (oh i hi c hc q)
  have:(Az g.n (h.c i c)).h=((g.n+j:Nat):Int)↔(h.c i c).h=(j:Int):=hkey _ hx;by_cases q:(h.c i c).h=(j:Int)/\sb (AL h) i c=false
  ·rw[aj q,aj ⟨this.2 q.1,q.2⟩]
  ·rw[ah q,ah λe=>q ⟨this.1 e.1,e.2⟩]
 have r2:kg (λd=>oa (mE g h) (g.ds.length+d) (g.n+j) (rR ((mE g h).d (g.ds.length+d)).W (qD (mE g h) dl (g.ds.length+d))) (we ((mE g h).d (g.ds.length+d)).W (qD (mE g h) dl (g.ds.length+d)) (lX (mE g h) (g.ds.length+d)))) h.ds.length=kg (λd=>oa h d j (rR (h.d d).W (qD h dl2 d)) (we (h.d d).W (qD h dl2 d) (lX h d))) h.ds.length:=km λd hd=>by
  have hq:=fun {k} (hk:k<lX h d)=>SX lh h2 hd hk;have hw:((mE g h).d (g.ds.length+d)).W=(h.d d).W:=by rw[AX hd];rfl
  unfold oa;rw[yu hd,hw,N8 λk hk=>hq hk];congr 1
  ·refine km λk hk=> ?_;rw[xk hd hk,E9 λk hk=>hq oO];show(if(h.lg d k).1+g.n=g.n+j then _ else _)=_;by_cases q:(h.lg d k).1=j
   ·rw[aj q,aj oO]
   ·rw[ah q,ah oO]
  ·by_cases h0:0<lX h d
   ·rw[OM lh hd h0];have:=hkey _ (JD lh oh hd h0);by_cases q:Aa h d=(j:Int)
    ·rw[aj ⟨h0,this.2 q⟩,aj ⟨h0,q⟩]
    ·rw[ah λe=>q (this.1 e.2),ah λe=>q e.2]
   ·rw[ah λe=>h0 e.1,ah λe=>h0 e.1]
 rw[r1,r2];grind
end
section
variable {g h : mT} {A : Nat → List (List (List nD))} {dl dl1 dl2 : Nat → Nat → Rat}
theorem Jl (y:Nat->Rat) {i:Nat} (hi:i<g.n) (c:Nat):lH (λi=>om ((mE g h).e i).cl (xY g A i)) y i c=lH (λi=>om (g.e i).cl (A i)) y i c:=by
 show dC (om ((mE g h).e i).cl (xY g A i)) (y i) c=dC (om (g.e i).cl (A i)) (y i) c;unfold xY;rw[Dm hi,aj hi]
theorem Qx (y:Nat->Rat) {i:Nat} (hi:i<h.n) (c:Nat):lH (λi=>om ((mE g h).e i).cl (xY g A i)) y (g.n+i) c=lH (λi=>om (h.e i).cl (nA i)) (λi=>y (g.n+i)) i c:=by
 show dC (om ((mE g h).e (g.n+i)).cl (xY g A (g.n+i))) (y (g.n+i)) c=dC (om (h.e i).cl []) (y (g.n+i)) c;unfold xY;rw[CO hi,ah oO];show dC (om ((h.e i).cl.map (Az g.n)) []) _ c=_;rw[VS]
def U8 (n:Nat) (x y:Nat->Rat) (i:Nat):Rat:=if i<n then x i else y (i-n)
theorem HC (n:Nat) (x y:Nat->Rat) (i:Nat):U8 n x y (n+i)=y i:=by
 unfold U8;rw[ah oO,cW]
theorem Lh {i:Nat} (hi:i<g.n):yJ (mE g h) i=yJ g i:=by unfold yJ;rw[Dm hi]
theorem Km {i:Nat} (hi:i<h.n):yJ (mE g h) (g.n+i)=yJ h i:=by unfold yJ;rw[CO hi];rfl
theorem UD {D0 D1:Nat} (a:GV D0 g A) (b:GV D1 h nA):Uo (mE g h) (λi=>om ((mE g h).e i).cl (xY g A i)) (sb (AL (mE g h))) (U8 g.n (xS g A) (xS h nA)):=by
 have G:=a.WK;have H:=b.WK;have f1:∀(y:Nat->Rat) {j:Nat},j<g.n->F0 (mE g h) (sb (AL (mE g h))) (lH (λi=>om ((mE g h).e i).cl (xY g A i)) y) j=F0 g (sb (AL g)) (lH (λi=>om (g.e i).cl (A i)) y) j:=λy j hj=>SO a.lg b.lg b.ho (λi hi c=>Jl y hi c) hj;have f2:∀(y:Nat->Rat) (j:Nat),F0 (mE g h) (sb (AL (mE g h))) (lH (λi=>om ((mE g h).e i).cl (xY g A i)) y) (g.n+j)=F0 h (sb (AL h)) (lH (λi=>om (h.e i).cl (nA i)) λi=>y (g.n+i)) j:=λy j=>Wd a.lg a.ho b.lg b.ho (λi hi c=>Qx y hi c) j;have two:∀ {P:Nat->Prop},(∀j,j<g.n->P j)->(∀j,j<h.n->P (g.n+j))->∀j,j<(mE g h).n->P j:=fun {P} p q j hj=>by
  rw[x3]at hj;by_cases e:j<g.n
  ·exact p j e
  ·have:=q (j-g.n) oO;rw[show g.n+(j-g.n)=j by omega]at this;exact this
 have x1:∀j,j<g.n->U8 g.n (xS g A) (xS h nA) j=xS g A j:=λj hj=>aj hj;have e2:(λi=>U8 g.n (xS g A) (xS h nA) (g.n+i))=xS h nA:=funext λi=>HC _ _ _ _;have e1:∀j,j<g.n->F0 g (sb (AL g)) (lH (λi=>om (g.e i).cl (A i)) (U8 g.n (xS g A) (xS h nA))) j=F0 g (sb (AL g)) (lH (λi=>om (g.e i).cl (A i)) (xS g A)) j:=λj hj=>by
  rw[<-f1 _ hj];refine SO a.lg b.lg b.ho (λi hi c=> ?_) hj;rw[Jl _ hi];show dC _ (U8 g.n (xS g A) (xS h nA) i) c=dC _ (xS g A i) c;rw[x1 i hi]
 refine⟨two (λj hj=> ?_) λj hj=> ?_,two (λj hj=> ?_) λj hj=> ?_,λy h0 hy=>two (λj hj=> ?_) λj hj=> ?_⟩
 ·rw[x1 j hj];exact G.nn j hj
 ·rw[HC];exact H.nn j hj
 ·rw[f1 _ hj,e1 j hj,x1 j hj,Lh hj];exact G.fx j hj
 ·rw[f2,e2,HC,Km hj];exact H.fx j hj
 ·rw[x1 j hj];refine G.top y (λi hi=>h0 i (by rw[x3];omega)) (λi hi=> ?_) j hj;have:=hy i (by rw[x3];omega);rw[f1 _ hi,Lh hi]at this;exact this
 ·rw[HC];refine H.top (λi=>y (g.n+i)) (λi hi=>h0 _ (by rw[x3];omega)) (λi hi=> ?_) j hj;have:=hy (g.n+i) (by rw[x3];omega);rw[f2,Km hi]at this;exact this
theorem LA (lg:nV g) (h1:∀i,i<g.n->∀c,dl i c=dl1 i c) {d:Nat} (hd:d<g.ds.length) {u u1:Nat->Nat->Rat} (hu:∀i c,u i c=u1 i c):∀k,k<=lX g d->∀i c,Bj (mE g h) dl d u k i c=Bj g dl1 d u1 k i c
 |0,_,i,c=>hu i c
 |k+1,hk,i,c=>by
  have ih:=LA lg h1 hd hu k oO i c;show xe (Bj (mE g h) dl d u k) ((mE g h).lg d k).1 ((mE g h).lg d k).2 (rR ((mE g h).d d).W (qD (mE g h) dl d) k) i c=xe (Bj g dl1 d u1 k) (g.lg d k).1 (g.lg d k).2 (rR (g.d d).W (qD g dl1 d) k) i c;rw[wZ hd,yf hd,E9 λj hj=>Ta (h:=h) lg h1 hd (show j<lX g d by omega)];unfold xe;split
  ·rfl
  ·exact ih
theorem FJ (lg:nV g) (h1:∀i,i<g.n->∀c,dl i c=dl1 i c):∀d,d<=g.ds.length->∀i c,y8 (mE g h) dl d i c=y8 g dl1 d i c
 |0,_,_,_=>rfl
 |d+1,hd,i,c=>by
  show Bj (mE g h) dl d (y8 (mE g h) dl d) (lX (mE g h) d) i c=Bj g dl1 d (y8 g dl1 d) (lX g d) i c;rw[Jq hd];exact LA lg h1 hd (FJ lg h1 d oO) _ (aB _) i c
theorem Kt (lh:nV h) (h2:∀i,i<h.n->∀c,dl (g.n+i) c=dl2 i c) {d:Nat} (hd:d<h.ds.length) {u u1 u2:Nat->Nat->Rat} (hu1:∀i,i<g.n->∀c,u i c=u1 i c) (hu2:∀i c,u (g.n+i) c=u2 i c):∀k,k<=lX h d->(∀i,i<g.n->∀c,Bj (mE g h) dl (g.ds.length+d) u k i c=u1 i c)/\∀i c,Bj (mE g h) dl (g.ds.length+d) u k (g.n+i) c=Bj h dl2 d u2 k i c
 |0,_=>⟨hu1,hu2⟩
 |k+1,hk=>by
  obtain⟨a,b⟩:=Kt lh h2 hd hu1 hu2 k oO;have hw:((mE g h).d (g.ds.length+d)).W=(h.d d).W:=by rw[AX hd];rfl
  have e:∀i c,Bj (mE g h) dl (g.ds.length+d) u (k+1) i c=xe (Bj (mE g h) dl (g.ds.length+d) u k) ((h.lg d k).1+g.n) (h.lg d k).2 (rR (h.d d).W (qD h dl2 d) k) i c:=λi c=>by
   show xe (Bj (mE g h) dl (g.ds.length+d) u k) ((mE g h).lg (g.ds.length+d) k).1 ((mE g h).lg (g.ds.length+d) k).2 (rR ((mE g h).d (g.ds.length+d)).W (qD (mE g h) dl (g.ds.length+d)) k) i c=_;rw[xk hd (show k<lX h d by omega),hw,E9 λj hj=>SX lh h2 hd (show j<lX h d by omega)];rfl
  refine⟨λi hi c=> ?_,λi c=> ?_⟩
  ·rw[e];unfold xe;rw[ah λq=>by have:=q.1;omega];exact a i hi c
  ·rw[e];show _=xe (Bj h dl2 d u2 k) (h.lg d k).1 (h.lg d k).2 _ i c;unfold xe;by_cases q:i=(h.lg d k).1/\c=(h.lg d k).2
   ·rw[aj q,aj ⟨oO,q.2⟩]
   ·rw[ah q,ah λq2=>q ⟨by have:=q2.1;omega,q2.2⟩];exact b i c
theorem LW (lg:nV g) (lh:nV h) (h1:∀i,i<g.n->∀c,dl i c=dl1 i c) (h2:∀i,i<h.n->∀c,dl (g.n+i) c=dl2 i c):∀d,d<=h.ds.length->(∀i,i<g.n->∀c,y8 (mE g h) dl (g.ds.length+d) i c=y8 g dl1 g.ds.length i c)/\∀i c,y8 (mE g h) dl (g.ds.length+d) (g.n+i) c=y8 h dl2 d i c
 |0,_=>by
  refine⟨λi _ c=>FJ lg h1 _ (aB _) i c,λi c=> ?_⟩;show y8 (mE g h) dl g.ds.length (g.n+i) c=0;rw[FJ lg h1 _ (aB _)];exact Oq (λe=>absurd (OH lg e) (by show¬g.n+i<g.n;omega)) _ (aB _)
 |d+1,hd=>by
  obtain⟨a,b⟩:=LW lg lh h1 h2 d oO;have:=Kt lh h2 hd a b (lX h d) (aB _);rw[<-yu (g:=g) hd]at this;rw[yu hd]at this;show(∀i,i<g.n->∀c,Bj (mE g h) dl (g.ds.length+d) (y8 (mE g h) dl (g.ds.length+d)) (lX (mE g h) (g.ds.length+d)) i c=_)/\∀i c,Bj (mE g h) dl (g.ds.length+d) (y8 (mE g h) dl (g.ds.length+d)) (lX (mE g h) (g.ds.length+d)) (g.n+i) c=Bj h dl2 d (y8 h dl2 d) (lX h d) i c;rw[yu hd];exact this
theorem Wq {D0 D1 D2:Nat} (a:GV D0 g A) (b:GV D1 h nA) (u:GV D2 (mE g h) (xY g A)):(∀i,i<g.n->xS (mE g h) (xY g A) i=xS g A i)/\∀i,i<h.n->xS (mE g h) (xY g A) (g.n+i)=xS h nA i:=by
 have e:=R5 u.WK (UD a b);refine⟨λi hi=>(e i (by rw[x3];omega)).trans (aj hi),λi hi=>(e _ (by rw[x3];omega)).trans (HC _ _ _ _)⟩
theorem Wb {D0 D1 D2:Nat} (a:GV D0 g A) (b:GV D1 h nA) (u:GV D2 (mE g h) (xY g A)):(∀i,i<g.n->∀c,yZ (mE g h) (xY g A) i c=yZ g A i c)/\∀i,i<h.n->∀c,yZ (mE g h) (xY g A) (g.n+i) c=yZ h nA i c:=by
 obtain⟨x1,x2⟩:=Wq a b u;have d1:∀i,i<g.n->∀c,lH (λi=>om ((mE g h).e i).cl (xY g A i)) (xS (mE g h) (xY g A)) i c=lH (λi=>om (g.e i).cl (A i)) (xS g A) i c:=λi hi c=>by
  rw[Jl _ hi];show dC _ (xS (mE g h) (xY g A) i) c=dC _ (xS g A i) c;rw[x1 i hi]
 have d2:∀i,i<h.n->∀c,lH (λi=>om ((mE g h).e i).cl (xY g A i)) (xS (mE g h) (xY g A)) (g.n+i) c=lH (λi=>om (h.e i).cl (nA i)) (xS h nA) i c:=λi hi c=>by
  rw[Qx _ hi];show dC _ (xS (mE g h) (xY g A) (g.n+i)) c=dC _ (xS h nA i) c;rw[x2 i hi]
 obtain⟨r1,r2⟩:=LW a.lg b.lg d1 d2 h.ds.length (aB _);refine⟨λi hi c=> ?_,λi hi c=> ?_⟩
 ·unfold yZ;rw[d1 i hi,C4,r1 i hi]
 ·unfold yZ;rw[d2 i hi,C4,r2]
theorem Lt.un {P:Rat->Prop} (a:Lt P g A) (b:Lt P h nA) (n4:g.n<=4) (m4:h.n<=4) (n3:g.ds.length<=3) (m3:h.ds.length<=3):Lt P (mE g h) (xY g A):=by
 have hn:=x3 g h;have hdn:=C4 g h;have two:∀ {P:Nat->Prop},(∀j,j<g.n->P j)->(∀j,j<h.n->P (g.n+j))->∀j,j<(mE g h).n->P j:=fun {P} p q j hj=>by
  rw[hn]at hj;by_cases e:j<g.n
  ·exact p j e
  ·have:=q (j-g.n) oO;rw[show g.n+(j-g.n)=j by omega]at this;exact this
 have tw2:∀ {P:Nat->Prop},(∀j,j<g.ds.length->P j)->(∀j,j<h.ds.length->P (g.ds.length+j))->∀j,j<(mE g h).ds.length->P j:=fun {P} p q j hj=>by
  rw[hdn]at hj;by_cases e:j<g.ds.length
  ·exact p j e
  ·have:=q (j-g.ds.length) oO;rw[show g.ds.length+(j-g.ds.length)=j by omega]at this;exact this
 refine⟨by have:=a.n0;omega,oO,oO,two (λi hi=> ?_) λi hi=> ?_,tw2 (λd hd=> ?_) λd hd=> ?_,tw2 (λd hd=> ?_) λd hd=> ?_,tw2 (λd hd k hk=> ?_) λd hd k hk=> ?_,two (λi hi c hc hh=> ?_) λi hi c hc hh=> ?_,tw2 (λd hd k hk=> ?_) λd hd k hk=> ?_,?_⟩
 ·rw[Dm hi,hn];have e:=a.es i hi;have eA:xY g A i=A i:=aj hi;rw[eA];exact⟨e.cash,e.cn,λc hc=>by obtain⟨a1,a2,a3,a4,a5,a6⟩:=e.cl c hc;exact⟨a1,oO,a3,a4,a5,a6⟩,e.an,e.tn,e.pn,e.pt,e.nd⟩
 ·rw[CO hi,hn];have e:=b.es i hi;have eA:xY g A (g.n+i)=[]:=ah oO;rw[eA];refine⟨e.cash,by show(List.map _ _).length<=7;rw[aO];exact e.cn,λc hc=> ?_,dD,λX hX=>absurd hX ct,λX hX=>absurd hX ct,λX hX=>absurd hX ct,fe⟩;obtain⟨x,hx,rfl⟩:=bT.1 hc;obtain⟨a1,a2,a3,a4,a5,a6⟩:=e.cl x hx;have ex:(Az g.n x).h=if x.h= -1 then-1 else x.h+g.n:=rfl
  refine⟨?_,?_,?_,a4,a5,a6⟩;all_goals
   rw[ex];split<;>omega
 ·rw[yf hd];exact a.W d hd
 ·rw[AX hd];exact b.W d hd
 ·rw[yf hd];exact a.ln d hd
 ·rw[AX hd];show(List.map _ _).length<=4;rw[aO];exact b.ln d hd
 ·rw[yf hd]at hk;obtain⟨p1,p2⟩:=a.lg d hd k hk;rw[wZ hd,Cl p1];exact⟨oO,p2⟩
 ·have hk:k<lX h d:=by rw[<-yu (g:=g) hd];exact hk
  obtain⟨p1,p2⟩:=b.lg d hd k hk;rw[xk hd hk,show(Bf g.n (h.lg d k)).1=g.n+(h.lg d k).1 from dK _ _,Ct p1];exact⟨oO,p2⟩
 ·rw[Cl hi]at hc;rw[En hi]at hh⊢;obtain⟨x,x1,x2⟩:=a.ho i hi c hc hh;exact⟨x,oO,x2⟩
 ·rw[Ct hi]at hc;rw[Eb hi hc]at hh⊢;have ex:(Az g.n (h.c i c)).h=if(h.c i c).h= -1 then-1 else(h.c i c).h+g.n:=rfl
  rw[ex]at hh⊢;by_cases q:(h.c i c).h= -1
  ·rw[aj q]at hh;exact absurd rfl hh
  ·obtain⟨x,x1,x2⟩:=b.ho i hi c hc q;rw[ah q];exact⟨x+g.n,oO,oO⟩
 ·rw[yf hd]at hk;have e:=a.hl d hd k hk;obtain⟨p1,p2⟩:=a.lg d hd k hk;obtain⟨p3,p4⟩:=a.lg d hd 0 (bY (ax _) hk);rw[wZ hd,wZ hd,En p1,En p3];exact e
 ·have hk:k<lX h d:=by rw[<-yu (g:=g) hd];exact hk
  have h0:0<lX h d:=bY (ax _) hk;have e:=b.hl d hd k hk;obtain⟨p1,p2⟩:=b.lg d hd k hk;obtain⟨p3,p4⟩:=b.lg d hd 0 h0;rw[xk hd hk,xk hd h0,show(Bf g.n (h.lg d k)).1=g.n+(h.lg d k).1 from dK _ _,show(Bf g.n (h.lg d 0)).1=g.n+(h.lg d 0).1 from dK _ _];show((mE g h).c (g.n+(h.lg d k).1) (h.lg d k).2).h=((mE g h).c (g.n+(h.lg d 0).1) (h.lg d 0).2).h;rw[Eb p1 p2,Eb p3 p4];show(if _ then _ else _)=if _ then _ else _
  rw[e]
 ·rw[O9,de];refine⟨a.nd,jN.2 (List.Pairwise.imp (fun {p q} hpq e=>hpq ?_) b.nd),λp hp q hq e=> ?_⟩
  ·obtain⟨x,_,rfl⟩:=bT.1 hq;have:=OH a.lg hp;rw[e]at this;exact absurd this (by show¬x.1+g.n<g.n;omega)
  ·have e1:p.1+g.n=q.1+g.n:=bI (λz:Nat×Nat=>z.1) e;have e2:(Bf g.n p).2=(Bf g.n q).2:=by rw[e]
   exact iG oO e2
end
end Go.Proofs.YtoeiejliehgopaaGreatDoor
namespace Go.Sx
open Go Go.RowKit Go.ChangeShapes Go.WideShapes Go.Proofs.YtoeiejliehgopaaGreatDoor
section
variable {H : Type} {enc : TypeId × Value → H} {P : Program} {w : World}
theorem uM {K:Nat} {eK:(Nat->Nat)->List Value} (hK:∀x j u,(eK x)[j]?=some u->j<K/\u= .int .u16 (x j)) {t e q:TypeId} {v:Value} {d:DataW H} {ps:List MemPlace} {b0:Nat} (ht:P.underlying t=some (.slice e)) (he:P.underlying e=some (.array K q)) (hq:P.underlying q=some (.int .u16)) (hce:P.cellsOf e=K) (hcq:P.cellsOf q=1)
  (hval:Value.okWide P w .any b0 t v) (h:DataW.Trod enc P w 0 (λ_=>true) true t v d ps):∃l:List (Nat->Nat),Sl eK K w v l/\∀x∈l,∀i,i<K->x i<65536:=by
 obtain⟨a0,len0,cap0,rfl⟩:=okWide_slice ht hval;obtain⟨fuel,hf⟩:=h;rcases DataW.trod_slice ht hf with⟨h1,_⟩|⟨a,len,cap,elems,rest,n,_,h1,_,_,hlc,hm,hlen,hel,_,_⟩
 ·simp only[Value.cells,fY,and_true]at h1;rw[h1];exact⟨[],Sl.nil _ _ _,λx hx=>by cases hx⟩
 ·simp only[Value.cells,fY,and_true]at h1;rw[h1];have each:∀i,i<len->∃x:Nat->Nat,(∀j,j<K->x j<65536)/\∀j,j<K->w.cell? (a.add (i*K+j))=some (.int .u16 (x j)):=by
   intro i hi;have h2:=hel i hi;rw[hce,aG (by omega:i<elems.length),Option.bind_eq_some_iff]at h2;obtain⟨cs,hcs,htr⟩:=h2;obtain⟨_,hcl,hcell⟩:=World.cells?_some hcs;obtain⟨xs,m,_,_,_,hxl,hxs⟩:=DataW.trod_array he htr;have hone:∀j,j<K->∃z:Nat,z<65536/\cs[j]?=some (.int .u16 (z:Int)):=by
    intro j hj;have h3:=hxs j hj;rw[hcq,eC,aG oO]at h3;obtain⟨z,e1,_,hw⟩:=DataW.trod_int hq h3;have hb:=bounds_u16 hw;refine⟨z.toNat,oO,?_⟩;have h0:((cs.drop j).take 1)[0]?=some (.int .u16 z):=by rw[e1];rfl
    rw[fA hb.1];simpa using h0
   refine⟨λj=>if hj:j<K then Classical.choose (hone j hj)else 0,λj hj=> ?_,λj hj=> ?_⟩
   ·simp only[hj,gg];exact(gC (hone j hj)).1
   ·simp only[hj,gg];rw[<-(gC (hone j hj)).2,<-hcell j hj,add_add]
  refine⟨(List.range len).map λi=>if hi:i<len then Classical.choose (each i hi)else λ_=>0,⟨⟨some a,cap,by simp,by simp;exact hlc,hm,λq=>by cases q⟩,λi hi=> ?_⟩,λx hx i hi=> ?_⟩
  ·have hil:i<len:=by simpa using hi
   intro j u hu;rw[en,jA]at hu;simp only[hil,gg]at hu;obtain⟨hj,rfl⟩:=hK _ _ _ hu;show w.cell? ((a.add (i*K)).add j)=_;rw[add_add];exact(gC (each i hil)).2 j hj
  ·obtain⟨k,hk,rfl⟩:=bT.1 hx;have hkl:=cS.1 hk;simp only[hkl,gg];exact(gC (each k hkl)).1 i hi
end
theorem Ft (x:Nat->Nat) (j:Nat) (u:Value) (h:(o5 x)[j]?=some u):j<3/\u= .int .u16 (x j):=by
 match j,h with
 |0,h=>exact⟨dD,(bN h).symm⟩
 |1,h=>exact⟨dD,(bN h).symm⟩
 |2,h=>exact⟨dD,(bN h).symm⟩
 |j+3,h=>cases h
theorem KJ (x:Nat->Nat) (j:Nat) (u:Value) (h:(ys x)[j]?=some u):j<4/\u= .int .u16 (x j):=by
 match j,h with
 |0,h=>exact⟨dD,(bN h).symm⟩
 |1,h=>exact⟨dD,(bN h).symm⟩
 |2,h=>exact⟨dD,(bN h).symm⟩
 |3,h=>exact⟨dD,(bN h).symm⟩
 |j+4,h=>cases h
end Go.Sx
namespace Go.Proofs.YtoeiejliehgopaaGreatDoor
open Go Go.RowKit Go.Sx
theorem Jv (q:Rat) (a:Option Addr) (n c:Nat) (a2:Option Addr) (n2 c2:Nat):∀u∈[(q,Value.slice a n c,Value.slice a2 n2 c2)].flatMap kA,u.oneCell'=true:=by
 intro u hu;rw[cI]at hu;simp only[kA,j6,bW,ce,bC,ct,fo]at hu;rcases hu with rfl|rfl|rfl|rfl|rfl<;>rfl
theorem Wo {w0 w:World} {H:List kV} (_:St w0 w H):St w w []:=St.init w
section
variable {w : World} {g : mT} {A : Nat → List (List (List nD))}
theorem Dx {r:Value} (h:TV w g (λi=>om (g.e i).cl (A i)) (xS g A) r):∃a1 c1 a2 l2 c2 a3 l3 c3 a4 l4 c4 a5 c5 a6 l6 c6 a7 l7 c7 a8 l8 c8,r= .agg #[.slice a1 g.n c1,.slice a2 l2 c2,.slice a3 l3 c3,.slice a4 l4 c4,.slice a5 g.n c5,.slice a6 l6 c6,.slice a7 l7 c7,.slice a8 l8 c8]:=by
 obtain⟨vM,vG,vD,vF,vN,vS,vR,vU,uG,uD,uF,uN,e,h1,h2,h3,h4,h5,h6,h7,h8⟩:=h;obtain⟨a1,c1,e1,_⟩:=h1.form;obtain⟨a2,c2,e2,_⟩:=h2.sl.form;obtain⟨a3,c3,e3,_⟩:=h3.sl.form;obtain⟨a4,c4,e4,_⟩:=h4.sl.form;obtain⟨a5,c5,e5,_⟩:=h5.sl.form;obtain⟨a6,c6,e6,_⟩:=h6.form;obtain⟨a7,c7,e7,_⟩:=h7.form;obtain⟨a8,c8,e8,_⟩:=h8.form;rw[ka]at e1;rw[h5.len,nu]at e5;rw[e1,e2,e3,e4,e5,e6,e7,e8]at e;exact⟨_,_,_,_,_,_,_,_,_,_,_,_,_,_,_,_,_,_,_,_,_,_,e⟩
end
theorem xo {α:Type} (f:Nat->α) (a:Nat):∀b,ku (a+b) f=ku a f++ku b λi=>f (a+i)
 |0=>(aK _).symm
 |b+1=>by
  rw[nZ,<-aF,<-xo f a b];exact nZ (a+b) f
def GS {α:Type} (t:α->α) (c:Nat) (l:List α):List α:=(l.take c).map t++l.drop c
section
variable {α : Type} {t : α → α} {l : List α} {c : Nat}
theorem GN (t:α->α) (l:List α) (c:Nat):(GS t c l).length=l.length:=by
 unfold GS;rw[aw,aO,cG,eN];omega
theorem Ra (t:α->α) (l:List α):GS t l.length l=l.map t:=by
 unfold GS;rw[bK,List.drop_length,aK]
theorem Ms (d:α) (h:c<l.length):(GS t c l).getD c d=l.getD c d:=by
 unfold GS;rw[ai,ai,bV (by rw[aO,cG];omega),aO,cG,jC,show c+(c-min c l.length)=c by omega]
theorem Lw (d:α) (h:c<l.length):(GS t c l).set c (t (l.getD c d))=GS t (c+1) l:=by
 have hl:((l.take c).map t).length=c:=by rw[aO,cG];omega
 unfold GS;rw[lC l c d h,bO,dJ h,gA _ _ oO,hl,dU,aF];rfl
theorem Oi (d:α) (h:c<l.length) (e:t (l.getD c d)=l.getD c d):GS t (c+1) l=GS t c l:=by
 rw[<-Lw d h,e];have h2:c<(GS t c l).length:=by rw[GN];exact h
 have h3:=Ms (t:=t) d h;rw[<-h3,ai,aG h2];exact List.set_getElem_self h2
end
theorem UP {k:Nat} {c:rG} (h:c.h= -1):Az k c=c:=by
 unfold Az;rw[aj h,<-h]
theorem SD {k:Nat} {c:rG} (h:c.h≠-1):Az k c=⟨c.h+k,c.rk,c.q⟩:=by
 unfold Az;rw[ah h]
def SF (h:mT) (k n:Nat) (ev ev2:Nat->Value×Value) (D:List kV):Prop:=∀i,i<n->(ev i).2=(ev2 i).2/\∀wz wx,St wz wx D->Sl lZ 5 wx (ev i).1 ((h.e i).cl.map (Az k))
def Vc (h:mT) (k n:Nat) (dv:Nat->Value) (D:List kV):Prop:=∀d,d<n->∀wz wx,St wz wx D->Sl m9 2 wx (dv d) ((h.d d).legs.map (Bf k))
theorem SF.snoc {h:mT} {k n:Nat} {ev ev2:Nat->Value×Value} {D LC:List kV} {v:Value} (hu:SF h k n ev ev2 D) (hG:Gl lZ 53 5 v ((h.e n).cl.map (Az k)) LC):SF h k (n+1) (λi=>if i=n then(v,(ev2 n).2)else ev i) ev2 (D++LC):=by
 intro i hi;simp only;by_cases e:i=n
 ·rw[aj e,e];exact⟨rfl,λwz wx hS=>hG.sl (H:=[]) (hS.drop (ao _ _)) mY⟩
 ·rw[ah e];exact⟨(hu i oO).1,λwz wx hS=>(hu i oO).2 wz wx (hS.drop (ap _ _))⟩
theorem Vc.snoc {h:mT} {k n:Nat} {dv:Nat->Value} {D LC:List kV} {v:Value} (hu:Vc h k n dv D) (hG:Gl m9 66 2 v ((h.d n).legs.map (Bf k)) LC):Vc h k (n+1) (λi=>if i=n then v else dv i) (D++LC):=by
 intro i hi wz wx hS;simp only;by_cases e:i=n
 ·rw[aj e,e];exact hG.sl (H:=[]) (hS.drop (ao _ _)) pg
 ·rw[ah e];exact hu i oO wz wx (hS.drop (ap _ _))
section
variable {g h : mT} {w : World} {D D2 : List kV} {v1 v2 v3 v4 vE vD : Value} {ev1 : List (Value × Value)} {ev2 evn : Nat → Value × Value} {dv1 dv2 : List Value} {dvn : Nat → Value}
def Hi (n:Nat) (m:Nat) (a:List (Value×Value)) (b:Nat->Value×Value):List (Value×Value):=ku (n+m) λi=>if i<n then a.getD i pW else b (i-n)
def Jf (n:Nat) (m:Nat) (a:List Value) (b:Nat->Value):List Value:=ku (n+m) λi=>if i<n then a.getD i undef else b (i-n)
theorem FV {n m i:Nat} {a:List (Value×Value)} {b:Nat->Value×Value} (hi:i<n):(Hi n m a b).getD i pW=a.getD i pW:=by
 unfold Hi;rw[kw _ _ oO,aj hi]
theorem GA {n m i:Nat} {a:List (Value×Value)} {b:Nat->Value×Value} (hi:i<m):(Hi n m a b).getD (n+i) pW=b i:=by
 unfold Hi;rw[kw _ _ oO,ah oO,cW]
theorem Py {n m i:Nat} {a:List Value} {b:Nat->Value} (hi:i<n):(Jf n m a b).getD i undef=a.getD i undef:=by
 unfold Jf;rw[kw _ _ oO,aj hi]
theorem Qz {n m i:Nat} {a:List Value} {b:Nat->Value} (hi:i<m):(Jf n m a b).getD (n+i) undef=b i:=by
 unfold Jf;rw[kw _ _ oO,ah oO,cW]
theorem Wp (hM1:EE w v1 v2 g ev1 dv1) (hM2:EE w v3 v4 h (ku h.n ev2) dv2) (h1:SF h g.n h.n evn ev2 D) (h3:Vc h g.n h.ds.length dvn D2) {wy wz:World} (hS1:St wz w D) (hS2:St wy w D2)
  (hE:Sl kA 5 w vE ((ku g.n λi=>((g.e i).cash,ev1.getD i pW))++ku h.n λi=>((h.e i).cash,evn i)))
  (hD:Sl lz 4 w vD ((ku g.ds.length λk=>((g.d k).W,dv1.getD k undef))++ku h.ds.length λk=>((h.d k).W,dvn k))):
  EE w vE vD (mE g h) (Hi g.n h.n ev1 evn) (Jf g.ds.length h.ds.length dv1 dvn):=by
 have split:∀ {n m i:Nat},i<n+m->i<n\/∃j,j<m/\i=n+j:=fun {n m i} hi=>by
  rcases bH i n with h|h
  ·exact .inl h
  ·exact .inr ⟨i-n,oO,oO⟩
 refine⟨?_,?_,λi hi=> ?_,λk hk=> ?_,λi hi=> ?_⟩
 ·rw[x3,xo,kB (f:=λi=>(((mE g h).e i).cash,(Hi g.n h.n ev1 evn).getD i pW)) (g:=λi=>((g.e i).cash,ev1.getD i pW)) λi hi=>by rw[Dm hi,FV hi],
   kB (f:=λi=>(((mE g h).e (g.n+i)).cash,(Hi g.n h.n ev1 evn).getD (g.n+i) pW)) (g:=λi=>((h.e i).cash,evn i)) λi hi=>by rw[CO hi,GA hi];rfl]
  exact hE
 ·rw[C4,xo,kB (f:=λk=>(((mE g h).d k).W,(Jf g.ds.length h.ds.length dv1 dvn).getD k undef)) (g:=λk=>((g.d k).W,dv1.getD k undef)) λi hi=>by rw[yf hi,Py hi],
   kB (f:=λk=>(((mE g h).d (g.ds.length+k)).W,(Jf g.ds.length h.ds.length dv1 dvn).getD (g.ds.length+k) undef)) (g:=λk=>((h.d k).W,dvn k)) λi hi=>by rw[AX hi,Qz hi];rfl]
  exact hD
 ·rw[x3]at hi;rcases split hi with h0|⟨j,hj,rfl⟩
  ·rw[Dm h0,FV h0];exact hM1.cl i h0
  ·rw[CO hj,GA hj];exact(h1 j hj).2 _ _ hS1
 ·rw[C4]at hk;rcases split hk with h0|⟨j,hj,rfl⟩
  ·rw[yf h0,Py h0];exact hM1.lg k h0
  ·rw[AX hj,Qz hj];exact h3 j hj _ _ hS2
 ·rw[x3]at hi;rcases split hi with h0|⟨j,hj,rfl⟩
  ·rw[FV h0];exact hM1.ag i h0
  ·rw[GA hj,(h1 j hj).1];have:=hM2.ag j hj;rw[kw _ _ hj]at this;exact this
theorem VJ {A:Nat->List (List (List nD))} {av:Nat->List Value} {pv:Nat->List (List Value)} (h1:SF h g.n h.n evn ev2 D) (hA1:∀i,i<g.n->GT w (ev1.getD i pW).2 (A i) (av i) (pv i)) {av2:Nat->List Value} {pv2:Nat->List (List Value)} (hA2:∀i,i<h.n->GT w (ev2 i).2 [] (av2 i) (pv2 i)):
  ∀i,i<(mE g h).n->GT w ((Hi g.n h.n ev1 evn).getD i pW).2 (xY g A i) (if i<g.n then av i else av2 (i-g.n)) (if i<g.n then pv i else pv2 (i-g.n)):=by
 intro i hi;rw[x3]at hi;unfold xY;by_cases e:i<g.n
 ·rw[aj e,aj e,aj e,FV e];exact hA1 i e
 ·obtain⟨j,hj,rfl⟩:∃j,j<h.n/\i=g.n+j:=⟨i-g.n,oO,oO⟩;rw[ah e,ah e,ah e,GA hj,(h1 j hj).1,cW];exact hA2 j hj
end
theorem Ud (g h:mT) (A:Nat->List (List (List nD))) {D0 D1 D2:Nat} (a:GV D0 g A) (b:GV D1 h nA) (u:GV D2 (mE g h) (xY g A)):
  (ku (mE g h).n λi=>j9 (xS (mE g h) (xY g A) i))=(ku g.n λi=>j9 (xS g A i))++(ku h.n λi=>j9 (xS h nA i))/\
  tp (mE g h).n (mE g h).cn (yZ (mE g h) (xY g A))=tp g.n g.cn (yZ g A)++tp h.n h.cn (yZ h nA):=by
 obtain⟨x1,x2⟩:=Wq a b u;obtain⟨n1,n2⟩:=Wb a b u;unfold tp;rw[x3,xo,xo];refine⟨?_,?_⟩
 ·rw[kB λi hi=>by rw[x1 i hi],kB (n:=h.n) λi hi=>by rw[x2 i hi]]
 ·rw[kB (n:=g.n) (f:=λi=>ku ((mE g h).cn i) λc=>j9 (yZ (mE g h) (xY g A) i c)) (g:=λi=>ku (g.cn i) λc=>j9 (yZ g A i c)) λi hi=>by rw[Cl hi];exact kB λc _=>by rw[n1 i hi],
   kB (n:=h.n) (f:=λi=>ku ((mE g h).cn (g.n+i)) λc=>j9 (yZ (mE g h) (xY g A) (g.n+i) c)) (g:=λi=>ku (h.cn i) λc=>j9 (yZ h nA i c)) λi hi=>by rw[Ct hi];exact kB λc _=>by rw[n2 i hi]]
end Go.Proofs.YtoeiejliehgopaaGreatDoor
