import Derived.Test.YtoeiejliehgopaaGreatDoorSd11
set_option maxRecDepth 20000
set_option maxHeartbeats 8000000
namespace Go.Proofs.YtoeiejliehgopaaGreatDoor
open Go Go.RowKit Go.Sx
def z4:Nat->Nat:=λ_=>0
def oE (cash:List Nat) (i:Nat):Rat:=if i<cash.length then oA (cash.getD i 0)else 0
def T4 (size:Nat) (c:Nat->Nat):qZ:=⟨if c 1% (size+1)=c 0%size\/size<=c 1% (size+1)then-1 else((c 1% (size+1):Nat):Int),((c 2%3:Nat):Int),oA (c 3)⟩
def yt (size:Nat) (L:List (Nat->Nat)):Nat->Nat->List qZ
 |0,_=>[]
 |j+1,i=>if(L.getD j z4) 0%size=i/\(yt size L j i).length<6 then yt size L j i++[T4 size (L.getD j z4)]else yt size L j i
def uE (size:Nat) (n:Nat->Nat) (Q:List (Nat->Nat)):Nat->Nat->List (List (List mK))
 |0,_=>[]
 |j+1,i=>if(Q.getD j z4) 0%size=i/\(uE size n Q j i).length<2 then uE size n Q j i++[wS (uE size n Q j i) (n i) (Q.getD j z4)]else uE size n Q j i
def Gg (size:Nat) (cl:Nat->List qZ) (D:List (Nat->Nat)):Nat->List sL
 |0=>[]
 |j+1=>if(Gg size cl D j).length<3 then Gg size cl D j++[⟨oA ((D.getD j z4) 2),RO (Gg size cl D j) (D.getD j z4) cl size⟩]else Gg size cl D j
theorem Bg (size:Nat) (L:List (Nat->Nat)):∀j i,(yt size L j i).length<=6
 |0,_=>aB _
 |j+1,i=>by
  have:=Bg size L j i;unfold yt;split
  ·rename_i h;rw[aG];show _+1<=_;omega
  ·exact this
theorem Ko (size:Nat) (n:Nat->Nat) (Q:List (Nat->Nat)):∀j i,(uE size n Q j i).length<=2
 |0,_=>aB _
 |j+1,i=>by
  have:=Ko size n Q j i;unfold uE;split
  ·rename_i h;rw[aG];show _+1<=_;omega
  ·exact this
theorem JJ (size:Nat) (cl:Nat->List qZ) (D:List (Nat->Nat)):∀j,(Gg size cl D j).length<=3
 |0=>aB _
 |j+1=>by
  have:=JJ size cl D j;unfold Gg;split
  ·rename_i h;rw[aG];show _+1<=_;omega
  ·exact this
theorem TK:([.bool false,.string ⟨#[]⟩,.string ⟨#[]⟩,kd,kd]:List Value)=kw (0,kd,kd):=by
 show _=j5 (j8 0)++_;rw[ol];rfl
theorem Mm {A E R new:List Value} {off:Nat} (h:off+new.length<=E.length):splice (A++(E++R)) (A.length+off) new=A++(splice E off new++R):=by
 unfold splice;rw[iL,aV oO,fC,fG oO,aI,aI];congr 1;rw[aI,aI];congr 2;rw[List.drop_append,fb oO,ca,show A.length+off+new.length-A.length=off+new.length by omega,fH h]
theorem xg (i j:Int) (r:RR):Tryz.prog.built 53 [(0,.int .i64 i),(1,.int .i64 j),(2,kW r)]=some #[.int .i64 i,.int .i64 j,.bool r.neg,.string r.num,.string r.den]:=by kernel_rfl
theorem uI (xs:List qZ):∀u∈xs.flatMap lZ,u.oneCell'=true:=by
 intro u hu;rw[dQ]at hu;obtain⟨x,_,h⟩:=hu;simp only[lZ,j5,bJ,df,fM]at h;rcases h with rfl|rfl|rfl|rfl|rfl<;>rfl
theorem Jq (q:Rat):∀u∈[(q,kd,kd)].flatMap kw,u.oneCell'=true:=by
 intro u hu;rw[cK]at hu;simp only[kw,j5,bW,ca,bJ,df,fM]at hu;rcases hu with rfl|rfl|rfl|rfl|rfl<;>rfl
section
variable {P : Program} {N : Nat} {ρ : Nat → Value} {w0 w : World} {H : List kU} {d : Option Tmp} {ty : TypeId} {pos : String} {aft : Array Edge} {g : Option (Nat × Bool)} {x y : Operand} {K2 : Value → World → Prop} {b o k : Nat} {t t' : TypeId} {v : Value}
theorem Hn {α:Type} {enc:α->List Value} {size:Nat} {L:List α} {sp new:List Value} {i off n:Nat} {zz:List Value} {agg:Bool} (dd u:α) (hu:∀x,(enc x).length=size) (hx:ev N ρ x= .pointer (some ⟨b,o,none⟩)) (hy:ev N ρ y=v) (ht:lO P t=some (n,agg,zz)) (hS:St w0 w H) (hk:H[k]?=some (b,t',L.flatMap enc++sp))
  (ho:o=i*size+off) (hi:i<L.length) (hv:v.cells.toList=new) (hn:new.length=n) (hf:off+n<=size) (he:enc u=splice (enc (L.getD i dd)) off new) (h1:new.all (·.oneCell')=true)
  (h:∀w',St w0 w' (H.set k (b,t',(L.set i u).flatMap enc++sp))->K2 undef w'):pd P N ρ w ⟨d,.store t x y,ty,pos,aft,g⟩ K2:=by
 subst ho;have hle:(i+1)*size<=L.length*size:=aO _ hi;rw[bA]at hle;refine lI hx hy ht hS hk hv hn ?_ h1 (λw' hS'=>h w' ?_)
 ·rw[aG,lS hu];omega
 ·have e:splice (L.flatMap enc++sp) (i*size+off) new=(L.set i u).flatMap enc++sp:=by
   have hA:((L.take i).flatMap enc).length=i*size:=by rw[lS hu,dg,gU oO]
   rw[Cz enc L dd hi,Py enc L u hi,he,aI,aI,<-hA,Mm (by rw[hu];omega)];simp only[aI]
  rw[e]at hS';exact hS'
end
structure Is (D:List kU) (v:Value) (A:List (List (List mK))) (av:List Value) (pv:List (List Value)):Prop where
 g:∀wz wx,St wz wx D->Gn wx v A av pv
theorem Is.mono {D D':List kU} {v:Value} {A:List (List (List mK))} {av:List Value} {pv:List (List Value)} (h:Is D v A av pv) (hs:D.Sublist D'):Is D' v A av pv:=⟨λwz wx hS=>h.g wz wx (hS.drop hs)⟩
structure Wi (n:Nat) (q:Nat->Rat) (cl:Nat->List qZ) (vE:Value) (ev:Nat->Value×Value) (LE:List kU) (LC:List (List kU)):Prop where
 e:Gl kw 51 5 vE (ky n λi=>(q i,ev i)) LE
 c:mr lZ 53 5 (ky n λi=>(ev i).1) (ky n cl) LC
 a:∀i,i<n->∃a l c,(ev i).2= .slice a l c
theorem Wi.W3 {n:Nat} {q:Nat->Rat} {cl:Nat->List qZ} {vE:Value} {ev:Nat->Value×Value} {LE:List kU} {LC:List (List kU)} (h:Wi n q cl vE ev LE LC) {w0 w:World} (hS:St w0 w (LE++LC.flatten)):Wv w vE n q ev cl:=by
 refine⟨h.e.sl (H:=[]) (hS.drop (ak _ _)) mY,λi hi=> ?_⟩;have:=h.c.row (P:=LE) hS o4 (i:=i) (by rw[j9];exact hi);rw[kz _ _ hi,kz _ _ hi]at this;exact this
structure T8 (D:List kU) (v:Value) (ds:List sL) (dv:List Value):Prop where
 len:dv.length=ds.length
 g:∀wz wx,St wz wx D->Sh wx v ds dv
structure Wb (n:Nat) (q:Nat->Rat) (cl:Nat->List qZ) (A:Nat->List (List (List mK))) (ds:List sL) (vE vD:Value) (ev:Nat->Value×Value) (av:Nat->List Value) (pv:Nat->List (List Value)) (dv:List Value) (LE:List kU) (LC:List (List kU)) (DA:List kU):Prop where
 e:Wi n q cl vE ev LE LC
 a:∀i,i<n->Is DA (ev i).2 (A i) (av i) (pv i)
 d:T8 DA vD ds dv
theorem UX (n:Nat) (L:List (Nat->Nat)):mr lZ 53 5 (ky n λ_=>kd) (ky n (yt n L 0)) (ky n λ_=>[]):=by
 refine⟨by rw[j9,j9],by rw[j9,j9],λi hi=> ?_⟩;rw[j9]at hi;rw[kz _ _ hi,kz _ _ hi,kz _ _ hi];exact Gl.nil _ _ _
theorem OL {β:Type} (n:Nat):(ky n λ_=>([]:List β)).flatten=[]:=by
 rw[List.flatten_eq_nil_iff];intro l hl;obtain⟨_,_,rfl⟩:=tf hl;rfl
theorem Is.snoc {D D2 LO:List kU} {v v' x:Value} {A:List (List (List mK))} {X:List (List mK)} {av:List Value} {pv:List (List Value)} {vs:List Value} (h:Is D v A av pv) (hl:av.length=A.length) (hp:pv.length=A.length) (hG:Gl rK 82 1 v' (av++[x]) LO) (hM:∀wz wx,St wz wx D2->rJ mF 5 wx x X vs):Is ((LO++D2)++D) v' (A++[X]) (av++[x]) (pv++[vs]):=by
 refine⟨λwz wx hS=>⟨by rw[aG,aG,hl];rfl,hG.sl (H:=[]) (hS.drop ((ak LO D2).trans (ak _ D))) (λ_=>rfl),λk hk=> ?_⟩⟩;have h1:=h.g wz wx (hS.drop (ai _ D));rw[aG]at hk;rw[mq,mq,mq,hl,hp];by_cases e:k<A.length
 ·rw[aj e,aj e,aj e];exact h1.m k e
 ·obtain rfl:k=A.length:=by have: [X].length=1:=rfl;omega
  rw[ah e,ah e,ah e,aj rfl,aj rfl,aj rfl];exact hM wz wx (hS.drop ((ai LO D2).trans (ak _ D)))
theorem T8.snoc {D D2 LO:List kU} {v v' x:Value} {ds:List sL} {dv:List Value} {W:Rat} {l:List (Nat×Nat)} (h:T8 D v ds dv) (hG:Gl lL 64 4 v' ((ky ds.length λk=>((ds.getD k si).W,dv.getD k undef))++[(W,x)]) LO) (hM:∀wz wx,St wz wx D2->Sl nx 2 wx x l):T8 ((LO++D2)++D) v' (ds++[⟨W,l⟩]) (dv++[x]):=by
 have e:((ky ds.length λk=>((ds.getD k si).W,dv.getD k undef))++[(W,x)])=ky (ds++[(⟨W,l⟩:sL)]).length λk=>(((ds++[(⟨W,l⟩:sL)]).getD k si).W,(dv++[x]).getD k undef):=by
  rw[aG,show [(⟨W,l⟩:sL)].length=1 from rfl,om,mq,mq,h.len,ah (dH _),ah (dH _),aj rfl,aj rfl];congr 1;refine kF λk hk=> ?_;rw[mq,mq,h.len,aj hk,aj hk]
 rw[e]at hG;refine⟨by rw[aG,aG,h.len];rfl,λwz wx hS=>⟨hG.sl (H:=[]) (hS.drop ((ak LO D2).trans (ak _ D))) o8,λk hk=> ?_⟩⟩;have h1:=h.g wz wx (hS.drop (ai _ D));rw[aG]at hk;rw[mq,mq,h.len];by_cases e:k<ds.length
 ·rw[aj e,aj e];exact h1.lg k e
 ·obtain rfl:k=ds.length:=by have: [(⟨W,l⟩:sL)].length=1:=rfl;omega
  rw[ah e,ah e,aj rfl,aj rfl];exact hM wz wx (hS.drop ((ai LO D2).trans (ak _ D)))
theorem xH {w wx:World} {m j i bE:Nat} {cash:List Nat} {sp:List Value} {ev:Nat->Value×Value} {LC:List (List kU)} {L:List (Nat->Nat)} {C:List qZ} {x:qZ} {v:Value} {LN P:List kU} (hev:∀i,(ev i).2=kd)
  (hR:mr lZ 53 5 (ky m λi=>(ev i).1) (ky m (yt m L j)) LC) (him:i<m) (hcl:yt m L (j+1)=λk=>if k=i then C++[x]else yt m L j k) (hG:Gl lZ 53 5 v (C++[x]) LN)
  (hS:St w wx ((P++([(bE,51,((ky m λk=>(oE cash k,ev k)).set i (oE cash i,v,(ev i).2)).flatMap kw++sp)]::LC.set i []).flatten)++LN)):
  ∃(ev':Nat->Value×Value) (LC':List (List kU)),(∀i,(ev' i).2=kd)/\mr lZ 53 5 (ky m λi=>(ev' i).1) (ky m (yt m L (j+1))) LC'/\St w wx (P++([(bE,51,(ky m λk=>(oE cash k,ev' k)).flatMap kw++sp)]::LC').flatten):=by
 have hlc:=hR.ln;rw[j9]at hlc;have hst:(ky m λk=>(oE cash k,ev k)).set i (oE cash i,v,(ev i).2)=ky m λk=>(oE cash k,if k=i then(v,(ev i).2)else ev k):=by
  rw[nt];refine kF λk _=> ?_;by_cases e:k=i
  ·rw[aj e,aj e,e]
  ·rw[ah e,ah e]
 rw[hst]at hS;have hS9:=nq (P:=P) (Ls:=[(bE,51,(ky m λk=>(oE cash k,if k=i then(v,(ev i).2)else ev k)).flatMap kw++sp)]::LC) (k:=i+1) hS (by rw[bj];omega);have hR2:=hR.FL (i:=i) (by rw[j9];exact him) hG;rw[nt,nt]at hR2;refine⟨λk=>if k=i then(v,(ev i).2)else ev k,LC.set i LN,λk=> ?_,?_,hS9⟩
 ·show(if k=i then(v,(ev i).2)else ev k).2=kd;split
  ·exact hev i
  ·exact hev k
 ·rw[hcl];have e1:(ky m λk=>(if k=i then(v,(ev i).2)else ev k).1)=ky m λk=>if k=i then v else(ev k).1:=kF λk _=>by split<;>rfl
  rw[e1];exact hR2
theorem QP {w wx:World} {m j i bE:Nat} {cash:List Nat} {sp:List Value} {nC:Nat->Nat} {cl:Nat->List qZ} {ev:Nat->Value×Value} {DA D2 LO P:List kU} {LC:List (List kU)} {Q:List (Nat->Nat)} {av:Nat->List Value} {pv:Nat->List (List Value)} {X:List (List mK)} {v x:Value} {vs:List Value}
  (hPA:∀i,i<m->(av i).length=(uE m nC Q j i).length/\(pv i).length=(uE m nC Q j i).length/\Is DA (ev i).2 (uE m nC Q j i) (av i) (pv i)) (hR:mr lZ 53 5 (ky m λi=>(ev i).1) (ky m cl) LC) (him:i<m)
  (hag:∀k,uE m nC Q (j+1) k=if k=i then uE m nC Q j i++[X]else uE m nC Q j k) (hG:Gl rK 82 1 v (av i++[x]) LO) (hM:∀wz wx,St wz wx D2->rJ mF 5 wx x X vs)
  (hS:St w wx ((P++([(bE,51,((ky m λk=>(oE cash k,ev k)).set i (oE cash i,(ev i).1,v)).flatMap kw++sp)]::DA::LC).flatten)++(LO++D2))):
  ∃(ev':Nat->Value×Value) (DA':List kU) (av':Nat->List Value) (pv':Nat->List (List Value)),(∀i,i<m->(av' i).length=(uE m nC Q (j+1) i).length/\(pv' i).length=(uE m nC Q (j+1) i).length/\Is DA' (ev' i).2 (uE m nC Q (j+1) i) (av' i) (pv' i))/\mr lZ 53 5 (ky m λi=>(ev' i).1) (ky m cl) LC/\
   St w wx (P++([(bE,51,(ky m λk=>(oE cash k,ev' k)).flatMap kw++sp)]::DA'::LC).flatten):=by
 have hst:(ky m λk=>(oE cash k,ev k)).set i (oE cash i,(ev i).1,v)=ky m λk=>(oE cash k,if k=i then((ev i).1,v)else ev k):=by
  rw[nt];refine kF λk _=> ?_;by_cases e:k=i
  ·rw[aj e,aj e,e]
  ·rw[ah e,ah e]
 rw[hst]at hS;have hS9:=tm (P:=P) (Ls:=[(bE,51,(ky m λk=>(oE cash k,if k=i then((ev i).1,v)else ev k)).flatMap kw++sp)]::DA::LC) (k:=1) (A:=LO++D2) (hS.perm aF) rfl (dS _);refine⟨λk=>if k=i then((ev i).1,v)else ev k,(LO++D2)++DA,λk=>if k=i then av i++[x]else av k,λk=>if k=i then pv i++[vs]else pv k,λk hk=> ?_,?_,hS9⟩
 ·obtain⟨l1,l2,hP⟩:=hPA k hk;rw[hag];by_cases e:k=i
  ·subst e;simp only[gZ];exact⟨by rw[aG,aG,l1];rfl,by rw[aG,aG,l2];rfl,hP.snoc l1 l2 hG hM⟩
  ·simp only[ah e];exact⟨l1,l2,hP.mono (ai _ _)⟩
 ·have e1:(ky m λk=>(if k=i then((ev i).1,v)else ev k).1)=ky m λk=>(ev k).1:=kF λk _=>by
   split
   ·rename_i e;rw[e]
   ·rfl
  rw[e1];exact hR
theorem N7 (n:Nat) (vC vL vQ vD:Value) (cash:List Nat) (L Q D:List (Nat->Nat)) (w:World) (hC:Sl (uk .u16) 1 w vC cash) (hL:Sl yF 4 w vL L) (hQ:Sl oW 3 w vQ Q) (hD:Sl oW 3 w vD D)
  (hc:∀x∈cash,x<65536) (hl:∀x∈L,∀i,i<4->x i<65536) (hq:∀x∈Q,∀i,i<3->x i<65536) (hd:∀x∈D,∀i,i<3->x i<65536):
  lU Tryz.prog 7 #[.int .u8 n,vC,vL,vQ,vD] w λr w'=>∃(vE vY:Value) (ev:Nat->Value×Value) (av:Nat->List Value) (pv:Nat->List (List Value)) (dv:List Value) (LE DA:List kU) (LC:List (List kU)),r= .agg #[vE,vY]/\Wb (1+n%4) (oE cash) (yt (1+n%4) L L.length) (uE (1+n%4) (λi=>(yt (1+n%4) L L.length i).length) Q Q.length) (Gg (1+n%4) (yt (1+n%4) L L.length) D D.length) vE vY ev av pv dv LE LC DA/\St w w' ((LE++LC.flatten)++DA):=by
 have hcm:=hC.maxLen;have hlm:=hL.maxLen;have hqm:=hQ.maxLen;have hdm:=hD.maxLen;have hS:=St.init w;have h4:n%4<4:=bG _ dD;obtain⟨m,hm⟩:=jz (1+n%4);refine enter Tryz.func7 rfl Tryz.ntmps7 rfl ?_;refine J1 ?_;intro br wz1 hS hBz1;refine jr ?_;refine jp (kT rfl SJ ?_);refine J1 ?_;intro bg wz2 hS hBz2;refine J1 ?_;intro wz3 hS;refine ja ?_;replace hS:St w _ ([(bg,29,[kd,kd]),(br,29,[kd,kd])]++[]):=hS;refine J1 ?_;refine jp (pC rfl rfl oO (r:=((n%4:Nat):Int)) (by exact oz _ 4) ?_);refine J1 ?_;refine jp (oU rfl rfl (r:=((m:Nat):Int)) (by exact oN _ ⟨oO,oO,oO⟩) ?_);refine J2 ?_;refine jb ?_;refine kx (λρ w'=>(ρ 2=vL/\ρ 3=vQ/\ρ 4=vD/\ρ 10=pB br/\ρ 11=pB bg/\ρ 12=iB m)/\∃vE LE,Gl kw 51 5 vE (ky m λk=>(oE cash k,kd,kd)) LE/\St w w' ([(bg,29,[vE,kd]),(br,29,[kd,kd])]++LE)) ?_ ?_
 ·refine ja ?_;refine ku (σ:=Nat) (λi ρ w'=>i<=m/\ρ 1=vC/\(ρ 2=vL/\ρ 3=vQ/\ρ 4=vD/\ρ 10=pB br/\ρ 11=pB bg/\ρ 12=iB m)/\ρ 13=iB i/\∃vE LE,Gl kw 51 5 vE (ky i λk=>(oE cash k,kd,kd)) LE/\St w w' ([(bg,29,[vE,kd]),(br,29,[kd,kd])]++LE)) (λi=>m-i) 0
   ⟨aB _,rfl,⟨rfl,rfl,rfl,rfl,rfl,rfl⟩,rfl,kd,[],Gl.nil _ _ _,hS⟩ ?_
  clear hS;rintro i ρ w3 ⟨hi,h1,⟨h2,h3,h4,h10,h11,h12⟩,h13,vE,LE,hG,hS⟩;have htl:=j9 i λk=>(oE cash k,kd,kd);refine V3 ?_;by_cases hlt:i<m
  ·refine Y1 ?_;refine jp (kT rfl Vo ?_);refine J1 ?_;intro be wz4 hS hBz4;refine J1 ?_;intro wz5 hS;refine ja ?_;replace hS:St w _ ([(be,51,kw (0,kd,kd)),(bg,29,[vE,kd]),(br,29,[kd,kd])]++LE):=hS.cast (by rw[<-TK];rfl);refine J2 ?_;refine jp (ki rfl (hC.j4 hS.j4) ⟨_,Tryz.underlying22⟩ ?_);refine J1 ?_;refine jb ?_;refine kx (λρ w'=>ρ 1=vC/\(ρ 2=vL/\ρ 3=vQ/\ρ 4=vD/\ρ 10=pB br/\ρ 11=pB bg/\ρ 12=iB m)/\ρ 13=iB i/\ρ 14=pB be/\St w w' ([(be,51,kw ((oE cash i),kd,kd)),(bg,29,[vE,kd]),(br,29,[kd,kd])]++LE)) ?_ ?_
   ·refine ja ?_;by_cases hic:i<cash.length
    ·refine V1 ?_;have hx:=hc _ (kE cash i 0 hic);refine J2 ?_;refine jp (kj (i:=i) rfl rfl (hC.j4 hS.j4) oO dO V0 (jq (kt (i:=i) 0 rfl pA (hC.j4 hS.j4) dO rfl rfl (.inr rfl) (jh (j6 Tryz.call20 rfl (xE (cash.getD i 0) _ hx) ?_)))));rintro r w5 ⟨rfl,hB5⟩;replace hS:=hS.km hB5;refine J2 ?_;intro wz6 hS;refine ja ?_;refine⟨_,rfl,jY,⟨jY,jY,jY,jY,jY,jY⟩,jY,rfl,?_⟩;rw[show oE cash i=oA (cash.getD i 0)from aj hic];exact hS
    ·refine V1 ?_;refine⟨_,rfl,jY,⟨jY,jY,jY,jY,jY,jY⟩,jY,rfl,?_⟩;rw[show oE cash i=0 from ah hic];exact hS
   clear hS h1 h2 h3 h4 h10 h11 h12 h13;rintro ρ w5 ⟨h1,⟨h2,h3,h4,h10,h11,h12⟩,h13,h14,hS⟩;obtain⟨aE,cE,hvE⟩:=hG.len;subst hvE;refine J3 ?_;refine jh (mD (vs:=[_]) rfl pP rfl dD dD dD (by simp[Value.cells,mY]) rfl hS ?_);intro b7 wz8 hS hBz8;refine jh (mf [(oE cash i,kd,kd)] rfl rfl pP dD hG hS rfl rfl mY (Jq _) dL dL ?_);intro va9 La9 wa9 hG hS hga9;obtain⟨aN,cN,hvN⟩:=hG.len;subst hvN;obtain⟨LN,hLN⟩:∃L,L=La9:=⟨_,rfl⟩;rw[<-hLN]at hG hS;refine J1 ?_;refine jh (nM (k:=1) rfl rfl oY hS rfl (by simp) rfl ?_);intro wz10 hS;refine ja ?_;rw[<-om i λk=>(oE cash k,kd,kd)]at hG hS;have hS9:St w _ ([(bg,29,[(.slice aN (ky (i+1) λk=>(oE cash k,kd,kd)).length cN),kd]),(br,29,[kd,kd])]++LN):=hS.drop (ab _ _);refine V3 ?_;exact⟨i+1,_,rfl,⟨hlt,jY,⟨jY,jY,jY,jY,jY,jY⟩,vi rfl oO,_,LN,hG,hS9⟩,oO⟩
  ·refine J1 ?_;refine jt ?_;obtain rfl:i=m:=oO;exact⟨_,rfl,⟨h2,h3,h4,h10,h11,h12⟩,vE,LE,hG,hS⟩
 clear hS;rintro ρ w3 ⟨⟨h2,h3,h4,h10,h11,h12⟩,vE,LE,hG,hS⟩;obtain⟨hX,⟨_,h0,_⟩|⟨bE,cE,sp,hv,hLE,k1,k2,k3⟩⟩:=hG
 ·rw[j9]at h0;omega
 rw[j9]at hv k1;rw[aG,lS mY,j9]at k3;subst hv hLE;obtain⟨vE,hvE⟩:=jz (Value.slice (some ⟨bE,0,none⟩) m cE);have hGE:∀ev:Nat->Value×Value,Gl kw 51 5 (Value.slice (some ⟨bE,0,none⟩) m cE) (ky m λi=>(oE cash i,ev i)) [(bE,51,(ky m λi=>(oE cash i,(ev) i)).flatMap kw++sp)]:=λev=>
  ⟨by rw[lS mY],.inr ⟨bE,cE,sp,by rw[j9],rfl,by rw[j9];exact k1,k2,by rw[aG,lS mY,j9];exact k3⟩⟩
 have hEs:∀(wx:World) (ev:Nat->Value×Value) (H:List kU),St w wx H->(bE,51,(ky m λi=>(oE cash i,(ev) i)).flatMap kw++sp)∈H->Sl kw 5 wx (Value.slice (some ⟨bE,0,none⟩) m cE) (ky m λi=>(oE cash i,ev i)):=λwx ev H h hm=>(hGE ev).sl (H:=[]) (h.drop (List.singleton_sublist.2 hm)) mY;replace hS:St w w3 ([(bg,29,[(Value.slice (some ⟨bE,0,none⟩) m cE),kd]),(br,29,[kd,kd])]++([(bE,51,(ky m λi=>(oE cash i,(λ_=>(kd,kd)) i)).flatMap kw++sp)]::ky m λ_=>[]).flatten):=by
  rw[List.flatten_cons,OL];exact hS
 refine J1 ?_;refine jp (ki rfl (hL.j4 hS.j4) ⟨_,Tryz.underlying23⟩ ?_);refine J1 ?_;refine jb ?_;refine kx (λρ w'=>(ρ 2=vL/\ρ 3=vQ/\ρ 4=vD/\ρ 10=pB br/\ρ 11=pB bg/\ρ 12=iB m)/\∃(ev:Nat->Value×Value) (LC:List (List kU)),(∀i,(ev i).2=kd)/\mr lZ 53 5 (ky m λi=>(ev i).1) (ky m (yt m L L.length)) LC/\St w w' ([(bg,29,[(Value.slice (some ⟨bE,0,none⟩) m cE),kd]),(br,29,[kd,kd])]++([(bE,51,(ky m λi=>(oE cash i,(ev) i)).flatMap kw++sp)]::LC).flatten)) ?_ ?_
 ·refine ja ?_;refine ku (σ:=Nat) (λj ρ w'=>j<=L.length/\(ρ 2=vL/\ρ 3=vQ/\ρ 4=vD/\ρ 10=pB br/\ρ 11=pB bg/\ρ 12=iB m)/\ρ 51=vL/\ρ 52=iB L.length/\ρ 53=iB j/\∃(ev:Nat->Value×Value) (LC:List (List kU)),(∀i,(ev i).2=kd)/\mr lZ 53 5 (ky m λi=>(ev i).1) (ky m (yt m L j)) LC/\St w w' ([(bg,29,[(Value.slice (some ⟨bE,0,none⟩) m cE),kd]),(br,29,[kd,kd])]++([(bE,51,(ky m λi=>(oE cash i,(ev) i)).flatMap kw++sp)]::LC).flatten)) (λj=>L.length-j) 0
   ⟨aB _,⟨h2,h3,h4,h10,h11,h12⟩,rfl,rfl,rfl,_,_,(λ_=>rfl),UX m L,hS⟩ ?_
  clear hS h2 h3 h4 h10 h11 h12;rintro j ρ w4 ⟨hj,⟨h2,h3,h4,h10,h11,h12⟩,h51,h52,h53,ev,LC,hev,hR,hS⟩;refine V1 ?_;by_cases hlt:j<L.length
  ·refine J1 ?_;refine jb ?_;obtain⟨c,hcd⟩:=jz (L.getD j z4);have hcx:=hl c (by rw[hcd];exact kE _ _ _ hlt);have hc0:=hcx 0 dD;have hc1:=hcx 1 dD;have hc2:=hcx 2 dD;have hc3:=hcx 3 dD;obtain⟨i,hi⟩:=jz (c 0%m);have him:i<m:=by rw[hi];exact bG _ oO
   refine kx (λρ w'=>(ρ 2=vL/\ρ 3=vQ/\ρ 4=vD/\ρ 10=pB br/\ρ 11=pB bg/\ρ 12=iB m)/\ρ 51=vL/\ρ 52=iB L.length/\ρ 53=iB j/\∃(ev:Nat->Value×Value) (LC:List (List kU)),(∀i,(ev i).2=kd)/\mr lZ 53 5 (ky m λi=>(ev i).1) (ky m (yt m L (j+1))) LC/\St w w' ([(bg,29,[(Value.slice (some ⟨bE,0,none⟩) m cE),kd]),(br,29,[kd,kd])]++([(bE,51,(ky m λi=>(oE cash i,(ev) i)).flatMap kw++sp)]::LC).flatten)) ?_ ?_
   ·refine jr ?_;refine jp (kj (i:=j) h51 h53 (hL.j4 hS.j4) oO dO UY (jq (kt (i:=j) z4 rfl zb (hL.j4 hS.j4) dO rfl rfl (.inl rfl) ?_)));refine J1 ?_;intro bc wz11 hS hBz11;refine J1 ?_;intro wz12 hS;refine ja ?_;rw[<-hcd]at hS;replace hS:St w _ ([(bc,69,yF c),(bg,29,[(Value.slice (some ⟨bE,0,none⟩) m cE),kd]),(br,29,[kd,kd])]++([(bE,51,(ky m λi=>(oE cash i,(ev) i)).flatMap kw++sp)]::LC).flatten):=hS;have hdr:([(bg,29,[(Value.slice (some ⟨bE,0,none⟩) m cE),kd]),(br,29,[kd,kd])]++([(bE,51,(ky m λi=>(oE cash i,(ev) i)).flatMap kw++sp)]::LC).flatten).Sublist ([(bc,69,yF c),(bg,29,[(Value.slice (some ⟨bE,0,none⟩) m cE),kd]),(br,29,[kd,kd])]++([(bE,51,(ky m λi=>(oE cash i,(ev) i)).flatMap kw++sp)]::LC).flatten):=ab _ _;have hGi:=hR.g i (by rw[j9];exact him);rw[kz _ _ him,kz _ _ him]at hGi;obtain⟨a1,c1,hv1⟩:=hGi.len;have h6:=Bg m L j i;obtain⟨C,hC⟩:=jz (yt m L j i);rw[<-hC]at hGi hv1 h6;have hel1:((ky m λi=>(oE cash i,ev i)).getD i pV).2.1=Value.slice a1 C.length c1:=by rw[kz _ _ him];exact hv1
    have hmem:(bE,51,(ky m λi=>(oE cash i,(ev) i)).flatMap kw++sp)∈([(bc,69,yF c),(bg,29,[(Value.slice (some ⟨bE,0,none⟩) m cE),kd]),(br,29,[kd,kd])]++([(bE,51,(ky m λi=>(oE cash i,(ev) i)).flatMap kw++sp)]::LC).flatten):=by simp
    have hte:=j9 m λi=>(oE cash i,ev i);refine jr ?_;refine jp (tY (n:=4) (i:=0) rfl rfl rfl dD Tryz.underlying69 pA ?_);refine J3 ?_;refine jp (pC rfl rfl oO (r:=((i:Nat):Int)) (by rw[hi];exact oz _ m) ?_);refine J4 ?_;refine jp (kj (i:=i) rfl rfl (hEs _ ev _ hS hmem) oO dO pP ?_);refine jp (oR rfl (nw (hEs _ ev _ hS hmem) (λ_=>rfl) dD dO) qb ?_);refine jq (oL (v:= .slice a1 C.length c1) (i:=i) (off:=3) pV rfl qh (hEs _ ev _ hS hmem) (λ_=>rfl) dD oO rfl (by rw[<-hel1];rfl) (.inr rfl) ?_);refine V2 ?_;by_cases hc6:6<=C.length
    ·refine J1 ?_;refine jt ?_;have e:ky m (yt m L (j+1))=ky m (yt m L j):=kF λk _=>by
      show(if _ then _ else _)=_;rw[ah (by rw[<-hcd,<-hi];rintro⟨e1,e2⟩;rw[<-e1,<-hC]at e2;omega)]
     exact⟨_,rfl,⟨jY,jY,jY,jY,jY,jY⟩,jY,jY,jY,ev,LC,hev,by rw[e];exact hR,hS.drop hdr⟩
    ·refine V1 ?_;obtain⟨h,hh⟩:=jz (c 1% (m+1));have hhm:h<m+1:=by rw[hh];exact bG _ oO
     refine jr ?_;refine jp (tY (n:=4) (i:=1) rfl rfl rfl dD Tryz.underlying69 pA ?_);refine J3 ?_;refine jp (oU rfl rfl (r:=((m+1:Nat):Int)) (by exact oN _ ⟨oO,oO,oO⟩) (jp (pC rfl rfl oO (r:=((h:Nat):Int)) (by rw[hh];exact oz _ (m+1)) ?_)));refine V1 ?_;refine kx (λρ w'=>((ρ 2=vL/\ρ 3=vQ/\ρ 4=vD/\ρ 10=pB br/\ρ 11=pB bg/\ρ 12=iB m)/\ρ 51=vL/\ρ 52=iB L.length/\ρ 53=iB j/\ρ 16=pB bc/\ρ 17=iB i)/\ρ 18=iB h/\ρ 83= .bool (decide (h=i\/m<=h))/\St w w' ([(bc,69,yF c),(bg,29,[(Value.slice (some ⟨bE,0,none⟩) m cE),kd]),(br,29,[kd,kd])]++([(bE,51,(ky m λi=>(oE cash i,(ev) i)).flatMap kw++sp)]::LC).flatten)) ?_ ?_
     ·by_cases e1:h=i
      ·refine J4 ?_;refine kL (ka 79 kR rfl dT) (kL (ka 79 kR rfl dT) (kL (ka 79 kR rfl dT) (jp (kA (vb rfl dT) rfl ?_))));refine ja ?_;exact⟨_,rfl,⟨⟨jY,jY,jY,jY,jY,jY⟩,jY,jY,jY,by first|assumption|rfl,by first|assumption|rfl⟩,rfl,vb rfl (ao (.inl e1)).symm,hS⟩
      ·refine J4 ?_;refine ke (j7 79 kR rfl dF) (ko rfl (ke (j7 79 kR rfl dF) (ko h12 (ke (j7 79 kR rfl dF) (yX rfl rfl (jp (kA (vb rfl dF) rfl ?_)))))));refine ja ?_;exact⟨_,rfl,⟨⟨jY,jY,jY,jY,jY,jY⟩,jY,jY,jY,by first|assumption|rfl,by first|assumption|rfl⟩,rfl,vb rfl (by rw[en];omega),hS⟩
     clear hS h2 h3 h4 h10 h11 h12 h51 h52 h53;rintro ρ w6 ⟨⟨⟨h2,h3,h4,h10,h11,h12⟩,h51,h52,h53,h16,h17⟩,h18,h83,hS⟩;obtain⟨x,hx⟩:=jz (T4 m c);have hxh:x.h=if h=i\/m<=h then-1 else(h:Int):=by rw[hx,hh,hi];rfl
     refine ja ?_;refine kx (λρ w'=>((ρ 2=vL/\ρ 3=vQ/\ρ 4=vD/\ρ 10=pB br/\ρ 11=pB bg/\ρ 12=iB m)/\ρ 51=vL/\ρ 52=iB L.length/\ρ 53=iB j/\ρ 16=pB bc/\ρ 17=iB i)/\ρ 18=iB x.h/\St w w' ([(bc,69,yF c),(bg,29,[(Value.slice (some ⟨bE,0,none⟩) m cE),kd]),(br,29,[kd,kd])]++([(bE,51,(ky m λi=>(oE cash i,(ev) i)).flatMap kw++sp)]::LC).flatten)) ?_ ?_
     ·by_cases e1:h=i\/m<=h
      ·refine k9 h83 (ao e1) ?_;refine V1 ?_;exact⟨_,rfl,⟨⟨jY,jY,jY,jY,jY,jY⟩,jY,jY,jY,by first|assumption|rfl,by first|assumption|rfl⟩,vi rfl (by rw[hxh,aj e1]),hS⟩
      ·refine lx h83 (ae e1) ?_;refine ja ?_;exact⟨_,rfl,⟨⟨jY,jY,jY,jY,jY,jY⟩,jY,jY,jY,by first|assumption|rfl,by first|assumption|rfl⟩,by rw[hxh,ah e1];assumption,hS⟩
     clear hS h2 h3 h4 h10 h11 h12 h51 h52 h53 h16 h17 h18 h83;rintro ρ w6 ⟨⟨⟨h2,h3,h4,h10,h11,h12⟩,h51,h52,h53,h16,h17⟩,h18,hS⟩;have hlc:=hR.ln;rw[j9]at hlc;have hLi:([(bE,51,(ky m λi=>(oE cash i,(ev) i)).flatMap kw++sp)]::LC)[i+1]?=some (LC.getD i []):=by rw[List.getElem?_cons_succ];exact Fv [] (show i<LC.length by omega)
     have hS9:=m9 (P:=[(bc,69,yF c),(bg,29,[(Value.slice (some ⟨bE,0,none⟩) m cE),kd]),(br,29,[kd,kd])]) hS hLi;clear hS;have hS:St w _ (([(bc,69,yF c),(bg,29,[(Value.slice (some ⟨bE,0,none⟩) m cE),kd]),(br,29,[kd,kd])]++([(bE,51,(ky m λi=>(oE cash i,(ev) i)).flatMap kw++sp)]::LC.set i []).flatten)++LC.getD i []):=hS9;clear hS9;have hxv:lZ x= #[.int .i64 x.h,.int .i64 ((c 2%3:Nat):Int),.bool (j8 (oA (c 3))).neg,.string (j8 (oA (c 3))).num,.string (j8 (oA (c 3))).den].toList:=by rw[hx];rfl
     rw[hv1]at hGi;have hcl:yt m L (j+1)=λk=>if k=i then C++[x]else yt m L j k:=by
      funext k;show(if _ then _ else _)=_;rw[<-hcd,<-hi];by_cases e:k=i
      ·rw[aj e,aj ⟨e.symm,by rw[e,<-hC];omega⟩,e,<-hC,hx]
      ·rw[ah e,ah (λh=>e h.1.symm)]
     refine ja ?_;refine C1 23 [jo 0,jv 1,jo 2,jo 3,ju 4,jo 5,jo 6,jo 7,ju 8,jo 9,jo 10,ju 11,jo 12,jo 13,jo 14,ju 15,jv 16,jo 17,jv 18,jw 19,jo 20,jo 21,jw 22] kR kR hS ?_;intro wz13 hS hBz13;refine kQ (i:=0) (U':=[jv 1,jo 2,jo 3,ju 4,jo 5,jo 6,jo 7,ju 8,jo 9,jo 10,ju 11,jo 12,jo 13,jo 14,ju 15,jv 16,jo 17,jv 18,jw 19,jo 20,jo 21,jw 22]) kR kR rfl rfl (lC h11 rA (kQ (i:=2) (U':=[jv 1,jo 3,ju 4,jo 5,jo 6,jo 7,ju 8,jo 9,jo 10,ju 11,jo 12,jo 13,jo 14,ju 15,jv 16,jo 17,jv 18,jw 19,jo 20,jo 21,jw 22]) kR kR rfl rfl (ko h17 (kQ (i:=3) (U':=[jv 1,ju 4,jo 5,jo 6,jo 7,ju 8,jo 9,jo 10,ju 11,jo 12,jo 13,jo 14,ju 15,jv 16,jo 17,jv 18,jw 19,jo 20,jo 21,jw 22]) kR kR rfl rfl (lC h11 rA (pL (i:=4) (U':=[jv 1,jo 5,jo 6,jo 7,ju 8,jo 9,jo 10,ju 11,jo 12,jo 13,jo 14,ju 15,jv 16,jo 17,jv 18,jw 19,jo 20,jo 21,jw 22]) kR kR rfl rfl (kO (k:=1) rfl oY hS rfl rfl rfl (.inr rfl) (kQ (i:=5) (U':=[jv 1,jo 6,jo 7,ju 8,jo 9,jo 10,ju 11,jo 12,jo 13,jo 14,ju 15,jv 16,jo 17,jv 18,jw 19,jo 20,jo 21,jw 22]) kR kR rfl rfl (ko h17 (kQ (i:=6) (U':=[jv 1,jo 7,ju 8,jo 9,jo 10,ju 11,jo 12,jo 13,jo 14,ju 15,jv 16,jo 17,jv 18,jw 19,jo 20,jo 21,jw 22]) kR kR rfl rfl (kj (i:=i) rfl rfl (hEs _ ev _ hS (by simp)) oO dO pP ?_)))))))))));refine kQ (i:=7) (U':=[jv 1,ju 8,jo 9,jo 10,ju 11,jo 12,jo 13,jo 14,ju 15,jv 16,jo 17,jv 18,jw 19,jo 20,jo 21,jw 22]) kR kR rfl rfl (oR rfl (nw (hEs _ ev _ hS (by simp)) (λ_=>rfl) dD dO) qb ?_);refine pL (i:=8) (U':=[jv 1,jo 9,jo 10,ju 11,jo 12,jo 13,jo 14,ju 15,jv 16,jo 17,jv 18,jw 19,jo 20,jo 21,jw 22]) kR kR rfl rfl (oL (v:= .slice a1 C.length c1) (i:=i) (off:=3) pV rfl qh (hEs _ ev _ hS (by simp)) (λ_=>rfl) dD oO rfl (by rw[<-hel1];rfl) (.inr rfl) ?_);refine kQ (i:=9) (U':=[jv 1,jo 10,ju 11,jo 12,jo 13,jo 14,ju 15,jv 16,jo 17,jv 18,jw 19,jo 20,jo 21,jw 22]) kR kR rfl rfl (ko h18 (kQ (i:=10) (U':=[jv 1,ju 11,jo 12,jo 13,jo 14,ju 15,jv 16,jo 17,jv 18,jw 19,jo 20,jo 21,jw 22]) kR kR rfl rfl (tY (n:=4) (i:=2) h16 rfl rfl dD Tryz.underlying69 pA (pL (i:=11) (U':=[jv 1,jo 12,jo 13,jo 14,ju 15,jv 16,jo 17,jv 18,jw 19,jo 20,jo 21,jw 22]) kR kR rfl rfl (kO (k:=0) rfl pA hS rfl rfl rfl (.inr rfl) (kQ (i:=12) (U':=[jv 1,jo 13,jo 14,ju 15,jv 16,jo 17,jv 18,jw 19,jo 20,jo 21,jw 22]) kR kR rfl rfl (pC rfl rfl oO (r:=((c 2%3:Nat):Int)) (by exact oz _ 3) (kQ (i:=13) (U':=[jv 1,jo 14,ju 15,jv 16,jo 17,jv 18,jw 19,jo 20,jo 21,jw 22]) kR kR rfl rfl (kH rfl Tryz.underlying3 ⟨_,Tryz.underlying25⟩ (cF _ oO) (kQ (i:=14) (U':=[jv 1,ju 15,jv 16,jo 17,jv 18,jw 19,jo 20,jo 21,jw 22]) kR kR rfl rfl (tY (n:=4) (i:=3) h16 rfl rfl dD Tryz.underlying69 pA (pL (i:=15) (U':=[jv 1,jv 16,jo 17,jv 18,jw 19,jo 20,jo 21,jw 22]) kR kR rfl rfl (kO (k:=0) rfl pA hS rfl rfl rfl (.inr rfl) ?_)))))))))))));refine qK (x:=jv 1) (y:=jv 16) (U':=[jv 16,jo 17,jv 18,jw 19,jo 20,jo 21,jw 22]) (U'':=[jv 1,jo 17,jv 18,jw 19,jo 20,jo 21,jw 22]) kR kR kR ?_ ?_
     ·refine kM rfl rfl (qn (kO (k:=1) rfl oY hS rfl rfl rfl (.inr rfl) ?_));refine⟨Below.refl _ _,?_⟩;refine kV (x:=jv 16) (U':=[jo 17,jv 18,jw 19,jo 20,jo 21,jw 22]) kR kR (kM rfl rfl (j6 Tryz.call20 rfl (xE (c 3) _ hc3) ?_));rintro r w7 ⟨rfl,hB7⟩;refine⟨hB7,?_⟩;replace hS:=hS.km hB7;refine kQ (i:=17) (U':=[jv 18,jw 19,jo 20,jo 21,jw 22]) kR kR rfl rfl (kT rfl (xg _ _ _) (kV (x:=jv 18) (U':=[jw 19,jo 20,jo 21,jw 22]) kR kR (kM rfl rfl (mD (vs:=[_]) rfl qO rfl dD dD dD (by simp[Value.cells]) rfl hS ?_))));intro bx wz14 hS hBz14;refine⟨hBz14,?_⟩;rw[show([Value.agg #[.int .i64 x.h,.int .i64 ((c 2%3:Nat):Int),.bool (j8 (oA (c 3))).neg,.string (j8 (oA (c 3))).num,.string (j8 (oA (c 3))).den]]).flatMap (λv=>v.cells.toList)=[x].flatMap lZ from(by rw[cK,cK,hxv];rfl)]at hS;refine kV (x:=jw 19) (U':=[jo 20,jo 21,jw 22]) kR kR (lh rfl rfl (mf [x] rfl rfl qO dD hGi hS rfl rfl o4 (uI [x]) dL dL ?_));intro va15 La15 wa15 hGi hS hga15;obtain⟨aX,cX,hvX⟩:=hGi.len;subst hvX;obtain⟨LN,hLN⟩:=jz La15;rw[<-hLN]at hGi hS;refine kQ (i:=20) (U':=[jo 21,jw 22]) kR kR rfl rfl (kD (i:=i) rfl rfl oO dO pP (kQ (i:=21) (U':=[jw 22]) kR kR rfl rfl (lC rfl qb (kV (x:=jw 22) (U':=[]) kR kR (lh rfl rfl (Hn (k:=3) (i:=i) (off:=3) pV (oE cash i,.slice aX (C++[x]).length cX,(ev i).2) mY rfl rfl qh hS rfl oO (by rw[j9];exact him) rfl rfl dD (by rw[kz _ _ him];rfl) rfl ?_))))));intro wz16 hS;refine nk ?_;refine ja ?_;obtain⟨ev',LC',f1,f2,f3⟩:=xH (P:=[(bc,69,yF c),(bg,29,[(Value.slice (some ⟨bE,0,none⟩) m cE),kd]),(br,29,[kd,kd])]) hev hR him hcl hGi hS;exact⟨_,rfl,⟨jY,jY,jY,jY,jY,jY⟩,jY,jY,jY,ev',LC',f1,f2,f3.drop (ab _ _)⟩
     ·refine kM rfl rfl (j6 Tryz.call20 rfl (xE (c 3) _ hc3) ?_);rintro r w7 ⟨rfl,hB7⟩;refine⟨hB7,?_⟩;replace hS:=hS.km hB7;refine kQ (i:=17) (U':=[jv 1,jv 18,jw 19,jo 20,jo 21,jw 22]) kR kR rfl rfl (kT rfl (xg _ _ _) ?_);refine qK (x:=jv 1) (y:=jv 18) (U':=[jv 18,jw 19,jo 20,jo 21,jw 22]) (U'':=[jv 1,jw 19,jo 20,jo 21,jw 22]) kR kR kR ?_ ?_
      ·refine kM rfl rfl (qn (kO (k:=1) rfl oY hS rfl rfl rfl (.inr rfl) ?_));refine⟨Below.refl _ _,?_⟩;refine kV (x:=jv 18) (U':=[jw 19,jo 20,jo 21,jw 22]) kR kR (kM rfl rfl (mD (vs:=[_]) rfl qO rfl dD dD dD (by simp[Value.cells]) rfl hS ?_));intro bx wz17 hS hBz17;refine⟨hBz17,?_⟩;rw[show([Value.agg #[.int .i64 x.h,.int .i64 ((c 2%3:Nat):Int),.bool (j8 (oA (c 3))).neg,.string (j8 (oA (c 3))).num,.string (j8 (oA (c 3))).den]]).flatMap (λv=>v.cells.toList)=[x].flatMap lZ from(by rw[cK,cK,hxv];rfl)]at hS;refine kV (x:=jw 19) (U':=[jo 20,jo 21,jw 22]) kR kR (lh rfl rfl (mf [x] rfl rfl qO dD hGi hS rfl rfl o4 (uI [x]) dL dL ?_));intro va18 La18 wa18 hGi hS hga18;obtain⟨aX,cX,hvX⟩:=hGi.len;subst hvX;obtain⟨LN,hLN⟩:=jz La18;rw[<-hLN]at hGi hS;refine kQ (i:=20) (U':=[jo 21,jw 22]) kR kR rfl rfl (kD (i:=i) rfl rfl oO dO pP (kQ (i:=21) (U':=[jw 22]) kR kR rfl rfl (lC rfl qb (kV (x:=jw 22) (U':=[]) kR kR (lh rfl rfl (Hn (k:=3) (i:=i) (off:=3) pV (oE cash i,.slice aX (C++[x]).length cX,(ev i).2) mY rfl rfl qh hS rfl oO (by rw[j9];exact him) rfl rfl dD (by rw[kz _ _ him];rfl) rfl ?_))))));intro wz19 hS;refine nk ?_;refine ja ?_;obtain⟨ev',LC',f1,f2,f3⟩:=xH (P:=[(bc,69,yF c),(bg,29,[(Value.slice (some ⟨bE,0,none⟩) m cE),kd]),(br,29,[kd,kd])]) hev hR him hcl hGi hS;exact⟨_,rfl,⟨jY,jY,jY,jY,jY,jY⟩,jY,jY,jY,ev',LC',f1,f2,f3.drop (ab _ _)⟩
      ·refine kM rfl rfl (mD (vs:=[_]) rfl qO rfl dD dD dD (by simp[Value.cells]) rfl hS ?_);intro bx wz20 hS hBz20;refine⟨hBz20,?_⟩;rw[show([Value.agg #[.int .i64 x.h,.int .i64 ((c 2%3:Nat):Int),.bool (j8 (oA (c 3))).neg,.string (j8 (oA (c 3))).num,.string (j8 (oA (c 3))).den]]).flatMap (λv=>v.cells.toList)=[x].flatMap lZ from(by rw[cK,cK,hxv];rfl)]at hS;refine qK (x:=jv 1) (y:=jw 19) (U':=[jw 19,jo 20,jo 21,jw 22]) (U'':=[jv 1,jo 20,jo 21,jw 22]) kR kR kR ?_ ?_
       ·refine kM rfl rfl (qn (kO (k:=2) rfl oY hS rfl rfl rfl (.inr rfl) ?_));refine⟨Below.refl _ _,?_⟩;refine kV (x:=jw 19) (U':=[jo 20,jo 21,jw 22]) kR kR (lh rfl rfl (mf [x] rfl rfl qO dD hGi hS rfl rfl o4 (uI [x]) dL dL ?_));intro va21 La21 wa21 hGi hS hga21;obtain⟨aX,cX,hvX⟩:=hGi.len;subst hvX;obtain⟨LN,hLN⟩:=jz La21;rw[<-hLN]at hGi hS;refine kQ (i:=20) (U':=[jo 21,jw 22]) kR kR rfl rfl (kD (i:=i) rfl rfl oO dO pP (kQ (i:=21) (U':=[jw 22]) kR kR rfl rfl (lC rfl qb (kV (x:=jw 22) (U':=[]) kR kR (lh rfl rfl (Hn (k:=3) (i:=i) (off:=3) pV (oE cash i,.slice aX (C++[x]).length cX,(ev i).2) mY rfl rfl qh hS rfl oO (by rw[j9];exact him) rfl rfl dD (by rw[kz _ _ him];rfl) rfl ?_))))));intro wz22 hS;refine nk ?_;refine ja ?_;obtain⟨ev',LC',f1,f2,f3⟩:=xH (P:=[(bc,69,yF c),(bg,29,[(Value.slice (some ⟨bE,0,none⟩) m cE),kd]),(br,29,[kd,kd])]) hev hR him hcl hGi hS;exact⟨_,rfl,⟨jY,jY,jY,jY,jY,jY⟩,jY,jY,jY,ev',LC',f1,f2,f3.drop (ab _ _)⟩
       ·refine lh rfl rfl (mf [x] rfl rfl qO dD hGi hS rfl rfl o4 (uI [x]) dL dL ?_);intro va23 La23 wa23 hGi hS hga23;obtain⟨aX,cX,hvX⟩:=hGi.len;subst hvX;obtain⟨LN,hLN⟩:=jz La23;rw[<-hLN]at hGi hS;refine kV (x:=jv 1) (U':=[jo 20,jo 21,jw 22]) kR kR (kM rfl rfl (qn (kO (k:=1) rfl oY hS rfl rfl rfl (.inr rfl) ?_)));refine⟨Below.refl _ _,?_⟩;refine kQ (i:=20) (U':=[jo 21,jw 22]) kR kR rfl rfl (kD (i:=i) rfl rfl oO dO pP (kQ (i:=21) (U':=[jw 22]) kR kR rfl rfl (lC rfl qb (kV (x:=jw 22) (U':=[]) kR kR (lh rfl rfl (Hn (k:=3) (i:=i) (off:=3) pV (oE cash i,.slice aX (C++[x]).length cX,(ev i).2) mY rfl rfl qh hS rfl oO (by rw[j9];exact him) rfl rfl dD (by rw[kz _ _ him];rfl) rfl ?_))))));intro wz24 hS;refine nk ?_;refine ja ?_;obtain⟨ev',LC',f1,f2,f3⟩:=xH (P:=[(bc,69,yF c),(bg,29,[(Value.slice (some ⟨bE,0,none⟩) m cE),kd]),(br,29,[kd,kd])]) hev hR him hcl hGi hS;exact⟨_,rfl,⟨jY,jY,jY,jY,jY,jY⟩,jY,jY,jY,ev',LC',f1,f2,f3.drop (ab _ _)⟩
   clear hS h2 h3 h4 h10 h11 h12 h51 h52 h53;rintro ρ w6 ⟨⟨h2,h3,h4,h10,h11,h12⟩,h51,h52,h53,ev,LC,hev,hR,hS⟩;refine V2 ?_;exact⟨j+1,_,rfl,⟨hlt,⟨jY,jY,jY,jY,jY,jY⟩,jY,jY,vi rfl oO,ev,LC,hev,hR,hS⟩,oO⟩
  ·refine J1 ?_;refine jt ?_;obtain rfl:j=L.length:=oO;exact⟨_,rfl,⟨h2,h3,h4,h10,h11,h12⟩,ev,LC,hev,hR,hS⟩
 clear hS h2 h3 h4 h10 h11 h12;rintro ρ w4 ⟨⟨h2,h3,h4,h10,h11,h12⟩,ev,LC,hev,hR,hS⟩;obtain⟨cl,hcl⟩:=jz (yt m L L.length);have hc6:∀i,(cl i).length<=6:=λi=>by rw[hcl];exact Bg m L L.length i
 rw[<-hcl]at hR;obtain⟨nC,hnC⟩:∃nC:Nat->Nat,nC=λi=>(cl i).length:=⟨_,rfl⟩;have hst9:(∀i,i<m->([]:List Value).length=(uE m nC Q 0 i).length/\([]:List (List Value)).length=(uE m nC Q 0 i).length/\Is [] (ev i).2 (uE m nC Q 0 i) [] []):=λi _=>⟨rfl,rfl,by
  rw[hev i];exact⟨λwz wx _=>⟨rfl,Sl.nil _ _ _,λk hk=>absurd hk (aW _)⟩⟩⟩
 replace hS:St w w4 ([(bg,29,[(Value.slice (some ⟨bE,0,none⟩) m cE),kd]),(br,29,[kd,kd])]++([(bE,51,(ky m λi=>(oE cash i,(ev) i)).flatMap kw++sp)]::[]::LC).flatten):=hS;refine J1 ?_;refine jp (ki rfl (hQ.j4 hS.j4) ⟨_,Tryz.underlying24⟩ ?_);refine J1 ?_;refine jb ?_;refine kx (λρ w'=>(ρ 2=vL/\ρ 3=vQ/\ρ 4=vD/\ρ 10=pB br/\ρ 11=pB bg/\ρ 12=iB m)/\∃(ev:Nat->Value×Value) (DA:List kU) (av:Nat->List Value) (pv:Nat->List (List Value)),(∀i,i<m->(av i).length=(uE m nC Q Q.length i).length/\(pv i).length=(uE m nC Q Q.length i).length/\Is DA (ev i).2 (uE m nC Q Q.length i) (av i) (pv i))/\mr lZ 53 5 (ky m λi=>(ev i).1) (ky m cl) LC/\St w w' ([(bg,29,[(Value.slice (some ⟨bE,0,none⟩) m cE),kd]),(br,29,[kd,kd])]++([(bE,51,(ky m λi=>(oE cash i,(ev) i)).flatMap kw++sp)]::DA::LC).flatten)) ?_ ?_
 ·refine ja ?_;refine ku (σ:=Nat) (λj ρ w'=>j<=Q.length/\(ρ 2=vL/\ρ 3=vQ/\ρ 4=vD/\ρ 10=pB br/\ρ 11=pB bg/\ρ 12=iB m)/\ρ 107=vQ/\ρ 108=iB Q.length/\ρ 109=iB j/\∃(ev:Nat->Value×Value) (DA:List kU) (av:Nat->List Value) (pv:Nat->List (List Value)),(∀i,i<m->(av i).length=(uE m nC Q j i).length/\(pv i).length=(uE m nC Q j i).length/\Is DA (ev i).2 (uE m nC Q j i) (av i) (pv i))/\mr lZ 53 5 (ky m λi=>(ev i).1) (ky m cl) LC/\St w w' ([(bg,29,[(Value.slice (some ⟨bE,0,none⟩) m cE),kd]),(br,29,[kd,kd])]++([(bE,51,(ky m λi=>(oE cash i,(ev) i)).flatMap kw++sp)]::DA::LC).flatten)) (λj=>Q.length-j) 0
   ⟨aB _,⟨h2,h3,h4,h10,h11,h12⟩,rfl,rfl,rfl,ev,[],(λ_=>[]),(λ_=>[]),hst9,hR,hS⟩ ?_
  clear hS h2 h3 h4 h10 h11 h12 hst9 hev hR;clear ev;rintro j ρ w4 ⟨hj,⟨h2,h3,h4,h10,h11,h12⟩,h107,h108,h109,ev,DA,av,pv,hPA,hR,hS⟩;refine V1 ?_;by_cases hlt:j<Q.length
  ·refine J1 ?_;refine jb ?_;obtain⟨p,hpd⟩:=jz (Q.getD j z4);have hpx:=hq p (by rw[hpd];exact kE _ _ _ hlt);have hp0:=hpx 0 dD;obtain⟨i,hi⟩:=jz (p 0%m);have him:i<m:=by rw[hi];exact bG _ oO
   refine kx (λρ w'=>(ρ 2=vL/\ρ 3=vQ/\ρ 4=vD/\ρ 10=pB br/\ρ 11=pB bg/\ρ 12=iB m)/\ρ 107=vQ/\ρ 108=iB Q.length/\ρ 109=iB j/\∃(ev:Nat->Value×Value) (DA:List kU) (av:Nat->List Value) (pv:Nat->List (List Value)),(∀i,i<m->(av i).length=(uE m nC Q (j+1) i).length/\(pv i).length=(uE m nC Q (j+1) i).length/\Is DA (ev i).2 (uE m nC Q (j+1) i) (av i) (pv i))/\mr lZ 53 5 (ky m λi=>(ev i).1) (ky m cl) LC/\St w w' ([(bg,29,[(Value.slice (some ⟨bE,0,none⟩) m cE),kd]),(br,29,[kd,kd])]++([(bE,51,(ky m λi=>(oE cash i,(ev) i)).flatMap kw++sp)]::DA::LC).flatten)) ?_ ?_
   ·refine jr ?_;refine jp (kj (i:=j) h107 h109 (hQ.j4 hS.j4) oO dO Sg (jq (kt (i:=j) z4 rfl x3 (hQ.j4 hS.j4) dO rfl rfl (.inl rfl) ?_)));refine J1 ?_;intro bc wz25 hS hBz25;refine J1 ?_;intro wz26 hS;refine ja ?_;rw[<-hpd]at hS;replace hS:St w _ ((bc,70,oW p)::[(bg,29,[(Value.slice (some ⟨bE,0,none⟩) m cE),kd]),(br,29,[kd,kd])]++([(bE,51,(ky m λi=>(oE cash i,(ev) i)).flatMap kw++sp)]::DA::LC).flatten):=hS;have hGi:=hR.g i (by rw[j9];exact him);rw[kz _ _ him,kz _ _ him]at hGi;obtain⟨a1,c1,hv1⟩:=hGi.len;have hci:=hc6 i;obtain⟨l1,l2,hPi⟩:=hPA i him;have hlA:=Ko m nC Q j i;obtain⟨A,hA⟩:=jz (uE m nC Q j i);rw[<-hA]at l1 l2 hPi hlA;have hDs:DA.Sublist ((bc,70,oW p)::[(bg,29,[(Value.slice (some ⟨bE,0,none⟩) m cE),kd]),(br,29,[kd,kd])]++([(bE,51,(ky m λi=>(oE cash i,(ev) i)).flatMap kw++sp)]::DA::LC).flatten):=((ak DA LC.flatten).trans (ai [(bE,51,(ky m λi=>(oE cash i,(ev) i)).flatMap kw++sp)] _)).trans (ai _ _);have hAg:=hPi.g _ _ (hS.drop hDs);obtain⟨a2,c2,hv2,_⟩:=hAg.sl.form;rw[l1]at hv2;have hev2:ev i=(.slice a1 (cl i).length c1,.slice a2 A.length c2):=Prod.ext hv1 hv2;have hel:((ky m λi=>(oE cash i,ev i)).getD i pV)=(oE cash i,Value.slice a1 (cl i).length c1,Value.slice a2 A.length c2):=by rw[kz _ _ him,hev2]
    have hte:=j9 m λi=>(oE cash i,ev i);refine jr ?_;refine jp (tY (n:=3) (i:=0) rfl rfl rfl dD Tryz.underlying70 pA ?_);refine J3 ?_;refine jp (pC rfl rfl oO (r:=((i:Nat):Int)) (by rw[hi];exact oz _ m) ?_);refine J4 ?_;refine jp (kj (i:=i) rfl rfl (hEs _ ev _ hS (by simp)) oO dO pP ?_);refine jp (oR rfl (nw (hEs _ ev _ hS (by simp)) (λ_=>rfl) dD dO) BH ?_);refine jq (oL (v:= .slice a2 A.length c2) (i:=i) (off:=4) pV rfl ud (hEs _ ev _ hS (by simp)) (λ_=>rfl) dD oO rfl (by rw[hel];rfl) (.inr rfl) ?_);refine J2 ?_;refine jb ?_;by_cases hA2:A.length<2
    ·refine V1 ?_;have hag:∀k,uE m nC Q (j+1) k=if k=i then uE m nC Q j i++[wS A (nC i) p]else uE m nC Q j k:=λk=>by
      show(if _ then _ else _)=_;rw[<-hpd,<-hi];by_cases e:k=i
      ·rw[aj e,aj ⟨e.symm,by rw[e,<-hA];exact hA2⟩,e,<-hA]
      ·rw[ah e,ah (λh=>e h.1.symm)]
     have hni:nC i=(cl i).length:=by rw[hnC]
     rw[hv2]at hPi;refine ja ?_;refine kC [jo 0,ju 1,jo 2,jo 3,ju 4,jo 5,jo 6,ju 7,ju 8,jv 9,jo 10,jo 11,jw 12] kR kR hS ?_;intro wz27 hS hBz27;refine J6 ?_;refine jl rfl (kj (i:=i) rfl rfl (hEs _ ev _ hS (by simp)) oO dO pP (jm rfl (kt (v:=Mz (oE cash i) (.slice a1 (cl i).length c1) (.slice a2 A.length c2)) (i:=i) pV rfl sZ (hEs _ ev _ hS (by simp)) oO rfl (by rw[hel];rfl) (.inl rfl) ?_)));refine J1 ?_;refine jn rfl (j6 Tryz.call21 rfl (Pi (oE cash i) a1 (cl i).length c1 _ A (av i) (pv i) p _ (hPi.g _ _ (hS.drop hDs)) oO hpx oO) ?_);rintro r w5 ⟨x,vs,LO,D2,hGr,hMt,hS5⟩;refine⟨hS5.j4,?_⟩;replace hS:=(hS.join hS5).perm aF;obtain⟨aR,cR,hvr⟩:=hGr.len;subst hvr;refine jl rfl (kD (i:=i) rfl rfl oO dO pP ?_);refine J1 ?_;refine jx rfl (Hn (k:=3) (i:=i) (off:=4) pV (oE cash i,(ev i).1,.slice aR (av i++[x]).length cR) mY rfl rfl ud hS rfl oO (by rw[j9];exact him) rfl rfl dD (by rw[kz _ _ him];rfl) rfl ?_);intro wz28 hS;refine ja ?_;rw[<-hni]at hMt;obtain⟨ev',DA',av',pv',f1,f2,f3⟩:=QP (P:=(bc,70,oW p)::[(bg,29,[(Value.slice (some ⟨bE,0,none⟩) m cE),kd]),(br,29,[kd,kd])]) hPA hR him hag hGr hMt hS;exact⟨_,rfl,⟨jY,jY,jY,jY,jY,jY⟩,jY,jY,jY,ev',DA',av',pv',f1,f2,f3.drop (ab _ _)⟩
    ·refine V1 ?_;have e:∀k,uE m nC Q (j+1) k=uE m nC Q j k:=λk=>by
      show(if _ then _ else _)=_;rw[ah (by rw[<-hpd,<-hi];rintro⟨e1,e2⟩;rw[<-e1,<-hA]at e2;exact hA2 e2)]
     exact⟨_,rfl,⟨jY,jY,jY,jY,jY,jY⟩,jY,jY,jY,ev,DA,av,pv,(λk hk=>by rw[e k];exact hPA k hk),hR,hS.drop (ab _ _)⟩
   clear hS h2 h3 h4 h10 h11 h12 h107 h108 h109;rintro ρ w6 ⟨⟨h2,h3,h4,h10,h11,h12⟩,h107,h108,h109,ev,DA,av,pv,hPA,hR,hS⟩;refine V2 ?_;exact⟨j+1,_,rfl,⟨hlt,⟨jY,jY,jY,jY,jY,jY⟩,jY,jY,vi rfl oO,ev,DA,av,pv,hPA,hR,hS⟩,oO⟩
  ·refine J1 ?_;refine jt ?_;obtain rfl:j=Q.length:=oO;exact⟨_,rfl,⟨h2,h3,h4,h10,h11,h12⟩,ev,DA,av,pv,hPA,hR,hS⟩
 clear hS h2 h3 h4 h10 h11 h12 hst9 hR hev;clear ev;rintro ρ w4 ⟨⟨h2,h3,h4,h10,h11,h12⟩,ev,DA,av,pv,hPA,hR,hS⟩;have hPA2:=λi hi=>(hPA i hi).2.2;clear hPA;refine J1 ?_;refine jp (ki rfl (hD.j4 hS.j4) ⟨_,Tryz.underlying24⟩ ?_);refine J1 ?_;refine jb ?_;refine kx (λρ w'=>(ρ 2=vL/\ρ 3=vQ/\ρ 4=vD/\ρ 10=pB br/\ρ 11=pB bg/\ρ 12=iB m)/\∃(vY:Value) (DA:List kU) (dv:List Value),T8 DA vY (Gg m cl D D.length) dv/\(∀i,i<m->Is DA (ev i).2 (uE m nC Q Q.length i) (av i) (pv i))/\St w w' ([(bg,29,[(Value.slice (some ⟨bE,0,none⟩) m cE),vY]),(br,29,[kd,kd])]++([(bE,51,(ky m λi=>(oE cash i,(ev) i)).flatMap kw++sp)]::DA::LC).flatten)) ?_ ?_
 ·refine ja ?_;refine ku (σ:=Nat) (λj ρ w'=>j<=D.length/\(ρ 2=vL/\ρ 3=vQ/\ρ 4=vD/\ρ 10=pB br/\ρ 11=pB bg/\ρ 12=iB m)/\ρ 139=vD/\ρ 140=iB D.length/\ρ 141=iB j/\∃(vY:Value) (DA:List kU) (dv:List Value),T8 DA vY (Gg m cl D j) dv/\(∀i,i<m->Is DA (ev i).2 (uE m nC Q Q.length i) (av i) (pv i))/\St w w' ([(bg,29,[(Value.slice (some ⟨bE,0,none⟩) m cE),vY]),(br,29,[kd,kd])]++([(bE,51,(ky m λi=>(oE cash i,(ev) i)).flatMap kw++sp)]::DA::LC).flatten)) (λj=>D.length-j) 0
   ⟨aB _,⟨h2,h3,h4,h10,h11,h12⟩,rfl,rfl,rfl,kd,DA,[],⟨rfl,λwz wx _=>⟨Sl.nil _ _ _,λk hk=>absurd hk (aW _)⟩⟩,hPA2,hS⟩ ?_
  clear hS h2 h3 h4 h10 h11 h12 hPA2;clear DA;rintro j ρ w4 ⟨hj,⟨h2,h3,h4,h10,h11,h12⟩,h139,h140,h141,vY,DA,dv,hPD,hPA,hS⟩;refine V1 ?_;by_cases hlt:j<D.length
  ·refine J1 ?_;refine jb ?_;obtain⟨d,hdd⟩:=jz (D.getD j z4);have hdx:=hd d (by rw[hdd];exact kE _ _ _ hlt);refine kx (λρ w'=>(ρ 2=vL/\ρ 3=vQ/\ρ 4=vD/\ρ 10=pB br/\ρ 11=pB bg/\ρ 12=iB m)/\ρ 139=vD/\ρ 140=iB D.length/\ρ 141=iB j/\∃(vY:Value) (DA:List kU) (dv:List Value),T8 DA vY (Gg m cl D (j+1)) dv/\(∀i,i<m->Is DA (ev i).2 (uE m nC Q Q.length i) (av i) (pv i))/\St w w' ([(bg,29,[(Value.slice (some ⟨bE,0,none⟩) m cE),vY]),(br,29,[kd,kd])]++([(bE,51,(ky m λi=>(oE cash i,(ev) i)).flatMap kw++sp)]::DA::LC).flatten)) ?_ ?_
   ·refine jr ?_;refine jp (kj (i:=j) h139 h141 (hD.j4 hS.j4) oO dO Sg (jq (kt (i:=j) z4 rfl x3 (hD.j4 hS.j4) dO rfl rfl (.inl rfl) ?_)));refine J1 ?_;intro bc wz29 hS hBz29;refine J1 ?_;intro wz30 hS;refine ja ?_;rw[<-hdd]at hS;replace hS:St w _ ((bc,70,oW d)::[(bg,29,[(Value.slice (some ⟨bE,0,none⟩) m cE),vY]),(br,29,[kd,kd])]++([(bE,51,(ky m λi=>(oE cash i,(ev) i)).flatMap kw++sp)]::DA::LC).flatten):=hS;have hDs:DA.Sublist ((bc,70,oW d)::[(bg,29,[(Value.slice (some ⟨bE,0,none⟩) m cE),vY]),(br,29,[kd,kd])]++([(bE,51,(ky m λi=>(oE cash i,(ev) i)).flatMap kw++sp)]::DA::LC).flatten):=((ak DA LC.flatten).trans (ai [(bE,51,(ky m λi=>(oE cash i,(ev) i)).flatMap kw++sp)] _)).trans (ai _ _);have hLs:LC.flatten.Sublist ((bc,70,oW d)::[(bg,29,[(Value.slice (some ⟨bE,0,none⟩) m cE),vY]),(br,29,[kd,kd])]++([(bE,51,(ky m λi=>(oE cash i,(ev) i)).flatMap kw++sp)]::DA::LC).flatten):=((ai DA LC.flatten).trans (ai [(bE,51,(ky m λi=>(oE cash i,(ev) i)).flatMap kw++sp)] _)).trans (ai _ _);have hDb:=hPD.g _ _ (hS.drop hDs);obtain⟨aY,cY,hvY,_⟩:=hDb.sl.form;rw[j9]at hvY;have hds3:=JJ m cl D j;subst hvY;refine J4 ?_;refine jb ?_;obtain⟨ds,hds⟩:=jz (Gg m cl D j);have hdsj:Gg m cl D (j+1)=if ds.length<3 then ds++[⟨oA (d 2),RO ds d cl m⟩]else ds:=by rw[hds,hdd];rfl
    rw[<-hds]at hPD hDb hds3⊢;by_cases hA2:ds.length<3
    ·refine V1 ?_;rw[<-hds]at hS hLs;rw[aj hA2]at hdsj;have hEsR:Wv _ _ m (oE cash) ev cl:=⟨hEs _ ev _ hS (by simp),λk hk=>by
      have h:=hR.row (P:=[]) (hS.drop hLs) o4 (i:=k) (by rw[j9];exact hk);rw[kz _ _ hk,kz _ _ hk]at h;exact h⟩
     refine J2 ?_;refine jh (j6 Tryz.call22 rfl (UA d _ hEsR hDb hdx oO (λk _=>by have:=hc6 k;omega) oO) ?_);rintro r w5 ⟨vL2,LO,D2,hGr,hMt,hS5⟩;replace hS:=(hS.join hS5).perm aF;have hGr2:=hGr;obtain⟨aR,cR,hvr⟩:=hGr.len;subst hvr;refine J1 ?_;refine jh (nM (k:=1) rfl rfl sA hS rfl (by simp) rfl ?_);intro wz31 hS;refine ja ?_;have hPD2:=hPD.snoc hGr2 hMt;replace hS:St w _ (((bc,70,oW d)::[(bg,29,[(Value.slice (some ⟨bE,0,none⟩) m cE),Value.slice aR ((ky ds.length λk=>((ds.getD k si).W,dv.getD k undef))++[(oA (d 2),vL2)]).length cR]),(br,29,[kd,kd])]++([(bE,51,(ky m λi=>(oE cash i,(ev) i)).flatMap kw++sp)]::DA::LC).flatten)++(LO++D2)):=hS;have hS9:=(tm (P:=(bc,70,oW d)::[(bg,29,[(Value.slice (some ⟨bE,0,none⟩) m cE),Value.slice aR ((ky ds.length λk=>((ds.getD k si).W,dv.getD k undef))++[(oA (d 2),vL2)]).length cR]),(br,29,[kd,kd])]) (Ls:=[(bE,51,(ky m λi=>(oE cash i,(ev) i)).flatMap kw++sp)]::DA::LC) (k:=1) (A:=LO++D2) (hS.perm aF) rfl (dS _)).drop (ab _ _);exact⟨_,rfl,⟨jY,jY,jY,jY,jY,jY⟩,jY,jY,jY,_,_,_,by rw[hdsj];exact hPD2,(λk hk=>(hPA k hk).mono (ai _ _)),hS9⟩
    ·refine V1 ?_;rw[ah hA2]at hdsj;exact⟨_,rfl,⟨jY,jY,jY,jY,jY,jY⟩,jY,jY,jY,_,DA,dv,by rw[hdsj];exact hPD,hPA,by rw[hds];exact hS.drop (ab _ _)⟩
   clear hS h2 h3 h4 h10 h11 h12 h139 h140 h141;rintro ρ w6 ⟨⟨h2,h3,h4,h10,h11,h12⟩,h139,h140,h141,vY,DA,dv,hPD,hPA,hS⟩;refine V2 ?_;exact⟨j+1,_,rfl,⟨hlt,⟨jY,jY,jY,jY,jY,jY⟩,jY,jY,vi rfl oO,vY,DA,dv,hPD,hPA,hS⟩,oO⟩
  ·refine J1 ?_;refine jt ?_;obtain rfl:j=D.length:=oO;exact⟨_,rfl,⟨h2,h3,h4,h10,h11,h12⟩,vY,DA,dv,hPD,hPA,hS⟩
 clear hS h2 h3 h4 h10 h11 h12 hPA2;clear DA;rintro ρ w4 ⟨⟨h2,h3,h4,h10,h11,h12⟩,vY,DA,dv,hPD,hPA,hS⟩;have hDs:DA.Sublist ([(bg,29,[(Value.slice (some ⟨bE,0,none⟩) m cE),vY]),(br,29,[kd,kd])]++([(bE,51,(ky m λi=>(oE cash i,(ev) i)).flatMap kw++sp)]::DA::LC).flatten):=((ak DA LC.flatten).trans (ai [(bE,51,(ky m λi=>(oE cash i,(ev) i)).flatMap kw++sp)] _)).trans (ai _ _);obtain⟨aY,cY,hvY,_⟩:=(hPD.g _ _ (hS.drop hDs)).sl.form;have hPD2:=hPD;have hform:∀i,i<m->∃a l c,(ev i).2= .slice a l c:=λi hi=>by
  obtain⟨a,c,h,_⟩:=((hPA i hi).g _ _ (hS.drop hDs)).sl.form;exact⟨a,_,c,h⟩
 subst hvY;refine J2 ?_;intro wz32 hS;refine jt ?_;refine mb (k:=1) rfl h10 ua hS rfl rfl ?_;have hS8:St w _ ([(bg,29,[(Value.slice (some ⟨bE,0,none⟩) m cE),_]),(br,29,[(Value.slice (some ⟨bE,0,none⟩) m cE),_])]++([(bE,51,(ky m λi=>(oE cash i,(ev) i)).flatMap kw++sp)]::DA::LC).flatten):=hS;have hS9:=hS8.drop (ai _ _);rw[<-hm];rw[hnC]at hPA;rw[hcl]at hPA hR;refine⟨_,_,ev,av,pv,dv,[(bE,51,(ky m λi=>(oE cash i,(ev) i)).flatMap kw++sp)],DA,LC,rfl,⟨⟨hGE ev,hR,hform⟩,hPA,by rw[<-hcl];exact hPD2⟩,hS9.perm ?_⟩;rw[aI];exact bP _ aF
def Gj (n:Nat) (q:Nat->Rat) (cl:Nat->List qZ) (ds:List sL):mZ:=⟨ky n λi=>⟨q i,cl i⟩,ds⟩
theorem OB (n:Nat) (q:Nat->Rat) (cl:Nat->List qZ) (ds:List sL):(Gj n q cl ds).n=n:=j9 _ _
theorem NA {n:Nat} (q:Nat->Rat) (cl:Nat->List qZ) (ds:List sL) {i:Nat} (h:i<n):(Gj n q cl ds).e i=⟨q i,cl i⟩:=kz _ _ h
theorem Wb.gr {n:Nat} {q:Nat->Rat} {cl:Nat->List qZ} {A:Nat->List (List (List mK))} {ds:List sL} {vE vD:Value} {ev:Nat->Value×Value} {av:Nat->List Value} {pv:Nat->List (List Value)} {dv:List Value} {LE:List kU} {LC:List (List kU)} {DA:List kU}
  (h:Wb n q cl A ds vE vD ev av pv dv LE LC DA) {w0 w:World} (hS:St w0 w ((LE++LC.flatten)++DA)):Gf w vE vD (Gj n q cl ds) (ky n ev) dv/\∀i,i<(Gj n q cl ds).n->Gn w ((ky n ev).getD i sa).2 (A i) (av i) (pv i):=by
 have hE:=h.e.W3 (hS.drop (ak _ _));have hD:=h.d.g _ _ (hS.drop (ai _ _));have hes:(ky n λi=>(q i,ev i))=ky (Gj n q cl ds).n λi=>(((Gj n q cl ds).e i).cash,(ky n ev).getD i sa):=by
  rw[OB];exact kF λi hi=>by rw[NA q cl ds hi,kz _ _ hi]
 refine⟨⟨by rw[<-hes];exact hE.es,hD.sl,λi hi=> ?_,hD.lg,λi hi=> ?_⟩,λi hi=> ?_⟩;all_goals rw[OB]at hi
 ·rw[kz _ _ hi,NA q cl ds hi];exact hE.cl i hi
 ·rw[kz _ _ hi];exact h.e.a i hi
 ·rw[kz _ _ hi];exact(h.a i hi).g _ _ (hS.drop (ai _ _))
def U5 (i:Nat):Rat:=if i=0 then((30:Int):Rat)else 0
def Su (i:Nat):List qZ:=if i=0 then [⟨-1,2,((40:Int):Rat)⟩,⟨1,2,((20:Int):Rat)⟩]else [⟨-1,2,((50:Int):Rat)⟩]
theorem MR (r:RR) (a:Option Addr) (n c:Nat):Tryz.prog.built 51 [(0,kW r),(1,.slice a n c)]=some #[.bool r.neg,.string r.num,.string r.den,.slice a n c,kd]:=by kernel_rfl
theorem MQ (a:Option Addr) (n c:Nat):Tryz.prog.built 51 [(1,.slice a n c)]=some #[.bool false,.string ⟨#[]⟩,.string ⟨#[]⟩,.slice a n c,kd]:=by kernel_rfl
theorem OT (a:Option Addr) (n c:Nat):Tryz.prog.built 29 [(0,.slice a n c)]=some #[.slice a n c,kd]:=by kernel_rfl
theorem QN (w:World):
  lU Tryz.prog 32 #[] w λr w'=>∃(vE vD:Value) (ev:Nat->Value×Value) (LE DA:List kU) (LC:List (List kU)),r= .agg #[vE,vD]/\Wb 2 U5 Su (λ_=>[]) [] vE vD ev (λ_=>[]) (λ_=>[]) [] LE LC DA/\St w w' ((LE++LC.flatten)++DA):=by
 have hS:=St.init w;refine enter Tryz.func32 rfl Tryz.ntmps32 rfl ?_;refine J1 ?_;intro br wz1 hS hBz1;refine ja ?_;obtain⟨q3,hq3⟩:∃q:Rat,q=((30:Int):Rat):=⟨_,rfl⟩;obtain⟨q4,hq4⟩:∃q:Rat,q=((40:Int):Rat):=⟨_,rfl⟩;obtain⟨q2,hq2⟩:∃q:Rat,q=((20:Int):Rat):=⟨_,rfl⟩;obtain⟨q5,hq5⟩:∃q:Rat,q=((50:Int):Rat):=⟨_,rfl⟩;have h3:=λw=>mI 30 w dD dD;have h4:=λw=>mI 40 w dD dD;have h2:=λw=>mI 20 w dD dD;have h5:=λw=>mI 50 w dD dD;rw[<-hq3]at h3;rw[<-hq4]at h4;rw[<-hq2]at h2;rw[<-hq5]at h5;refine jr ?_;refine jh (j6 Tryz.call33 rfl (h3 _) ?_);rintro r w1 ⟨rfl,hB1⟩;replace hS:=hS.km hB1;refine jh (j6 Tryz.call33 rfl (h4 _) ?_);rintro r w2 ⟨rfl,hB2⟩;replace hS:=hS.km hB2;refine jp (kT rfl (xg _ _ _) (jh (j6 Tryz.call33 rfl (h2 _) ?_)));rintro r w3 ⟨rfl,hB3⟩;replace hS:=hS.km hB3;refine jp (kT rfl (xg _ _ _) (jh (mD (vs:=[_,_]) rfl qO rfl dD dD dD (by simp[Value.cells]) rfl hS ?_)));intro b6 wz2 hS hBz2;refine jp (kT rfl (MR _ _ _ _) (jh (j6 Tryz.call33 rfl (h5 _) ?_)));rintro r w4 ⟨rfl,hB4⟩;replace hS:=hS.km hB4;refine jp (kT rfl (xg _ _ _) (jh (mD (vs:=[_]) rfl qO rfl dD dD dD (by simp[Value.cells]) rfl hS ?_)));intro b7 wz3 hS hBz3;refine jp (kT rfl (MQ _ _ _) (jh (mD (vs:=[_,_]) rfl pP rfl dD dD dD (by simp[Value.cells]) rfl hS ?_)));intro bE wz4 hS hBz4;refine jp (kT rfl (OT _ _ _) ?_);refine J1 ?_;intro wz5 hS;refine jt ?_;refine mb (k:=3) rfl rfl ua hS rfl rfl ?_;obtain⟨s6,hs6⟩:=jz (Value.slice (some ⟨b6,0,none⟩) 2 2);obtain⟨s7,hs7⟩:=jz (Value.slice (some ⟨b7,0,none⟩) 1 1);have hS1:St w _ ([(bE,51,kw (q3,Value.slice (some ⟨b6,0,none⟩) 2 2,kd)++[.bool false,.string ⟨#[]⟩,.string ⟨#[]⟩,Value.slice (some ⟨b7,0,none⟩) 1 1,kd]),(b7,53,lZ ⟨-1,2,q5⟩),(b6,53,lZ ⟨-1,2,q4⟩++lZ ⟨1,2,q2⟩)]++[_]):=hS;have hS2:=hS1.drop (ak _ _);clear hS hS1;rw[<-hs6,<-hs7]at hS2;have e7: [Value.bool false,.string ⟨#[]⟩,.string ⟨#[]⟩,s7,kd]=kw (0,s7,kd):=by
  show _=j5 (j8 0)++_;rw[ol];rfl
 rw[e7]at hS2;obtain⟨ev,hev⟩:∃ev:Nat->Value×Value,ev=λi=>if i=0 then(s6,kd)else(s7,kd):=⟨_,rfl⟩
 have hE:(ky 2 λi=>(U5 i,ev i)).flatMap kw=kw (q3,s6,kd)++kw (0,s7,kd):=by rw[hev,hq3];rfl
 have h6:(Su 0).flatMap lZ=lZ ⟨-1,2,q4⟩++lZ ⟨1,2,q2⟩:=by rw[hq4,hq2];rfl
 have h7:(Su 1).flatMap lZ=lZ ⟨-1,2,q5⟩:=by rw[hq5];rfl
 rw[<-hE,<-h6,<-h7]at hS2;have g0:=QI (enc:=kw) (b:=bE) (t:=51) (n:=2) (X:=ky 2 λi=>(U5 i,ev i)) mY (j9 _ _) dD;have g6:=QI (enc:=lZ) (b:=b6) (t:=53) (n:=2) (X:=Su 0) o4 rfl dD;have g7:=QI (enc:=lZ) (b:=b7) (t:=53) (n:=1) (X:=Su 1) o4 rfl dD;have e0:ev 0=(s6,kd):=by rw[hev];rfl
 have e1:ev 1=(s7,kd):=by rw[hev];rfl
 refine⟨_,kd,ev,[(bE,51,(ky 2 λi=>(U5 i,ev i)).flatMap kw)],[],[[(b6,53,(Su 0).flatMap lZ)],[(b7,53,(Su 1).flatMap lZ)]],rfl,⟨⟨g0,?_,λi hi=> ?_⟩,λi hi=>⟨λwz wx _=> ?_⟩,⟨rfl,λwz wx _=>⟨Sl.nil _ _ _,λk hk=>absurd hk (aW _)⟩⟩⟩,?_⟩
 ·have h:=(mr.nil.snoc g6).snoc g7;rw[<-hs6,<-hs7]at h;have r1:(ky 2 λi=>(ev i).1)=([]++[s6])++[s7]:=by rw[hev];rfl
  rw[r1];exact h
 ·match i,hi with
  |0,_=>rw[e0];exact⟨none,0,0,rfl⟩
  |1,_=>rw[e1];exact⟨none,0,0,rfl⟩
 ·have h:(ev i).2=kd:=by
   match i,hi with
   |0,_=>rw[e0]
   |1,_=>rw[e1]
  rw[h];exact⟨rfl,Sl.nil _ _ _,λk hk=>absurd hk (aW _)⟩
 ·rw[aU];exact hS2.perm (List.Perm.cons _ (List.Perm.swap _ _ _))
noncomputable section
def Ax (g:mZ) (A:Nat->List (List (List mK))) (i c:Nat):Rat:=lG (λi=>oQ (g.e i).cl (A i)) (xS g A) i c-Db g (lG (λi=>oQ (g.e i).cl (A i)) (xS g A)) g.ds.length i c
def mv:mZ:=Gj 2 U5 Su []
theorem NG {D0:Nat} (w:World) (hh:Uz D0 mv λ_=>[]) (h0:Ax mv (λ_=>[]) 0 0=((20:Int):Rat)) (h1:Ax mv (λ_=>[]) 1 0=((10:Int):Rat)):
  lU Tryz.prog 12 #[] w λr w'=>r= .bool true/\Below w.heap.size w w':=by
 have hS:=St.init w;refine enter Tryz.func12 rfl Tryz.ntmps12 rfl ?_;refine Y1 ?_;refine jh (j6 Tryz.call32 rfl (QN _) ?_);rintro r w2 ⟨vE,vD,ev,LE,DA,LC,rfl,hP,hS2⟩;obtain⟨hM,hA⟩:=hP.gr hS2;replace hS:=hS.km hS2.j4;clear hS2;refine jh (j6 Tryz.call9 rfl (CY vE vD mv _ _ (λ_=>[]) (λ_=>[]) (λ_=>[]) _ hM hA hh) ?_);rintro r w3 ⟨rs,LR,rfl,hR,hS3⟩;have hB3:=hS3.j4;replace hR:=hR _ _ hS3;clear hS3;obtain⟨vM,vG,vD',vF,vN,vS,vR,vU,uG,uD,uF,uN,e,m1,m2,m3,m4,m5,m6,m7,m8⟩:=hR;obtain⟨a1,c1,e1,_⟩:=m1.form;obtain⟨a2,c2,e2,_⟩:=m2.sl.form;obtain⟨a3,c3,e3,_⟩:=m3.sl.form;obtain⟨a4,c4,e4,_⟩:=m4.sl.form;obtain⟨a5,c5,e5,_⟩:=m5.sl.form;obtain⟨a6,c6,e6,_⟩:=m6.form;obtain⟨a7,c7,e7,_⟩:=m7.form;obtain⟨a8,c8,e8,_⟩:=m8.form;have hl5:uN.length=2:=by rw[m5.len];rfl
 rw[hl5]at e5;subst e1 e2 e3 e4 e5 e6 e7 e8 e;clear m1 m2 m3 m4 m6 m7 m8 hA hM;replace hS:=hS.km hB3;have hW:=hS.j4;clear hS;have hS:=St.init w3;have r0:=m5.row 0 dD;have r1:=m5.row 1 dD;have t0:(tU mv.n mv.cn (Ax mv λ_=>[])).getD 0 []=ky 2 λc=>j8 (Ax mv (λ_=>[]) 0 c):=kz _ _ dD;have t1:(tU mv.n mv.cn (Ax mv λ_=>[])).getD 1 []=ky 1 λc=>j8 (Ax mv (λ_=>[]) 1 c):=kz _ _ dD;replace r0:Sl j5 3 w3 (uN.getD 0 undef) (ky 2 λc=>j8 (Ax mv (λ_=>[]) 0 c)):=t0▸r0;replace r1:Sl j5 3 w3 (uN.getD 1 undef) (ky 1 λc=>j8 (Ax mv (λ_=>[]) 1 c)):=t1▸r1;obtain⟨b0,d0,f0,_⟩:=r0.form;obtain⟨b1,d1,f1,_⟩:=r1.form;rw[j9]at f0 f1;rw[f0]at r0;rw[f1]at r1;have l0:=j9 2 λc=>j8 (Ax mv (λ_=>[]) 0 c);have l1:=j9 1 λc=>j8 (Ax mv (λ_=>[]) 1 c);have hq0:decide ((ky 2 λc=>j8 (Ax mv (λ_=>[]) 0 c)).getD 0 kP=j8 ((20:Int):Rat))=true:=ao (by rw[kz _ _ dD,h0]);have hq1:decide ((ky 1 λc=>j8 (Ax mv (λ_=>[]) 1 c)).getD 0 kP=j8 ((10:Int):Rat))=true:=ao (by rw[kz _ _ dD,h1]);refine J4 ?_;intro bs wz1 hS hBz1;refine J1 ?_;intro wz2 hS;refine V1 ?_;refine JG [0,1,3,7,15,31,63,127,255,511,1023,2047,4095,8191,16383,32767,65535,131071,262143,524287,1048575,2097151,4194303,8388607,16777215,33554431,67108863,134217727,268435455,536870911,1073741823,33554431,4294967295,8589934591,17179869183,34359738367,68719476735,137438953471,274877906943,549755813887,1099511627775,34359738367,4398046511103,8796093022207,17592186044415] [jo 0,jo 1,jo 2,jo 3,ju 4,jo 5,jo 6,jo 7,jo 8,jo 9,ju 10,jo 11,ju 12,jo 13,jo 14,jo 15,jo 16,jo 17,ju 18,jo 19,ju 20,jo 21,jo 22,jo 23,jo 24,jo 25,ju 26,jo 27,ju 28,jo 29,ju 30,jv 31,jo 32,jo 33,jo 34,jo 35,ju 36,jo 37,ju 38,jo 39,ju 40,jv 41,jo 42,jo 43,jo 44] kR kR hS ?_;intro wz3 hS hBz3;refine J3 ?_;refine kN rfl (j7 10 kR rfl rfl) (lC rfl te (mG rfl (j7 10 kR rfl rfl) (kO (k:=0) rfl oT hS rfl rfl rfl (.inr rfl) (kN rfl (j7 10 kR rfl rfl) (ki rfl (m5.sl.j4 hS.j4) ⟨_,Tryz.underlying35⟩ (kN rfl (j7 10 kR rfl rfl) (qV rfl rfl (jl rfl (kA (vb rfl rfl) rfl ?_)))))))));refine J1 ?_;refine kN rfl (j7 16 kR rfl dT) (lC rfl te (mG rfl (j7 16 kR rfl dT) (kO (k:=0) rfl oT hS rfl rfl rfl (.inr rfl) (kN rfl (j7 16 kR rfl dT) (kj (i:=0) rfl rfl (m5.sl.j4 hS.j4) oO dO lH (mG rfl (j7 16 kR rfl dT) (kt (v:= .slice b0 2 d0) (i:=0) undef rfl lQ (m5.sl.j4 hS.j4) (by rw[hl5];decide) rfl (by rw[f0];rfl) (.inr rfl) (kN rfl (j7 16 kR rfl dT) (ki rfl (r0.j4 hS.j4) ⟨_,Tryz.underlying34⟩ (kN rfl (j7 16 kR rfl dT) (qV rfl rfl (jl rfl (kA (vb rfl dT) rfl ?_)))))))))))));refine J1 ?_;refine kN rfl (j7 24 kR rfl dT) (lC rfl te (mG rfl (j7 24 kR rfl dT) (kO (k:=0) rfl oT hS rfl rfl rfl (.inr rfl) (kN rfl (j7 24 kR rfl dT) (kj (i:=1) rfl rfl (m5.sl.j4 hS.j4) oO dO lH (mG rfl (j7 24 kR rfl dT) (kt (v:= .slice b1 1 d1) (i:=1) undef rfl lQ (m5.sl.j4 hS.j4) (by rw[hl5];decide) rfl (by rw[f1];rfl) (.inr rfl) (kN rfl (j7 24 kR rfl dT) (ki rfl (r1.j4 hS.j4) ⟨_,Tryz.underlying34⟩ (kN rfl (j7 24 kR rfl dT) (qV rfl rfl (jl rfl (kA (vb rfl dT) rfl ?_)))))))))))));refine J1 ?_;refine kN rfl (j7 32 kR rfl dT) (lC rfl te (mG rfl (j7 32 kR rfl dT) (kO (k:=0) rfl oT hS rfl rfl rfl (.inr rfl) (kN rfl (j7 32 kR rfl dT) (kj (i:=0) rfl rfl (m5.sl.j4 hS.j4) oO dO lH (mG rfl (j7 32 kR rfl dT) (kt (v:= .slice b0 2 d0) (i:=0) undef rfl lQ (m5.sl.j4 hS.j4) (by rw[hl5];decide) rfl (by rw[f0];rfl) (.inr rfl) (kN rfl (j7 32 kR rfl dT) (kj (i:=0) rfl rfl (r0.j4 hS.j4) rfl dO kK (mG rfl (j7 32 kR rfl dT) (kt (i:=0) kP rfl kf (r0.j4 hS.j4) dO rfl rfl (.inl rfl) (yr rfl (j7 32 kR rfl dT) (j6 Tryz.call33 rfl (mI 20 _ dD dD) ?_)))))))))))));rintro r w5 ⟨rfl,hB5⟩;refine⟨hB5,?_⟩;replace hS:=hS.km hB5;refine kN rfl (j7 32 kR rfl dT) (P4 rfl rfl (jl rfl (kA (vb rfl dT) rfl ?_)));refine J1 ?_;refine kN rfl (j7 42 kR rfl hq0) (lC rfl te (mG rfl (j7 42 kR rfl hq0) (kO (k:=0) rfl oT hS rfl rfl rfl (.inr rfl) (kN rfl (j7 42 kR rfl hq0) (kj (i:=1) rfl rfl (m5.sl.j4 hS.j4) oO dO lH (mG rfl (j7 42 kR rfl hq0) (kt (v:= .slice b1 1 d1) (i:=1) undef rfl lQ (m5.sl.j4 hS.j4) (by rw[hl5];decide) rfl (by rw[f1];rfl) (.inr rfl) (kN rfl (j7 42 kR rfl hq0) (kj (i:=0) rfl rfl (r1.j4 hS.j4) rfl dO kK (mG rfl (j7 42 kR rfl hq0) (kt (i:=0) kP rfl kf (r1.j4 hS.j4) dO rfl rfl (.inl rfl) (yr rfl (j7 42 kR rfl hq0) (j6 Tryz.call33 rfl (mI 10 _ dD dD) ?_)))))))))))));rintro r w6 ⟨rfl,hB6⟩;refine⟨hB6,?_⟩;replace hS:=hS.km hB6;refine kN rfl (j7 42 kR rfl hq0) (P4 rfl rfl (jl rfl (kA (vb rfl hq0) rfl ?_)));refine J1 ?_;refine jt ?_;refine kB rfl rfl ?_;exact⟨vb rfl hq1,hW.trans (hS.j4.mono hW.size)⟩
end
def Bb (f:Rat) (p:mK):mK:=⟨p.c,p.cap,p.q*f⟩
def AY (f:Rat) (X:List (List mK)):List (List mK):=X.map λl=>l.map (Bb f)
def zr (f:Rat) (A:List (List (List mK))):List (List (List mK)):=A.map (AY f)
def wv (f:Rat) (c:qZ):qZ:=⟨c.h,c.rk,c.q*f⟩
def S6 (f:Rat) (e:NH):NH:=⟨e.cash*f,e.cl.map (wv f)⟩
def Ut (f:Rat) (d:sL):sL:=⟨d.W*f,d.legs⟩
def tC (f:Rat) (g:mZ):mZ:=⟨g.es.map (S6 f),g.ds.map (Ut f)⟩
theorem He (f:Rat) (g:mZ):(tC f g).n=g.n:=aS ..
theorem Hb (f:Rat) (X:List (List mK)):(AY f X).flatten=X.flatten.map (Bb f):=by
 unfold AY;rw[List.map_flatten]
theorem KZ (f:Rat) (l:List mK):nj (l.map (Bb f))=nj l:=by
 unfold nj;rw[List.filter_map,fK];rfl
def Xh (D:List kU) (v:Value) (l:List mK):Prop:=∀wz wx,St wz wx D->Sl mF 5 wx v l
structure r6 (D0:Nat) (q:Rat):Prop where
 nn:0<=q
 mu:Mu D0 q
 le:q<=((2000:Nat):Rat)
theorem r6.L {D0:Nat} {q:Rat} (h:r6 D0 q) (d0:0<D0) (s0:sz D0<=2):Sx.L q<=4:=by
 have h1:=h.mu.size d0 h.nn h.le;have h2:sz 2000<=2:=lu dD;omega
structure Dc (P:Rat->Prop) (n i:Nat) (e:NH) (A:List (List (List mK))):Prop where
 cash:P e.cash
 cn:e.cl.length<=7
 cl:∀c∈e.cl,-1<=c.h/\c.h<n/\c.h≠i/\0<=c.rk/\c.rk<=7/\P c.q
 an:A.length<=2
 tn:∀X∈A,X.length<=3
 pn:∀X∈A,∀l∈X,l.length<=8
 pt:∀X∈A,∀l∈X,∀p∈l,(p.c= -1/\p.cap=true\/0<=p.c/\p.c<e.cl.length)/\P p.q
 nd:(xW A).Nodup
abbrev JL (D0:Nat):=Dc (r6 D0)
structure Le (P:Rat->Prop) (g:mZ) (A:Nat->List (List (List mK))):Prop where
 n0:0<g.n
 n:g.n<=8
 dn:g.ds.length<=6
 es:∀i,i<g.n->Dc P g.n i (g.e i) (A i)
 W:∀d,d<g.ds.length->P (g.d d).W
 ln:∀d,d<g.ds.length->(g.d d).legs.length<=4
 lg:uh g
 ho:P6 g
 hl:∀d,d<g.ds.length->∀j,j<(g.d d).legs.length->(g.c (g.lg d j).1 (g.lg d j).2).h=(g.c (g.lg d 0).1 (g.lg d 0).2).h
 nd:(AL g).Nodup
structure GV (D0:Nat) (g:mZ) (A:Nat->List (List (List mK))):Prop extends Le (r6 D0) g A where
 d0:0<D0
 s0:sz D0<=2
theorem GQ {α:Type} {k:Nat}:∀ {X:List (List α)},(∀l∈X,l.length<=k)->X.flatten.length<=X.length*k
 | [],_=>aB _
 |l::X,h=>by
  have h1:=h l (aQ ..);have h2:=GQ (X:=X) λl hl=>h l (aK _ hl);rw[List.flatten_cons,aG,bj,bA];omega
theorem Et (A:List (List (List mK))) {k:Nat} (h:k<A.length):∃R,xW A=(xW (A.take k)++nj (A.getD k []).flatten)++R:=by
 refine⟨xW (A.drop (k+1)),?_⟩;rw[<-Ie A h];unfold xW;rw[<-eZ,<-bH,dc]
section
variable {D0 n i : Nat} {e : NH} {A : List (List (List mK))}
theorem Dc.fl (h:JL D0 n i e A) {X:List (List mK)} (hX:X∈A):X.flatten.length<=24:=by
 have h1:=GQ (h.pn X hX);have h2:=h.tn X hX;omega
theorem Dc.m7 (h:JL D0 n i e A):(xW A).length<=7:=by
 have h1:∀c∈xW A,0<=c/\c<e.cl.length:=λc hc=>by
  unfold xW at hc;rw[eu]at hc;obtain⟨l,hl,hc⟩:=hc;rw[bX]at hl;obtain⟨X,hX,rfl⟩:=hl;obtain⟨p,hp,e1,e2⟩:=uV hc;rw[eu]at hp;obtain⟨l,hl,hp⟩:=hp;rcases(h.pt X hX l hl p hp).1 with q|q
  ·exact absurd (e1▸q.1) e2
  ·rw[<-e1];exact q
 have h2:((xW A).map Int.toNat).Nodup:=by
  refine List.pairwise_map.2 (List.Pairwise.imp_of_mem (fun {a b} ha hb hne hab=>hne ?_) h.nd);have:=h1 a ha;have:=h1 b hb;omega
 have h3:((xW A).map Int.toNat).length<=(List.range e.cl.length).length:=List.Nodup.length_le_of_subset h2 λx hx=>by
  obtain⟨c,hc,rfl⟩:=bX.1 hx;have:=h1 c hc;rw[cW];omega
 rw[aS,dI]at h3;have:=h.cn;omega
theorem Dc.Ws (h:JL D0 n i e A) (d0:0<D0) (s0:sz D0<=2) (hn:n<=8):Te e.cash e.cl A:=by
 have hMX:MX=1099511627776:=rfl;have hcn:=h.cn;have han:=h.an;refine⟨oO,oO,h.cash.nn,by have:=h.cash.L d0 s0;omega,λc hc=> ?_,λk hk=> ?_⟩
 ·obtain⟨a1,a2,_,a4,a5,a6⟩:=h.cl c hc;exact⟨⟨a1,oO⟩,⟨a4,a5⟩,a6.nn,by have:=a6.L d0 s0;omega⟩
 ·have hX:=kE A k [] hk;obtain⟨R,hR⟩:=Et A hk;have hnd:=h.nd;rw[hR,dt,dt]at hnd;obtain⟨⟨n1,n2,n3⟩,_,_⟩:=hnd;have hfl:=h.fl hX;have h7:=h.m7;rw[hR,aG,aG]at h7;refine⟨by have:=h.tn _ hX;omega,λj hj=>by have:=h.pn _ hX _ (kE _ j [] hj);omega,oO,n2,oO,λp hp=> ?_⟩;rw[eu]at hp;obtain⟨l,hl,hpl⟩:=hp;obtain⟨q1,q2⟩:=h.pt _ hX l hl p hpl;refine⟨?_,λ_=>q2.nn,by have:=q2.L d0 s0;omega⟩;rcases q1 with q|q
  ·exact .inl q
  ·refine .inr ⟨q.1,q.2,λhm=> ?_⟩;refine n3 p.c hm p.c ?_ rfl;unfold nj;exact bX.2 ⟨p,dV.2 ⟨eu.2 ⟨l,hl,hpl⟩,ao oO⟩,rfl⟩
end
theorem GJ {l:List (Nat×Nat)} {j:Nat} (h:l.Nodup) (hj:j<l.length):l.getD j (0,0)∉l.take j:=by
 have e:l=l.take j++(l.getD j (0,0)::l.drop (j+1)):=by
  conv=>lhs;rw[<-dc j l,dX hj]
  rw[ap,aJ hj];rfl
 rw[e,dt]at h;exact λhm=>h.2.2 _ hm _ (aQ ..) rfl
theorem MV (ds:List sL) {k:Nat} (h:k<ds.length):ds.flatMap sL.legs=((ds.take k).flatMap sL.legs++(ds.getD k si).legs)++(ds.drop (k+1)).flatMap sL.legs:=by
 conv=>lhs;rw[<-dc k ds,dX h]
 rw[dy,cB,ap,aJ h,aI];rfl
theorem NP (ds:List sL):∀k,k<=ds.length->mL (λd=>(ds.getD d si).legs) k=(ds.take k).flatMap sL.legs
 |0,_=>rfl
 |k+1,h=>by
  rw[lE ds k si oO,dy,cK,<-NP ds k oO];exact oC _ _
theorem NX (P l:List (Nat×Nat)) (j:Nat):(P++l).getD (P.length+j) (0,0)=l.getD j (0,0):=by
 rw[ap,cZ oO,fC,<-ap]
theorem KC (g:mZ):AL g=g.ds.flatMap sL.legs:=by
 have:=NP g.ds g.ds.length (aH _);rw[bR]at this;exact this
section
variable {D0 : Nat} {g : mZ} {A : Nat → List (List (List mK))}
theorem GV.Ws (h:GV D0 g A):O5 g A:=by
 have hMX:MX=1099511627776:=rfl;refine⟨h.n,by have:=h.dn;omega,λi hi=>(h.es i hi).Ws h.d0 h.s0 h.n,λi hi c hc=> ?_,λk hk=> ?_⟩
 ·obtain⟨_,a2,a3,_⟩:=(h.es i hi).cl (g.c i c) (kE _ _ _ hc);exact⟨a3,a2⟩
 ·have hnd:=h.nd;rw[KC,MV g.ds hk,dt]at hnd;have hl:=h.ln k hk;have hw:=h.W k hk;refine⟨oO,hw.nn,by have:=hw.L h.d0 h.s0;omega,h.lg k hk,h.hl k hk,λj hj=> ?_⟩;have h1:=hnd.1;have h2:=GJ h1 (j:=((g.ds.take k).flatMap sL.legs).length+j) (by rw[aG];exact Nat.add_lt_add_left hj _);rw[NX,iL,aV oO,fC]at h2;exact h2
end
theorem r6.sub {D0:Nat} {p q:Rat} (h:r6 D0 p) (g:r6 D0 q) (hle:q<=p):r6 D0 (p-q):=by
 have h1:=g.nn;have h2:=h.le;exact⟨by grind,h.mu.sub g.mu,by grind⟩
theorem r6.min {D0:Nat} {p q:Rat} (h:r6 D0 p) (g:r6 D0 q):r6 D0 (wq p q):=by
 unfold wq;split
 ·assumption
 ·assumption
theorem r6.zero (D0:Nat):r6 D0 0:=⟨bS,Mu.zero,dD⟩
theorem Ul (p q:Rat):wq p q<=p:=by
 unfold wq;split
 ·grind
 ·grind
theorem Pz {D0:Nat} {f:Nat->Rat} {p:mK} (hf:∀k,r6 D0 (f k)) (hp:r6 D0 p.q):r6 D0 (Da f p):=by
 unfold Da;split
 ·exact hp
 ·split
  ·exact(hf _).min hp
  ·exact hf _
theorem Uy {f:Nat->Rat} {p:mK} (h:p.c≠-1):Da f p<=f p.c.toNat:=by
 unfold Da;rw[ah h];split
 ·exact Ul _ _
 ·exact bS
theorem Uf {D0:Nat} {s:(Nat->Rat)×Tr} {p:mK} (hf:∀k,r6 D0 (s.1 k)) (hp:r6 D0 p.q):∀k,r6 D0 ((Pg s p).1 k):=by
 intro k;unfold Pg;by_cases h:p.c= -1
 ·simp only[aj h];exact hf k
 ·simp only[ah h];unfold H3;split
  ·exact(hf _).sub (Pz hf hp) (Uy h)
  ·exact hf k
theorem NJ:∀(l m:List Pa),qs (l++m)=qs l+qs m
 | [],m=>by show qs m=0+qs m;grind
 |p::l,m=>by
  show p.q+qs (l++m)=p.q+qs l+qs m;rw[NJ l m];grind
structure TA (D0:Nat) (t:Tr):Prop where
 q:∀p∈t.ps,r6 D0 p.q
 s:t.sm=qs t.ps
theorem TA.add {D0:Nat} {t:Tr} (h:TA D0 t) {c:Int} {q:Rat} (hq:r6 D0 q):TA D0 (uq t ⟨c,q⟩):=by
 refine⟨λp hp=> ?_,?_⟩
 ·rcases bO.1 hp with h1|h1
  ·exact h.q p h1
  ·rw[aZ.1 h1];exact hq
 ·show t.sm+q=qs (t.ps++[⟨c,q⟩]);rw[NJ,<-h.s];show _=t.sm+(q+0);grind
theorem TA.zero (D0:Nat):TA D0 rH:=⟨λp hp=>(by cases hp),rfl⟩
theorem JF {D0:Nat} {f:Nat->Rat} {l:List mK} (hf:∀k,r6 D0 (f k)) (hp:∀p∈l,r6 D0 p.q):∀j,j<=l.length->(∀k,r6 D0 ((yc f l j).1 k))/\TA D0 (yc f l j).2
 |0,_=>⟨hf,TA.zero D0⟩
 |j+1,h=>by
  obtain⟨h1,h2⟩:=JF hf hp j oO;have h3:=hp _ (kE l j tH oO);rw[yW f l oO];exact⟨Uf h1 h3,h2.add (Pz h1 h3)⟩
theorem Jt {D0:Nat} {f:Nat->Rat} {m:List Int} (hf:∀k,r6 D0 (f k)):∀j,j<=m.length->TA D0 (Dw f m j)
 |0,_=>TA.zero D0
 |j+1,h=>by
  rw[zq f m oO];exact(Jt hf j oO).add (hf _)
theorem EH {D0:Nat} {f:Nat->Rat} {X:List (List mK)} (hf:∀k,r6 D0 (f k)) (hp:∀l∈X,∀p∈l,r6 D0 p.q):∀i,i<=X.length->(∀k,r6 D0 ((v9 f X i).1 k))/\∀t∈(v9 f X i).2,TA D0 t
 |0,_=>⟨hf,λt ht=>(by cases ht)⟩
 |i+1,h=>by
  obtain⟨h1,h2⟩:=EH hf hp i oO;obtain⟨h3,h4⟩:=JF h1 (hp _ (kE X i [] oO)) (X.getD i []).length (aH _);refine⟨h3,λt ht=> ?_⟩;rcases bO.1 ht with q|q
  ·exact h2 t q
  ·rw[aZ.1 q];exact h4
theorem r6.aa {D0:Nat} {q:Rat} (h:r6 D0 q):q<=(AA:Rat):=by
 have h1:=h.le;have h2:((2000:Nat):Rat)<=(AA:Rat):=by exact_mod_cast (show 2000<=AA by decide)
 grind
theorem TA.nn {D0:Nat}:∀ {l:List Pa},(∀p∈l,r6 D0 p.q)->0<=qs l
 | [],_=>bS
 |p::l,h=>by
  have h1:=(h p (aQ ..)).nn;have h2:=TA.nn (l:=l) λp hp=>h p (aK _ hp);show 0<=p.q+qs l;grind
theorem TA.L {D0:Nat} {t:Tr} (h:TA D0 t) (d0:0<D0) (s0:sz D0<=2) (hn:t.ps.length<=24):Sx.L t.sm<=6:=by
 obtain⟨h1,h2,_⟩:=RZ (D0:=D0) (l:=t.ps) λp hp=>⟨(h.q p hp).mu,(h.q p hp).aa⟩;rw[h.s];have h3:=h1.size d0 (TA.nn h.q) h2;have h4:sz (t.ps.length*AA)<=4:=lu (ct (aO _ hn) dD);omega
section
variable {D0 n i : Nat} {e : NH} {A : List (List (List mK))}
theorem Dc.q (h:JL D0 n i e A) (k:Nat):r6 D0 (pZ e.cl k):=by
 unfold pZ;by_cases hk:k<e.cl.length
 ·exact(h.cl _ (kE _ _ _ hk)).2.2.2.2.2
 ·rw[ap,dk oO];exact r6.zero D0
theorem Dc.WP (h:JL D0 n i e A) {X:List (List mK)} (hX:X∈A):(nj X.flatten).Nodup/\(nj X.flatten).length<=7:=by
 obtain⟨k,hk,rfl⟩:=fy hX;obtain⟨R,hR⟩:=Et A hk;have e1:A.getD k []=A[k]:=by rw[ap,aJ hk];rfl
 rw[e1]at hR;have h1:=h.nd;have h2:=h.m7;rw[hR,dt,dt]at h1;rw[hR,aG,aG]at h2;exact⟨h1.1.2.1,oO⟩
theorem Dc.lay (h:JL D0 n i e A) (d0:0<D0) (s0:sz D0<=2) {X:List (List mK)} (hX:X∈A):OQ e.cl X:=by
 have hcn:=h.cn;have hq:=h.q;have hp:∀l∈X,∀p∈l,r6 D0 p.q:=λl hl p hp=>(h.pt X hX l hl p hp).2;have hfl:=h.fl hX;have htn:=h.tn X hX;obtain⟨x1,x2⟩:=h.WP hX;have hml:(sR X).length<=7:=by
  unfold sR;rw[(qw Df _).length_eq];exact x2
 refine⟨oO,λk _=>by have:=(hq k).L d0 s0;omega,oO,oO,λj hj=>by have:=h.pn X hX _ (kE X j [] hj);omega,λj hj c hc=> ?_,λj hj c hc=> ?_,λj hj=> ?_,x1,oO⟩
 ·rcases(h.pt X hX _ (kE X j [] hj) _ (kE _ c tH hc)).1 with q|q
  ·exact .inl q.1
  ·exact .inr q
 ·have hl8:=h.pn X hX _ (kE X j [] hj);have hpl:=hp _ (kE X j [] hj);obtain⟨a1,_⟩:=EH hq hp j oO;obtain⟨b1,b2⟩:=JF a1 hpl c oO;have b3:=BA (v9 (pZ e.cl) X j).1 (X.getD j []) c oO;refine⟨by have:=b2.L d0 s0 oO;omega,λk _=>by have:=(b1 k).L d0 s0;omega,by have:=(hpl _ (kE _ c tH hc)).L d0 s0;omega⟩
 ·obtain⟨a1,_⟩:=EH hq hp X.length (aH _);have b2:=Jt (m:=sR X) a1 j oO;have b3:=Bk (v9 (pZ e.cl) X X.length).1 (sR X) j oO;exact⟨by have:=b2.L d0 s0 oO;omega,by have:=(a1 ((sR X).getD j 0).toNat).L d0 s0;omega⟩
theorem E2 {cl:List qZ} (hq:∀k,r6 D0 (pZ cl k)) (r:Nat):∀i,TA D0 (r9 cl i r)
 |0=>TA.zero D0
 |i+1=>by
  unfold r9;split
  ·exact(E2 hq r i).add (hq i)
  ·exact E2 hq r i
theorem P3 {f:Nat->Rat} (hf:∀k,r6 D0 (f k)):∀n,0<=kg f n/\Mu D0 (kg f n)/\kg f n<=((n*2000:Nat):Rat)
 |0=>⟨bS,Mu.zero,by rw[fp];exact bS⟩
 |n+1=>by
  obtain⟨h1,h2,h3⟩:=P3 hf n;have h:=hf n;have h4:=h.nn;have h5:=h.le;refine⟨?_,h2.add h.mu,?_⟩
  ·show 0<=kg f n+f n;grind
  ·show kg f n+f n<=_;rw[bA,dJ,gS];grind
theorem Sw {f:Nat->Rat} (hf:∀k,r6 D0 (f k)) (d0:0<D0) (s0:sz D0<=2) {k:Nat} (hk:k<=7):Sx.L (kg f k)<=4:=by
 obtain⟨h1,h2,h3⟩:=P3 hf k;have h4:=h2.size d0 h1 h3;have h5:sz (k*2000)<=2:=lu (ct (aO _ hk) dD);omega
theorem Dc.W9 (h:JL D0 n i e A) (d0:0<D0) (s0:sz D0<=2):Q6 e.cl A:=by
 have hcn:=h.cn;have han:=h.an;refine⟨oO,λk _=>by have:=(h.q k).L d0 s0;omega,λk hk=> ?_,λj hj r=> ?_,λj hj=>by have:=Sw h.q d0 s0 (k:=j) oO;omega,oO,λk hk=>h.lay d0 s0 (kE A k [] hk)⟩
 ·obtain⟨_,_,_,a4,a5,_⟩:=h.cl _ (kE e.cl k pb hk);exact⟨a4,oO⟩
 ·have h1:=(E2 h.q r j).L d0 s0 (by have:=Bq e.cl j r;omega);omega
end
def zJ (n:Nat) (t:Tr):Prop:=∀p∈t.ps,p.c= -1\/0<=p.c/\p.c<n
theorem zJ.add {n:Nat} {t:Tr} (h:zJ n t) {c:Int} {q:Rat} (hc:c= -1\/0<=c/\c<n):zJ n (uq t ⟨c,q⟩):=λp hp=>by
 rcases bO.1 hp with h1|h1
 ·exact h p h1
 ·rw[aZ.1 h1];exact hc
theorem zJ.zero (n:Nat):zJ n rH:=λp hp=>by cases hp
theorem NY {n:Nat} {f:Nat->Rat} {l:List mK} (hp:∀p∈l,p.c= -1\/0<=p.c/\p.c<n):∀j,j<=l.length->zJ n (yc f l j).2
 |0,_=>zJ.zero n
 |j+1,h=>by
  rw[yW f l oO];exact(NY hp j oO).add (hp _ (kE l j tH oO))
theorem Oc {n:Nat} {f:Nat->Rat} {m:List Int} (hm:∀c∈m,0<=c/\c<n):∀j,j<=m.length->zJ n (Dw f m j)
 |0,_=>zJ.zero n
 |j+1,h=>by
  rw[zq f m oO];exact(Oc hm j oO).add (.inr (hm _ (kE m j 0 oO)))
theorem OF {n:Nat} {f:Nat->Rat} {X:List (List mK)} (hp:∀l∈X,∀p∈l,p.c= -1\/0<=p.c/\p.c<n):∀i,i<=X.length->∀t∈(v9 f X i).2,zJ n t/\∃l∈X,t.ps.length<=l.length
 |0,_,t,ht=>by cases ht
 |i+1,h,t,ht=>by
  rcases bO.1 ht with q|q
  ·exact OF hp i oO t q
  ·rw[aZ.1 q];exact⟨NY (hp _ (kE X i [] oO)) _ (aH _),_,kE X i [] oO,by rw[BA _ _ _ (aH _)];exact aH _⟩
theorem IQ (cl:List qZ) (r:Nat):∀i,i<=cl.length->zJ cl.length (r9 cl i r)
 |0,_=>zJ.zero _
 |i+1,h=>by
  unfold r9;split
  ·exact(IQ cl r i oO).add (.inr ⟨oO,oO⟩)
  ·exact IQ cl r i oO
theorem TA.ok {D0:Nat} {t:Tr} (h:TA D0 t):DB t:=⟨λp hp=>(h.q p hp).nn,h.s⟩
theorem TA.b {D0:Nat} {t:Tr} (h:TA D0 t) (hn:t.ps.length<=8):Ir D0 t:=⟨hn,λp hp=>⟨(h.q p hp).mu,(h.q p hp).aa⟩⟩
section
variable {D0 n i : Nat} {e : NH} {A : List (List (List mK))}
theorem Dc.pc (h:JL D0 n i e A) {X:List (List mK)} (hX:X∈A):∀l∈X,∀p∈l,p.c= -1\/0<=p.c/\p.c<e.cl.length:=λl hl p hp=>by
 rcases(h.pt X hX l hl p hp).1 with q|q
 ·exact .inl q.1
 ·exact .inr q
theorem Dc.mm (h:JL D0 n i e A) {X:List (List mK)} (hX:X∈A):(∀c∈sR X,0<=c/\c<e.cl.length)/\(sR X).length<=7:=by
 obtain⟨x1,x2⟩:=h.WP hX;have hp:=qw Df (nj X.flatten);refine⟨λc hc=> ?_,by unfold sR;rw[hp.length_eq];exact x2⟩;obtain⟨p,hp1,e1,e2⟩:=uV (hp.mem_iff.1 hc);rw[eu]at hp1;obtain⟨l,hl,hpl⟩:=hp1;rcases h.pc hX l hl p hpl with q|q
 ·exact absurd (e1▸q) e2
 ·rw[<-e1];exact q
theorem Dc.QB (h:JL D0 n i e A) {X:List (List mK)} (hX:X∈A):(A0 e.cl X).length<=4/\∀t∈A0 e.cl X,TA D0 t/\zJ e.cl.length t/\t.ps.length<=8:=by
 have hp:∀l∈X,∀p∈l,r6 D0 p.q:=λl hl p hp=>(h.pt X hX l hl p hp).2;obtain⟨m1,m2⟩:=h.mm hX;obtain⟨a1,a2⟩:=EH h.q hp X.length (aH _);have hl:=A6 (pZ e.cl) X X.length;have htn:=h.tn X hX;refine⟨by unfold A0;rw[aG,hl];show _+1<=_;omega,λt ht=> ?_⟩;rcases bO.1 ht with q|q
 ·obtain⟨b1,l,hl,b2⟩:=OF (h.pc hX) X.length (aH _) t q;have:=h.pn X hX l hl;exact⟨a2 t q,b1,oO⟩
 ·rw[aZ.1 q];exact⟨Jt a1 _ (aH _),Oc m1 _ (aH _),by rw[Bk _ _ _ (aH _)];omega⟩
theorem Dc.VU (h:JL D0 n i e A):∀t∈(oQ e.cl A).rk,TA D0 t/\zJ e.cl.length t/\t.ps.length<=8:=λt ht=>by
 obtain⟨r,_,rfl⟩:=tf ht;exact⟨E2 h.q r _,IQ _ _ _ (aH _),by have:=Bq e.cl e.cl.length r;have:=h.cn;omega⟩
theorem UE (A:List (List (List mK))) (cl:List qZ):((A.map (EJ cl)).flatMap Pl.mem).Perm ((xW A).map Int.toNat):=by
 induction A with
 |nil=>exact dS _
 |cons X A ih=>
  rw[db,cB];have e1:xW (X::A)=nj X.flatten++xW A:=rfl;rw[e1,bH];exact((qw Df (nj X.flatten)).map Int.toNat).append ih
theorem Dc.nn (h:JL D0 n i e A):∀c∈xW A,0<=c/\c<e.cl.length:=λc hc=>by
 unfold xW at hc;rw[eu]at hc;obtain⟨l,hl,hc⟩:=hc;rw[bX]at hl;obtain⟨X,hX,rfl⟩:=hl;obtain⟨p,hp,e1,e2⟩:=uV hc;rw[eu]at hp;obtain⟨l,hl,hp⟩:=hp;rcases h.pc hX l hl p hp with q|q
 ·exact absurd (e1▸q) e2
 ·rw[<-e1];exact q
theorem Dc.WF (h:JL D0 n i e A):pz (oQ e.cl A):=by
 have hr:=h.VU;refine⟨λt ht=>(hr t ht).1.ok,λt ht p hp=>(hr t ht).2.1 p hp,λp hp t ht=> ?_,λp hp t ht q hq=> ?_,?_,λp hp k hk=> ?_⟩
 ·obtain⟨X,hX,rfl⟩:=bX.1 hp;exact((h.QB hX).2 t ht).1.ok
 ·obtain⟨X,hX,rfl⟩:=bX.1 hp;exact((h.QB hX).2 t ht).2.1 q hq
 ·refine(UE A e.cl).nodup_iff.2 ?_;refine List.pairwise_map.2 (List.Pairwise.imp_of_mem (fun {a b} ha hb hne hab=>hne ?_) h.nd);have:=h.nn a ha;have:=h.nn b hb;omega
 ·obtain⟨X,hX,rfl⟩:=bX.1 hp;obtain⟨c,hc,rfl⟩:=bX.1 hk;have:=(h.mm hX).1 c hc;show c.toNat<e.cl.length;omega
theorem Dc.Xe (h:JL D0 n i e A):IJ D0 (oQ e.cl A):=by
 have hr:=h.VU;refine⟨h.cn,by show(ky 8 _).length<=8;rw[j9];exact aH _,by show(A.map _).length<=2;rw[aS];exact h.an,λp hp=> ?_,λp hp=> ?_,λt ht=>(hr t ht).1.b (hr t ht).2.2,λp hp t ht=> ?_⟩
 ·obtain⟨X,hX,rfl⟩:=bX.1 hp;show((sR X).map Int.toNat).length<=7;rw[aS];exact(h.mm hX).2
 ·obtain⟨X,hX,rfl⟩:=bX.1 hp;exact(h.QB hX).1
 ·obtain⟨X,hX,rfl⟩:=bX.1 hp;have:=(h.QB hX).2 t ht;exact this.1.b this.2.2
end
section
variable {D0 : Nat} {g : mZ} {A : Nat → List (List (List mK))}
theorem GV.ok (h:GV D0 g A):nB g (λi=>oQ (g.e i).cl (A i)) (xJ (AL g)):=
 ⟨λi hi=>(h.es i hi).WF,λ_ _=>rfl,λi hi=>(h.es i hi).cash.nn,h.ho,h.lg,λ_ _ _ _=>by unfold xJ;exact fI,h.nd⟩
theorem GV.b (h:GV D0 g A):xe D0 g (λi=>oQ (g.e i).cl (A i)):=
 ⟨h.d0,h.s0,h.n0,h.n,h.dn,h.ln,λi hi=>(h.es i hi).Xe,λi hi=>⟨(h.es i hi).cash.mu,(h.es i hi).cash.aa⟩,λd hd=>⟨(h.W d hd).nn,(h.W d hd).mu,(h.W d hd).aa⟩,λi hi=>dx (Sw (h.es i hi).q h.d0 h.s0 (k:=(g.e i).cl.length) (h.es i hi).cn) dD⟩
theorem GV.WI (h:GV D0 g A):Uz D0 g A:=⟨h.Ws,λi hi=>(h.es i hi).W9 h.d0 h.s0,h.ok,h.b⟩
theorem GV.Wy (h:GV D0 g A):Sn g (λi=>oQ (g.e i).cl (A i)) (xJ (AL g)) (xS g A):=(OR h.ok h.b).2.1
end
theorem Mu.nat (D m:Nat):Mu D ((m:Int):Rat):=⟨(m:Int)*(D:Int),by rw[eG,cO D]⟩
theorem r6.nat {D m:Nat} (h:m<=2000):r6 D ((m:Int):Rat):=by
 refine⟨?_,Mu.nat D m,?_⟩
 ·rw[cO];exact Rat.natCast_nonneg
 ·rw[cO];exact uy h
def xY (q:Rat):Prop:=r6 60 q/\q<=((30:Nat):Rat)
theorem xY.nat {m:Nat} (h:m<=30):xY ((m:Int):Rat):=⟨r6.nat oO,by rw[cO];exact uy h⟩
theorem xY.zero:xY 0:=⟨r6.zero 60,dD⟩
theorem xY.rC (x:Nat):xY (oA x):=by
 unfold oA;split
 ·obtain⟨a,ha⟩:=jz (x/5%23);obtain⟨b,hb⟩:=jz (x/115%6);have ha2:a<23:=by rw[ha];exact bG _ dD
  have hb2:b<6:=by rw[hb];exact bG _ dD
  rw[<-ha,<-hb];have key:∀b,b<6->∀a,a<23->(0<=mkRat ((a:Nat):Int) (1+b)/\mkRat ((a:Nat):Int) (1+b)<=30)/\mkRat ((a:Nat):Int) (1+b)*60=(((a*(60/(1+b)):Nat):Int):Rat):=by decide+kernel
  obtain⟨⟨h1,h2⟩,h3⟩:=key b hb2 a ha2;exact⟨⟨h1,⟨_,h3⟩,eR h2 dD⟩,h2⟩
 ·split
  ·have h:x/5%4<4:=bG _ dD;exact xY.nat oO
  ·have h:x/5%13<13:=bG _ dD;exact xY.nat oO
theorem yE (l m:List mK):nj (l++m)=nj l++nj m:=by
 unfold nj;rw[ij,bH]
theorem Pu {A:List (List (List mK))} {k:Nat} (h:(k:Int)∈xW A):Fq k A=true:=by
 unfold xW at h;rw[eu]at h;obtain⟨l,hl,h⟩:=h;rw[bX]at hl;obtain⟨X,hX,rfl⟩:=hl;obtain⟨p,hp,e1,e2⟩:=uV h;rw[eu]at hp;obtain⟨l,hl,hp⟩:=hp;exact dG.2 ⟨X,hX,dG.2 ⟨l,hl,dG.2 ⟨p,hp,ao e1⟩⟩⟩
section
variable (A : List (List (List mK))) (p : Nat → Nat)
theorem Bd:∀n t,∀q∈oV A p n t,∃k:Nat,k<n/\q.c=k/\LK (p 1) k=t+1/\Fq k A=false/\xY q.q
 |0,_,q,hq=>by cases hq
 |n+1,t,q,hq=>by
  unfold oV at hq;split at hq
  ·rename_i h;rcases bO.1 hq with h1|h1
   ·obtain⟨k,k1,k2⟩:=Bd n t q h1;exact⟨k,oO,k2⟩
   ·rw[aZ.1 h1];refine⟨n,eo _,?_,h.1,h.2,?_⟩
    ·unfold zu;split<;>rfl
    ·unfold zu;split
     ·have:p 2/64%9<9:=bG _ dD;exact xY.nat oO
     ·exact xY.zero
  ·obtain⟨k,k1,k2⟩:=Bd n t q hq;exact⟨k,oO,k2⟩
theorem HB (n t:Nat):∀c∈nj (oV A p n t),∃k:Nat,k<n/\c=k/\LK (p 1) k=t+1/\Fq k A=false:=λc hc=>by
 obtain⟨q,hq,e1,_⟩:=uV hc;obtain⟨k,k1,k2,k3,k4,_⟩:=Bd A p n t q hq;exact⟨k,k1,e1▸k2,k3,k4⟩
theorem zK:∀n t,(nj (oV A p n t)).Nodup
 |0,_=>fD
 |n+1,t=>by
  unfold oV;split
  ·rw[yE,dt];have e:nj [zu p n]=[(n:Int)]:=by
    unfold zu;split<;>(unfold nj;rw[fE,aj (ao (show(n:Int)≠-1 by omega))];rfl)
   rw[e];refine⟨zK n t,by simp,λa ha b hb hab=> ?_⟩;rw[aZ]at hb;obtain⟨k,k1,k2,_⟩:=HB A p n t a ha;omega
  ·exact zK n t
theorem QA (n:Nat):nj (wS A n p).flatten=nj (oV A p n 0)++(nj (oV A p n 1)++nj (oV A p n 2)):=by
 have e:∀t,nj (if p 0/8%4=0/\t=p 0/32%3 then oV A p n t++[QT p]else oV A p n t)=nj (oV A p n t):=λt=>by
  split
  ·rw[yE];show _++[]=_;rw[aU]
  ·rfl
 show nj (_++(_++(_++[])))=_;rw[aU,yE,yE,e,e,e]
theorem Rk (n:Nat):(nj (wS A n p).flatten).Nodup/\∀c∈nj (wS A n p).flatten,∃k:Nat,k<n/\c=k/\Fq k A=false:=by
 rw[QA];have hm:=HB A p n;refine⟨?_,λc hc=> ?_⟩
 ·rw[dt,dt];refine⟨zK A p n 0,⟨zK A p n 1,zK A p n 2,λa ha b hb hab=> ?_⟩,λa ha b hb hab=> ?_⟩
  ·obtain⟨k,_,k2,k3,_⟩:=hm 1 a ha;obtain⟨l,_,l2,l3,_⟩:=hm 2 b hb;have:k=l:=oO;subst this;omega
  ·obtain⟨k,_,k2,k3,_⟩:=hm 0 a ha;rcases bO.1 hb with hb|hb
   ·obtain⟨l,_,l2,l3,_⟩:=hm 1 b hb;have:k=l:=oO;subst this;omega
   ·obtain⟨l,_,l2,l3,_⟩:=hm 2 b hb;have:k=l:=oO;subst this;omega
 ·rcases bO.1 hc with hc|hc
  ·obtain⟨k,k1,k2,_,k4⟩:=hm 0 c hc;exact⟨k,k1,k2,k4⟩
  ·rcases bO.1 hc with hc|hc
   ·obtain⟨k,k1,k2,_,k4⟩:=hm 1 c hc;exact⟨k,k1,k2,k4⟩
   ·obtain⟨k,k1,k2,_,k4⟩:=hm 2 c hc;exact⟨k,k1,k2,k4⟩
structure Vz (n:Nat):Prop where
 an:A.length<=2
 tn:∀X∈A,X.length<=3
 pn:∀X∈A,∀l∈X,l.length<=8
 pt:∀X∈A,∀l∈X,∀p∈l,(p.c= -1/\p.cap=true\/0<=p.c/\p.c<n)/\xY p.q
 nd:(xW A).Nodup
end
theorem Vz.snoc {n:Nat} {A:List (List (List mK))} (h:Vz A n) (h2:A.length<2) (hn:n<=6) (p:Nat->Nat):Vz (A++[wS A n p]) n:=by
 have hm:∀ {P:List (List mK)->Prop},(∀X∈A,P X)->P (wS A n p)->∀X∈A++[wS A n p],P X:=λh1 h2 X hX=>by
  rcases bO.1 hX with h|h
  ·exact h1 X h
  ·rw[aZ.1 h];exact h2
 have hx:∀ {P:List mK->Prop},(∀t,P (oV A p n t))->(∀t,P (oV A p n t++[QT p]))->∀l∈wS A n p,P l:=λh1 h2 l hl=>by
  obtain⟨t,_,rfl⟩:=tf hl;by_cases e:p 0/8%4=0/\t=p 0/32%3
  ·rw[aj e];exact h2 t
  ·rw[ah e];exact h1 t
 have hl:=yB A p n;have hq:∀t,∀q∈oV A p n t,(q.c= -1/\q.cap=true\/0<=q.c/\q.c<n)/\xY q.q:=λt q hq=>by
  obtain⟨k,k1,k2,_,_,k5⟩:=Bd A p n t q hq;exact⟨.inr ⟨oO,oO⟩,k5⟩
 refine⟨by rw[aG];show _+1<=2;omega,hm h.tn (by unfold wS;rw[j9];exact aH _),hm h.pn (hx (λt=>by have:=hl t;omega) λt=>by rw[aG];have:=hl t;show _+1<=8;omega),hm h.pt (hx hq λt q hq2=> ?_),?_⟩
 ·rcases bO.1 hq2 with h1|h1
  ·exact hq t q h1
  ·rw[aZ.1 h1];have:p 0/96%7<7:=bG _ dD;exact⟨.inl ⟨rfl,rfl⟩,xY.nat oO⟩
 ·obtain⟨n1,n2⟩:=Rk A p n;have e:xW (A++[wS A n p])=xW A++nj (wS A n p).flatten:=by
   unfold xW;rw[bH,eZ,jB,gy]
  rw[e,dt];refine⟨h.nd,n1,λa ha b hb hab=> ?_⟩;obtain⟨k,_,k2,k3⟩:=n2 b hb;rw[hab,k2]at ha;rw[Pu ha]at k3;exact Bool.noConfusion k3
theorem SA (size:Nat) (n:Nat->Nat) (Q:List (Nat->Nat)) (hn:∀i,n i<=6):∀j i,Vz (uE size n Q j i) (n i)
 |0,_=>⟨aB _,λ_ h=>absurd h (df),λ_ h=>absurd h (df),λ_ h=>absurd h (df),fD⟩
 |j+1,i=>by
  have h:=SA size n Q hn j i;unfold uE;split
  ·rename_i e;exact h.snoc e.2 (hn i) _
  ·exact h
theorem Qc (size:Nat) (L:List (Nat->Nat)):∀j i,∀c∈yt size L j i,-1<=c.h/\c.h<size/\c.h≠i/\0<=c.rk/\c.rk<=2/\xY c.q
 |0,_,c,hc=>by cases hc
 |j+1,i,c,hc=>by
  unfold yt at hc;split at hc
  ·rename_i e;rcases bO.1 hc with h|h
   ·exact Qc size L j i c h
   ·rw[aZ.1 h];have h2:(L.getD j z4) 2%3<3:=bG _ dD;obtain⟨h,hh⟩:=jz ((L.getD j z4) 1% (size+1));obtain⟨k,hk⟩:=jz ((L.getD j z4) 0%size);have e1:=e.1;have h1:(T4 size (L.getD j z4)).h=if h=k\/size<=h then-1 else(h:Int):=by rw[hh,hk];rfl
    rw[<-hk]at e1;refine⟨?_,?_,?_,by show(0:Int)<=((_:Nat):Int);omega,by show((_:Nat):Int)<=2;omega,xY.rC _⟩;all_goals
     rw[h1];split
     ·omega
     ·omega
  ·exact Qc size L j i c hc
theorem Pt {p:Nat×Nat} {ds:List sL} (h:p∈ds.flatMap sL.legs):Fb p ds=true:=by
 obtain⟨d,hd,h⟩:=dQ.1 h;exact dG.2 ⟨d,hd,dG.2 ⟨p,h,ao rfl⟩⟩
structure Re (ds:List sL) (n:Nat) (cl:Nat->List qZ) (i c:Nat) (s:Qm):Prop where
 m:∀q∈s.l,q.1<n/\q.2<(cl q.1).length/\Fb q ds=false/\((cl q.1).getD q.2 pb).h=s.ho/\(q.1<i\/q.1=i/\q.2<c)
 nd:s.l.Nodup
section
variable {ds : List sL} {n : Nat} {cl : Nat → List qZ} {i c : Nat} {s : Qm}
theorem Re.mono (h:Re ds n cl i c s) {i' c':Nat} (hl:i<i'\/i=i'/\c<=c'):Re ds n cl i' c' s:=⟨λq hq=>by
 obtain⟨a1,a2,a3,a4,a5⟩:=h.m q hq;exact⟨a1,a2,a3,a4,oO⟩,h.nd⟩
theorem Re.step (h:Re ds n cl i c s) (d:Nat->Nat) (hi:i<n) (hc:c<(cl i).length):Re ds n cl i (c+1) (qB ds d i ((cl i).getD c pb) c s):=by
 have h0:=h.mono (i':=i) (c':=c+1) (.inr ⟨rfl,Nat.le_succ _⟩);unfold qB;split
 ·exact h0
 ·rename_i e1;split
  ·rename_i e2;refine⟨λq hq=> ?_,?_⟩
   ·rcases bO.1 hq with h1|h1
    ·obtain⟨a1,a2,a3,a4,a5⟩:=h0.m q h1;refine⟨a1,a2,a3,?_,a5⟩;rcases e2.2 with e3|e3
     ·rw[e3]at h1;cases h1
     ·exact a4.trans e3.symm
    ·rw[aZ.1 h1];refine⟨hi,hc,?_,rfl,.inr ⟨rfl,eo _⟩⟩;cases hg:Fb (i,c) ds
     ·rfl
     ·exact absurd (.inl hg) e1
   ·rw[dt];refine⟨h.nd,by simp,λa ha b hb hab=> ?_⟩;rw[aZ]at hb;have:=(h.m a ha).2.2.2.2;rw[hab,hb]at this;rcases this with h1|h1
    ·exact absurd h1 (dH _)
    ·exact absurd h1.2 (dH _)
  ·exact⟨h0.m,h0.nd⟩
theorem SL (d:Nat->Nat) (hi:i<n) (h:Re ds n cl i 0 s):∀c,c<=(cl i).length->Re ds n cl i c (Io ds d i (cl i) c s)
 |0,_=>h
 |c+1,hc=>(SL d hi h c oO).step d hi oO
theorem Sb (ds:List sL) (n:Nat) (cl:Nat->List qZ) (d:Nat->Nat):∀i,i<=n->Re ds n cl i 0 (Jp ds d cl i)
 |0,_=>⟨λq hq=>(by cases hq),fD⟩
 |i+1,hi=>(SL d oO (Sb ds n cl d i oO) (cl i).length (aH _)).mono (.inl (eo _))
end
structure WZ (n:Nat) (cl:Nat->List qZ) (ds:List sL):Prop where
 k:ds.length<=3
 m:∀d∈ds,xY d.W/\d.legs.length<=4/\∃ho:Int,∀q∈d.legs,q.1<n/\q.2<(cl q.1).length/\((cl q.1).getD q.2 pb).h=ho
 nd:(ds.flatMap sL.legs).Nodup
theorem Sa (n:Nat) (cl:Nat->List qZ) (hc:∀i,i<n->(cl i).length<=10) (D:List (Nat->Nat)):∀j,WZ n cl (Gg n cl D j)
 |0=>⟨aB _,λd hd=>(by cases hd),fD⟩
 |j+1=>by
  have h:=Sa n cl hc D j;unfold Gg;split
  ·rename_i e;obtain⟨d,hd⟩:=jz (D.getD j z4);obtain⟨ds,hds⟩:=jz (Gg n cl D j);rw[<-hds]at h e;rw[<-hd,<-hds];have b:=Sb ds n cl d n (aH _);have b4:=(Kv ds d cl n hc n (aH _)).2;have hp:(RO ds d cl n).Perm (Jp ds d cl n).l:=by
    unfold RO;split
    ·exact List.reverse_perm _
    ·exact dS _
   refine⟨by rw[aG];show _+1<=3;omega,λx hx=> ?_,?_⟩
   ·rcases bO.1 hx with h1|h1
    ·exact h.m x h1
    ·rw[aZ.1 h1];refine⟨xY.rC _,by show(RO ds d cl n).length<=4;rw[hp.length_eq];exact b4,(Jp ds d cl n).ho,λq hq=> ?_⟩;obtain⟨a1,a2,_,a4,_⟩:=b.m q (hp.mem_iff.1 hq);exact⟨a1,a2,a4⟩
   ·rw[dy,cK,dt];refine⟨h.nd,hp.nodup_iff.2 b.nd,λx hx y hy hxy=> ?_⟩;have h1:=(b.m y (hp.mem_iff.1 hy)).2.2.1;rw[<-hxy,Pt hx]at h1;exact Bool.noConfusion h1
  ·exact h
def Wc (n:Nat) (cash:List Nat) (L D:List (Nat->Nat)):mZ:=Gj (1+n%4) (oE cash) (yt (1+n%4) L L.length) (Gg (1+n%4) (yt (1+n%4) L L.length) D D.length)
def VZ (n:Nat) (L Q:List (Nat->Nat)):Nat->List (List (List mK)):=uE (1+n%4) (λi=>(yt (1+n%4) L L.length i).length) Q Q.length
theorem Ue (cash:List Nat) (i:Nat):xY (oE cash i):=by
 unfold oE;split
 ·exact xY.rC _
 ·exact xY.zero
theorem Ty (n:Nat) (cash:List Nat) (L Q D:List (Nat->Nat)):Le xY (Wc n cash L D) (VZ n L Q):=by
 obtain⟨m,hm⟩:=jz (1+n%4);have hm4:m<=4/\0<m:=oO;obtain⟨cl,hcl⟩:=jz (yt m L L.length);have hc6:∀i,(cl i).length<=6:=λi=>by rw[hcl];exact Bg m L _ i
 have hcc:∀i,∀c∈cl i,-1<=c.h/\c.h<m/\c.h≠i/\0<=c.rk/\c.rk<=2/\xY c.q:=λi=>by rw[hcl];exact Qc m L L.length i
 obtain⟨ds,hds⟩:=jz (Gg m cl D D.length);have hd:WZ m cl ds:=by rw[hds];exact Sa m cl (λi _=>dx (hc6 i) dD) D D.length
 have hA:∀i,Vz (VZ n L Q i) (cl i).length:=λi=>by
  unfold VZ;rw[<-hm,<-hcl];exact SA m _ Q hc6 Q.length i
 have hg:Wc n cash L D=Gj m (oE cash) cl ds:=by unfold Wc;rw[<-hm,<-hcl,<-hds]
 rw[hg];obtain⟨A,hAe⟩:=jz (VZ n L Q);rw[<-hAe]at hA⊢;have hn:(Gj m (oE cash) cl ds).n=m:=OB _ _ _ _;have he:∀i,i<m->(Gj m (oE cash) cl ds).e i=⟨oE cash i,cl i⟩:=λi hi=>NA _ _ _ hi;have hcx:∀i,i<m->∀c,(Gj m (oE cash) cl ds).c i c=(cl i).getD c pb:=λi hi c=>by unfold mZ.c;rw[he i hi]
 have hcn:∀i,i<m->(Gj m (oE cash) cl ds).cn i=(cl i).length:=λi hi=>by unfold mZ.cn;rw[he i hi]
 have hdm:∀k,k<ds.length->((Gj m (oE cash) cl ds).d k)∈ds:=λk hk=>kE ds k si hk;have hlg:∀k,k<ds.length->∀j,j<((Gj m (oE cash) cl ds).d k).legs.length->(Gj m (oE cash) cl ds).lg k j∈((Gj m (oE cash) cl ds).d k).legs:=λk hk j hj=>kE _ j (0,0) hj;refine⟨oO,oO,by have:=hd.k;show ds.length<=6;omega,λi hi=> ?_,λd h=>((hd.m _ (hdm d h))).1,λd h=>((hd.m _ (hdm d h))).2.1,λk hk j hj=> ?_,λi hi c hc hh=> ?_,λk hk j hj=> ?_,by rw[KC];exact hd.nd⟩
 ·rw[hn]at hi⊢;rw[he i hi];have a:=hA i;refine⟨Ue cash i,by have:=hc6 i;show(cl i).length<=7;omega,λc hc=> ?_,a.an,a.tn,a.pn,a.pt,a.nd⟩;obtain⟨a1,a2,a3,a4,a5,a6⟩:=hcc i c hc;exact⟨a1,a2,a3,a4,oO,a6⟩
 ·obtain⟨_,_,ho,h⟩:=hd.m _ (hdm k hk);obtain⟨h1,h2,h3⟩:=h _ (hlg k hk j hj);exact⟨by rw[hn];exact h1,by rw[hcn _ h1];exact h2⟩
 ·rw[hn]at hi;rw[hcn i hi]at hc;rw[hcx i hi]at hh⊢;obtain⟨a1,a2,_⟩:=hcc i _ (kE (cl i) c pb hc);refine⟨((cl i).getD c pb).h.toNat,by rw[hn];omega,oO⟩
 ·obtain⟨_,_,ho,h⟩:=hd.m _ (hdm k hk);obtain⟨h1,_,h3⟩:=h _ (hlg k hk j hj);obtain⟨g1,_,g3⟩:=h _ (hlg k hk 0 oO);rw[hcx _ h1,hcx _ g1,h3,g3]
theorem Dc.mono {P Q:Rat->Prop} (h:∀q,P q->Q q) {n i:Nat} {e:NH} {A:List (List (List mK))} (a:Dc P n i e A):Dc Q n i e A:=
 ⟨h _ a.cash,a.cn,λc hc=>by obtain⟨a1,a2,a3,a4,a5,a6⟩:=a.cl c hc;exact⟨a1,a2,a3,a4,a5,h _ a6⟩,a.an,a.tn,a.pn,λX hX l hl p hp=>⟨(a.pt X hX l hl p hp).1,h _ (a.pt X hX l hl p hp).2⟩,a.nd⟩
theorem Le.mono {P Q:Rat->Prop} (h:∀q,P q->Q q) {g:mZ} {A:Nat->List (List (List mK))} (a:Le P g A):Le Q g A:=
 ⟨a.n0,a.n,a.dn,λi hi=>(a.es i hi).mono h,λd hd=>h _ (a.W d hd),a.ln,a.lg,a.ho,a.hl,a.nd⟩
theorem Le.v {g:mZ} {A:Nat->List (List (List mK))} (a:Le xY g A):GV 60 g A:=⟨a.mono λ_ h=>h.1,dD,lu dD⟩
section
variable {f : Rat}
theorem OA (hf:0<f) {p q:Rat}:p*f<q*f↔p<q:=by
 have key:∀ {a b:Rat},a<b->a*f<b*f:=fun {a b} h=>by
  have:=Rat.mul_pos (show 0<b-a by grind) hf;grind
 refine⟨λh=> ?_,key⟩;by_cases h1:p<q
 ·exact h1
 ·by_cases h2:q<p
  ·have:=key h2;grind
  ·have:p=q:=Rat.le_antisymm (gF.1 h2) (gF.1 h1);rw[this]at h;exact absurd h dz
theorem CE (hf:0<f) {p q:Rat}:p*f<=q*f↔p<=q:=by
 rw[<-gF,<-gF,OA hf]
theorem Q0 (hf:0<f) (p q:Rat):wq (p*f) (q*f)=wq p q*f:=by
 unfold wq;by_cases h:p<=q
 ·rw[aj h,aj ((CE hf).2 h)]
 ·rw[ah h,ah λg=>h ((CE hf).1 g)]
theorem NT (hf:0<f) (p:Rat):pQ (p*f)=pQ p*f:=by
 have h0:(0:Rat)=0*f:=(dh f).symm;unfold pQ Dy;by_cases h:0<=p
 ·rw[aj h,aj (by rw[h0];exact(CE hf).2 h)]
 ·rw[ah h,ah λg=>h (by rw[h0]at g;exact(CE hf).1 g)];exact h0
theorem Tn (hf:0<f) (m s:Rat):m*f/(s*f)=m/s:=by
 have hf0:=ux hf;by_cases hs:s=0
 ·rw[hs,dh,bT,bT,Rat.inv_zero,dR,dR]
 ·have h1:m/s*s=m:=fJ hs;have h2:s*f≠0:=λe=>by
   rcases eW.1 e with h|h
   ·exact hs h
   ·exact hf0 h
  have h3:m*f/(s*f)*(s*f)=m*f:=fJ h2;have h4:(m*f/(s*f)-m/s)*(s*f)=0:=by
   have:m/s*(s*f)=m*f:=by rw[<-gN,h1]
   grind
  rcases eW.1 h4 with h|h
  ·grind
  ·exact absurd h h2
def AT (f:Rat) (t:Tr):Tr:=⟨t.ps.map λp=>⟨p.c,p.q*f⟩,t.sm*f⟩
def Rz (f:Rat) (y:Ly):Ly:=⟨y.n,y.rk.map (AT f),y.pl.map λp=>⟨p.mem,p.ld.map (AT f)⟩,y.tot*f⟩
theorem OJ (hf:0<f) (c:Int):∀(T:List Tr) (m:Rat),tk (T.map (AT f)) (m*f) c=tk T m c*f
 | [],m=>(dh f).symm
 |t::T,m=>by
  rw[db,o9,o9];show(if m*f<t.sm*f then rC c (t.ps.map _)*(m*f/(t.sm*f))else rC c (t.ps.map _)+tk (T.map (AT f)) (m*f-t.sm*f) c)=_;rw[F4,Tn hf,show m*f-t.sm*f=(m-t.sm)*f by grind,OJ hf c T];by_cases h:m<t.sm
  ·rw[aj h,aj ((OA hf).2 h)];grind
  ·rw[ah h,ah λg=>h ((OA hf).1 g)];grind
theorem IM {α:Type} {g h:α->Rat}:∀ {l:List α},(∀a∈l,g a=h a*f)->mU g l=mU h l*f
 | [],_=>(dh f).symm
 |a::l,e=>by
  show g a+mU g l=(h a+mU h l)*f;rw[e a (aQ ..),IM λb hb=>e b (aK _ hb)];grind
theorem KQ {α β:Type} (g:β->Rat) (h:α->β):∀l:List α,mU g (l.map h)=mU (λa=>g (h a)) l
 | []=>rfl
 |a::l=>by
  show g (h a)+mU g (l.map h)=g (h a)+mU _ l;rw[KQ g h l]
theorem uf {g h:Nat->Rat} {n:Nat} (e:∀i,i<n->g i=h i*f):kg g n=kg h n*f:=by
 rw[kp e,gu,<-qm];exact kp λi _=>gu _ _
theorem HZ (hf:0<f) (y:Ly) (m:Rat) (k:Nat):lF (Rz f y) (m*f) k=lF y m k*f:=by
 rw[pE,pE];exact OJ hf _ _ _
theorem VV (hf:0<f) (y:Ly) (m:Rat) (p:Pl) (q:List Tr):PS (Rz f y) (m*f) ⟨p.mem,q⟩=PS y m p*f:=by
 unfold PS;rw[n5,n5];exact IM λa _=>HZ hf y m a
theorem SX (y:Ly):(Rz f y).pl.flatMap Pl.mem=y.pl.flatMap Pl.mem:=by
 show(y.pl.map λp=>(⟨p.mem,p.ld.map (AT f)⟩:Pl)).flatMap Pl.mem=_;rw[List.flatMap_map]
theorem VD (hf:0<f) (y:Ly) (m:Rat) (k:Nat):dC (Rz f y) (m*f) k=dC y m k*f:=by
 rw[wP,wP,oK,oK,SX,HZ hf];have h:mU (λp=>tk p.ld (PS (Rz f y) (m*f) p) k) (Rz f y).pl=mU (λp=>tk p.ld (PS y m p) k) y.pl*f:=by
  show mU _ (y.pl.map λp=>(⟨p.mem,p.ld.map (AT f)⟩:Pl))=_;rw[KQ];refine IM λp _=> ?_;show tk (p.ld.map (AT f)) (PS (Rz f y) (m*f) ⟨p.mem,p.ld.map (AT f)⟩) k=_;rw[VV hf,OJ hf]
 rw[h];split<;>grind
def SV (f:Rat) (s:(Nat->Rat)×Tr):(Nat->Rat)×Tr:=(λk=>s.1 k*f,AT f s.2)
theorem EN (t:Tr) (c:Int) (q:Rat):uq (AT f t) ⟨c,q*f⟩=AT f (uq t ⟨c,q⟩):=by
 unfold uq AT;rw[bH,iu];rfl
theorem TE (hf:0<f) (g:Nat->Rat) (p:mK):Da (λk=>g k*f) (Bb f p)=Da g p*f:=by
 unfold Da;show(if p.c= -1 then p.q*f else if p.cap=true then wq (g p.c.toNat*f) (p.q*f)else g p.c.toNat*f)=_;rw[Q0 hf];split
 ·rfl
 ·split<;>rfl
theorem TO (hf:0<f) (s:(Nat->Rat)×Tr) (p:mK):Pg (SV f s) (Bb f p)=SV f (Pg s p):=by
 have h:Da (SV f s).1 (Bb f p)=Da s.1 p*f:=TE hf s.1 p;unfold Pg;rw[h];show(if p.c= -1 then λk=>s.1 k*f else H3 (λk=>s.1 k*f) p.c.toNat (s.1 p.c.toNat*f-Da s.1 p*f),uq (AT f s.2) ⟨p.c,Da s.1 p*f⟩)=_;rw[EN];unfold SV;congr 1;split
 ·rfl
 ·funext k;show(if k=p.c.toNat then s.1 p.c.toNat*f-Da s.1 p*f else s.1 k*f)=(if k=p.c.toNat then s.1 p.c.toNat-Da s.1 p else s.1 k)*f;split
  ·grind
  ·rfl
theorem JQ (hf:0<f):∀(l:List mK) (s:(Nat->Rat)×Tr),(l.map (Bb f)).foldl Pg (SV f s)=SV f (l.foldl Pg s)
 | [],_=>rfl
 |p::l,s=>by
  rw[db,ga,ga,TO hf,JQ hf l]
theorem PQ (f:Rat):AT f rH=rH:=by
 unfold AT rH;rw[dh];rfl
theorem Uk (hf:0<f) (g:Nat->Rat) (l:List mK) (j:Nat):yc (λk=>g k*f) (l.map (Bb f)) j=SV f (yc g l j):=by
 unfold yc;rw[<-List.map_take,<-JQ hf];unfold SV;rw[PQ]
theorem getD_map' {α β:Type} (h:α->β) (l:List α) (i:Nat) (d:α) (d':β) (e:h d=d'):(l.map h).getD i d'=h (l.getD i d):=by
 rw[ap,ap,iz];cases l[i]?with
 |none=>exact e.symm
 |some x=>rfl
theorem Pj (hf:0<f) (g:Nat->Rat) (X:List (List mK)):∀i,v9 (λk=>g k*f) (AY f X) i=((λk=>(v9 g X i).1 k*f),(v9 g X i).2.map (AT f))
 |0=>rfl
 |i+1=>by
  have h1:=Pj hf g X i;have h2:(AY f X).getD i []=(X.getD i []).map (Bb f):=getD_map' _ X i [] [] rfl;show((yc (v9 _ (AY f X) i).1 ((AY f X).getD i []) ((AY f X).getD i []).length).1,(v9 _ (AY f X) i).2++[(yc (v9 _ (AY f X) i).1 ((AY f X).getD i []) ((AY f X).getD i []).length).2])=_;rw[h1,h2,Uk hf,aS];show(_,_)=(_,List.map (AT f) (_++[_]));rw[bH];rfl
theorem Gw (g:Nat->Rat):∀(m:List Int) (t:Tr),m.foldl (λt i=>uq t ⟨i,g i.toNat*f⟩) (AT f t)=AT f (m.foldl (λt i=>uq t ⟨i,g i.toNat⟩) t)
 | [],_=>rfl
 |i::m,t=>by rw[ga,ga,EN,Gw g m]
theorem Tl (g:Nat->Rat) (m:List Int) (j:Nat):Dw (λk=>g k*f) m j=AT f (Dw g m j):=by
 unfold Dw;rw[<-Gw,PQ]
theorem KR (X:List (List mK)):sR (AY f X)=sR X:=by
 unfold sR;rw[Hb,KZ]
theorem EP (cl:List qZ) (k:Nat):(cl.map (wv f)).getD k pb=wv f (cl.getD k pb):=getD_map' _ cl k pb pb (by unfold wv pb;rw[dh])
theorem Ja (cl:List qZ):pZ (cl.map (wv f))=λk=>pZ cl k*f:=by
 funext k;unfold pZ;rw[EP];rfl
theorem Ru (hf:0<f) (cl:List qZ) (X:List (List mK)):A0 (cl.map (wv f)) (AY f X)=(A0 cl X).map (AT f):=by
 have hl:(AY f X).length=X.length:=aS ..;unfold A0;rw[Ja,hl,Pj hf,KR,Tl,bH];rfl
theorem Pp (cl:List qZ) (r:Nat):∀i,r9 (cl.map (wv f)) i r=AT f (r9 cl i r)
 |0=>(PQ f).symm
 |i+1=>by
  unfold r9;rw[EP,Pp cl r i];show(if r=(cl.getD i pb).rk.toNat then uq (AT f (r9 cl i r)) ⟨i,pZ (cl.map (wv f)) i⟩else _)=_;rw[Ja,EN];split<;>rfl
theorem RT (hf:0<f) (cl:List qZ) (A:List (List (List mK))):oQ (cl.map (wv f)) (zr f A)=Rz f (oQ cl A):=by
 have h1:(ky 8 λr=>r9 (cl.map (wv f)) cl.length r)=(ky 8 λr=>r9 cl cl.length r).map (AT f):=by
  show _=[_,_,_,_,_,_,_,_];exact kF λr _=>Pp cl r _
 have h2:(zr f A).map (EJ (cl.map (wv f)))=(A.map (EJ cl)).map λp=>(⟨p.mem,p.ld.map (AT f)⟩:Pl):=by
  unfold zr;rw[fK,fK];refine eY λX _=> ?_;show(⟨(sR (AY f X)).map Int.toNat,A0 (cl.map (wv f)) (AY f X)⟩:Pl)=⟨(sR X).map Int.toNat,(A0 cl X).map (AT f)⟩;rw[KR,Ru hf]
 unfold oQ Rz;rw[aS,h1,h2,Ja];congr 1;exact uf λ_ _=>rfl
theorem QL (hf:0<f) {q q':Nat->Rat} {k:Nat} (h:∀j,j<k->q' j=q j*f):nY q' k=nY q k*f:=uf λj hj=>by rw[h j hj,NT hf]
theorem Pe (hf:0<f) {W:Rat} {q q':Nat->Rat} {k:Nat} (h:∀j,j<k->q' j=q j*f):wu (W*f) q' k=wu W q k*f:=by
 rw[pY,pY,QL hf h,NT hf W,<-NT hf (nY q k-pQ W)];congr 1;grind
theorem I1 (hf:0<f) {W:Rat} {q q':Nat->Rat} {k:Nat} (h:∀j,j<k+1->q' j=q j*f):tJ (W*f) q' k=tJ W q k*f:=by
 unfold tJ;rw[Pe hf h,Pe hf λj hj=>h j oO];grind
theorem Tx (hf:0<f) {W:Rat} {q q':Nat->Rat} {n:Nat} (h:∀j,j<n->q' j=q j*f):yd (W*f) q' n=yd W q n*f:=by
 unfold yd;rw[uf h,uf λk hk=>I1 hf λj hj=>h j oO];grind
structure R9 (f:Rat) (g g':mZ):Prop where
 n:g'.n=g.n
 dn:g'.ds.length=g.ds.length
 W:∀d,d<g.ds.length->(g'.d d).W=(g.d d).W*f
 lg:∀d,d<g.ds.length->(g'.d d).legs=(g.d d).legs
 cash:∀i,i<g.n->A1 g' i=A1 g i*f
 ho:∀d,d<g.ds.length->0<mw g d->Gr g' d=Gr g d
section
variable {g g' : mZ} {B B' : Nat → Nat → Bool} {dl dl' : Nat → Nat → Rat} {Y Y' : Nat → Ly}
def VB (f:Rat) (g:mZ) (dl dl':Nat->Nat->Rat):Prop:=∀d,d<g.ds.length->∀k,k<mw g d->dl' (g.lg d k).1 (g.lg d k).2=dl (g.lg d k).1 (g.lg d k).2*f
theorem R9.l (S:R9 f g g') {d:Nat} (hd:d<g.ds.length):(∀k,g'.lg d k=g.lg d k)/\mw g' d=mw g d:=by
 unfold mZ.lg mw;rw[S.lg d hd];exact⟨λ_=>rfl,rfl⟩
theorem R9.q (S:R9 f g g') (h:VB f g dl dl') {d:Nat} (hd:d<g.ds.length):∀k,k<mw g d->qD g' dl' d k=qD g dl d k*f:=λk hk=>by
 unfold qD;rw[(S.l hd).1];exact h d hd k hk
theorem T9 (hf:0<f) (S:R9 f g g') (h:VB f g dl dl') {j:Nat} (hr:∀i,i<g.n->pR g' B' dl' j i=pR g B dl j i*f):F0 g' B' dl' j=F0 g B dl j*f:=by
 unfold F0;rw[S.n,S.dn,uf hr,iu];congr 1;refine uf λd hd=> ?_;obtain⟨l1,l2⟩:=S.l hd;have hq:=S.q h hd;unfold o5;rw[l2,S.W d hd,iu];congr 1
 ·refine uf λk hk=> ?_;rw[l1,I1 hf λj hj=>hq j oO];split
  ·rfl
  ·exact(dh f).symm
 ·by_cases h0:0<mw g d
  ·rw[S.ho d hd h0,Tx hf hq];split
   ·rfl
   ·exact(dh f).symm
  ·rw[ah λe=>h0 e.1,ah λe=>h0 e.1];exact(dh f).symm
theorem KL (hf:0<f) (S:R9 f g g') (h:VB f g dl dl') {d:Nat} (hd:d<g.ds.length) {u u':Nat->Nat->Rat} (hu:∀i c,u' i c=u i c*f):∀k,k<=mw g d->∀i c,Lf g' dl' d u' k i c=Lf g dl d u k i c*f
 |0,_,i,c=>hu i c
 |k+1,hk,i,c=>by
  have ih:=KL hf S h hd hu k oO i c;show Ds (Lf g' dl' d u' k) (g'.lg d k).1 (g'.lg d k).2 (tJ (g'.d d).W (qD g' dl' d) k) i c=Ds (Lf g dl d u k) (g.lg d k).1 (g.lg d k).2 (tJ (g.d d).W (qD g dl d) k) i c*f;rw[(S.l hd).1,S.W d hd,I1 hf λj hj=>S.q h hd j oO];unfold Ds;split
  ·rfl
  ·exact ih
theorem KF (hf:0<f) (S:R9 f g g') (h:VB f g dl dl'):∀d,d<=g.ds.length->∀i c,Db g' dl' d i c=Db g dl d i c*f
 |0,_,_,_=>(dh f).symm
 |d+1,hd,i,c=>by
  have ih:=KF hf S h d oO;show Lf g' dl' d (Db g' dl' d) (mw g' d) i c=Lf g dl d (Db g dl d) (mw g d) i c*f;rw[(S.l (d:=d) oO).2];exact KL hf S h oO ih _ (aH _) i c
theorem Rh (hf:0<f) (S:R9 f g g') {x:Nat->Rat} (G:Sn g Y B x) (hF:∀y:Nat->Rat,(∀i,i<g.n->0<=y i)->∀j,j<g.n->F0 g' B' (lG Y' λi=>y i*f) j=F0 g B (lG Y y) j*f):Sn g' Y' B' λi=>x i*f:=by
 refine⟨λi hi=> ?_,λj hj=> ?_,λy h0 h1 j hj=> ?_⟩
 ·rw[S.n]at hi;exact i3 (G.nn i hi) (dj hf)
 ·rw[S.n]at hj;rw[hF x G.nn j hj,S.cash j hj,<-iu,<-G.fx j hj]
 ·rw[S.n]at h0 h1 hj;obtain⟨z,hz⟩:∃z:Nat->Rat,z=λi=>y i/f:=⟨_,rfl⟩;have hy:y=λi=>z i*f:=by
   funext i;rw[hz];exact(fJ (ux hf)).symm
  rw[hy]at h0 h1⊢;have z0:∀i,i<g.n->0<=z i:=λi hi=>by
   have:=h0 i hi;rw[<-dh f]at this;exact(CE hf).1 this
  refine(CE hf).2 (G.top z z0 (λi hi=> ?_) j hj);have:=h1 i hi;rw[hF z z0 i hi,S.cash i hi,<-iu]at this;exact(CE hf).1 this
theorem WK {a b:Rat} (h:a=b):a<=b:=h▸bS
theorem Q8 {x y:Nat->Rat} (G:Sn g Y B x) (H:Sn g Y B y):∀i,i<g.n->x i=y i:=λi hi=>
 Rat.le_antisymm (H.top x G.nn (λj hj=>WK (G.fx j hj)) i hi) (G.top y H.nn (λj hj=>WK (H.fx j hj)) i hi)
end
end
section
variable {f : Rat} {g : mZ} {A : Nat → List (List (List mK))}
theorem H4 (f:Rat) (g:mZ) (i:Nat):(tC f g).e i=S6 f (g.e i):=getD_map' _ g.es i OK OK (by unfold S6 OK;rw[dh];rfl)
theorem CB (f:Rat) (g:mZ) (i:Nat):(tC f g).d i=Ut f (g.d i):=getD_map' _ g.ds i si si (by unfold Ut si;rw[dh])
theorem Hx (f:Rat) (g:mZ) (i c:Nat):(tC f g).c i c=wv f (g.c i c):=by
 unfold mZ.c;rw[H4];exact EP _ _
theorem UR (f:Rat) (g:mZ) (i c:Nat):((tC f g).c i c).h=(g.c i c).h:=by rw[Hx];rfl
theorem Fm (f:Rat) (g:mZ) (i:Nat):(tC f g).cn i=g.cn i:=by
 unfold mZ.cn;rw[H4];exact aS ..
theorem EV (f:Rat) (g:mZ) (d k:Nat):(tC f g).lg d k=g.lg d k:=by
 unfold mZ.lg;rw[CB];rfl
theorem BD (f:Rat) (g:mZ):R9 f g (tC f g):=by
 refine⟨He f g,aS ..,λd _=>by rw[CB];rfl,λd _=>by rw[CB];rfl,λi _=>by unfold A1;rw[H4];rfl,λd _ _=> ?_⟩;unfold Gr;rw[EV,Hx];rfl
theorem PX (f:Rat) (g:mZ):AL (tC f g)=AL g:=by
 rw[KC,KC];show(g.ds.map (Ut f)).flatMap _=_;rw[List.flatMap_map];rfl
theorem Qh (hf:0<f) (g:mZ) (A:Nat->List (List (List mK))) (y:Nat->Rat) (i c:Nat):lG (λi=>oQ ((tC f g).e i).cl (zr f (A i))) (λi=>y i*f) i c=lG (λi=>oQ (g.e i).cl (A i)) y i c*f:=by
 show dC (oQ ((tC f g).e i).cl (zr f (A i))) (y i*f) c=dC (oQ (g.e i).cl (A i)) (y i) c*f;rw[H4];show dC (oQ ((g.e i).cl.map (wv f)) (zr f (A i))) (y i*f) c=_;rw[RT hf,VD hf]
theorem VG {D0 D1:Nat} (hf:0<f) (h:GV D0 g A) (h':GV D1 (tC f g) λi=>zr f (A i)):∀i,i<g.n->xS (tC f g) (λi=>zr f (A i)) i=xS g A i*f:=by
 have e:=h'.Wy;rw[PX]at e;have e2:=Rh (Y':=λi=>oQ ((tC f g).e i).cl (zr f (A i))) (B':=xJ (AL g)) hf (BD f g) h.Wy λy _ j _=>by
  have hd:=Qh hf g A y;refine T9 hf (BD f g) (λd hd2 k hk=>hd _ _) λi hi=> ?_;unfold pR;rw[Fm];refine uf λc _=> ?_;rw[UR,hd];by_cases q:(g.c i c).h=(j:Int)/\xJ (AL g) i c=false
  ·rw[aj q,aj q]
  ·rw[ah q,ah q];exact(dh f).symm
 intro i hi;exact Q8 e e2 i (by rw[He];exact hi)
theorem VP {D0 D1:Nat} (hf:0<f) (h:GV D0 g A) (h':GV D1 (tC f g) λi=>zr f (A i)) {i:Nat} (hi:i<g.n) (c:Nat):Ax (tC f g) (λi=>zr f (A i)) i c=Ax g A i c*f:=by
 have hx:=VG hf h h';have hd:∀i,i<g.n->∀c,lG (λi=>oQ ((tC f g).e i).cl (zr f (A i))) (xS (tC f g) λi=>zr f (A i)) i c=lG (λi=>oQ (g.e i).cl (A i)) (xS g A) i c*f:=λi hi c=>by
  rw[<-Qh hf g A (xS g A) i c];unfold lG;rw[hx i hi]
 have hl:VB f g (lG (λi=>oQ (g.e i).cl (A i)) (xS g A)) (lG (λi=>oQ ((tC f g).e i).cl (zr f (A i))) (xS (tC f g) λi=>zr f (A i))):=λd hd2 k hk=>hd _ (h.lg d hd2 k hk).1 _;unfold Ax;rw[hd i hi,(BD f g).dn,KF hf (BD f g) hl _ (aH _)];grind
theorem Dc.sc {P Q:Rat->Prop} (h:∀q,P q->Q (q*f)) {n i:Nat} {e:NH} {A:List (List (List mK))} (a:Dc P n i e A):Dc Q n i (S6 f e) (zr f A):=by
 have hA:∀ {X},X∈zr f A->∃Z∈A,X=AY f Z:=λhX=>by
  obtain⟨Z,hZ,e⟩:=bX.1 hX;exact⟨Z,hZ,e.symm⟩
 have hX:∀ {Z:List (List mK)} {l},l∈AY f Z->∃m∈Z,l=m.map (Bb f):=λhl=>by
  obtain⟨m,hm,e⟩:=bX.1 hl;exact⟨m,hm,e.symm⟩
 refine⟨h _ a.cash,by show(e.cl.map _).length<=7;rw[aS];exact a.cn,λc hc=> ?_,by unfold zr;rw[aS];exact a.an,λX hX2=> ?_,λX hX2 l hl=> ?_,λX hX2 l hl p hp=> ?_,?_⟩
 ·obtain⟨b,hb,rfl⟩:=bX.1 hc;obtain⟨a1,a2,a3,a4,a5,a6⟩:=a.cl b hb;exact⟨a1,a2,a3,a4,a5,h _ a6⟩
 ·obtain⟨Z,hZ,rfl⟩:=hA hX2;unfold AY;rw[aS];exact a.tn Z hZ
 ·obtain⟨Z,hZ,rfl⟩:=hA hX2;obtain⟨m,hm,rfl⟩:=hX hl;rw[aS];exact a.pn Z hZ m hm
 ·obtain⟨Z,hZ,rfl⟩:=hA hX2;obtain⟨m,hm,rfl⟩:=hX hl;obtain⟨q,hq,rfl⟩:=bX.1 hp;obtain⟨b1,b2⟩:=a.pt Z hZ m hm q hq;refine⟨?_,h _ b2⟩;show(q.c= -1/\_)\/0<=q.c/\q.c<((e.cl.map (wv f)).length:Int);rw[aS];exact b1
 ·have:xW (zr f A)=xW A:=by
   unfold xW zr;rw[fK];congr 1;refine eY λX _=> ?_;show nj (AY f X).flatten=_;rw[Hb,KZ]
  rw[this];exact a.nd
theorem Le.sc {P Q:Rat->Prop} (h:∀q,P q->Q (q*f)) (a:Le P g A):Le Q (tC f g) λi=>zr f (A i):=by
 have hn:=He f g;have hdl:(tC f g).ds.length=g.ds.length:=aS ..;refine⟨by rw[hn];exact a.n0,by rw[hn];exact a.n,by rw[hdl];exact a.dn,λi hi=> ?_,λd hd=> ?_,λd hd=> ?_,λd hd j hj=> ?_,λi hi c hc hh=> ?_,λd hd j hj=> ?_,by rw[PX];exact a.nd⟩
 ·rw[hn]at hi⊢;rw[H4];exact(a.es i hi).sc h
 ·rw[CB];rw[hdl]at hd;exact h _ (a.W d hd)
 ·rw[CB];rw[hdl]at hd;exact a.ln d hd
 ·rw[CB]at hj;rw[hdl]at hd;rw[EV,hn,Fm];exact a.lg d hd j hj
 ·rw[hn]at hi⊢;rw[Fm]at hc;rw[Hx]at hh⊢;exact a.ho i hi c hc hh
 ·rw[CB]at hj;rw[hdl]at hd;rw[EV,EV,Hx,Hx];exact a.hl d hd j hj
end
theorem xY.sc {a b:Nat} (ha:a<=40) (hb:0<b) {q:Rat} (h:xY q):r6 (60*b) (q*mkRat (a:Int) b):=by
 obtain⟨⟨h1,⟨z,hz⟩,_⟩,h4⟩:=h;have hb0:(b:Rat)≠0:=λe=>by(have:b=0:=by exact_mod_cast e);omega
 have e1:mkRat (a:Int) b*(b:Rat)=(a:Rat):=by
  rw[fB,cO];exact fJ hb0
 have hb1:(1:Rat)<=(b:Rat):=uy hb;have f0:0<=mkRat (a:Int) b:=by
  rw[fB,cO];exact BP Rat.natCast_nonneg (by grind)
 have f1:mkRat (a:Int) b<=((40:Nat):Rat):=by
  have h2:(a:Rat)<=((40:Nat):Rat):=uy ha;have h3:=nQ hb1 f0;grind
 refine⟨i3 h1 f0,⟨z*a,?_⟩,?_⟩
 ·rw[fY,eG,<-hz,cO,<-e1];grind
 ·have h2:=nQ f1 h1;have h3:=nQ h4 (show(0:Rat)<=((40:Nat):Rat) by decide);have h5:((40:Nat):Rat)*((30:Nat):Rat)<=((2000:Nat):Rat):=by
   rw[<-fY];exact uy dD
  grind
theorem Le.W7 {a b:Nat} (ha:a<=40) (hb:0<b) (hb2:b<=40) {g:mZ} {A:Nat->List (List (List mK))} (h:Le xY g A):GV (60*b) (tC (mkRat (a:Int) b) g) λi=>zr (mkRat (a:Int) b) (A i):=⟨h.sc λ_ hq=>hq.sc ha hb,oO,lu (by show 60*b<_;omega)⟩
theorem Of:GV 60 mv λ_=>[]:=by
 have hn:mv.n=2:=rfl;have h30:r6 60 ((30:Int):Rat):=r6.nat (m:=30) dD;have h40:r6 60 ((40:Int):Rat):=r6.nat (m:=40) dD;have h20:r6 60 ((20:Int):Rat):=r6.nat (m:=20) dD;have h50:r6 60 ((50:Int):Rat):=r6.nat (m:=50) dD;refine⟨⟨dD,dD,dD,λi hi=> ?_,λd hd=>absurd hd (aW _),λd hd=>absurd hd (aW _),λd hd=>absurd hd (aW _),λi hi c hc hh=> ?_,λd hd=>absurd hd (aW _),fD⟩,dD,lu dD⟩
 ·rw[hn]at hi⊢;match i,hi with
  |0,_=>
   refine⟨h30,dD,λc hc=> ?_,dD,λX hX=>(by cases hX),λX hX=>(by cases hX),λX hX=>(by cases hX),fD⟩;rcases bJ.1 hc with rfl|hc
   ·exact⟨dD,dD,dD,dD,dD,h40⟩
   ·rw[aZ.1 hc];exact⟨dD,dD,dD,dD,dD,h20⟩
  |1,_=>
   refine⟨r6.zero 60,dD,λc hc=> ?_,dD,λX hX=>(by cases hX),λX hX=>(by cases hX),λX hX=>(by cases hX),fD⟩;rw[aZ.1 hc];exact⟨dD,dD,dD,dD,dD,h50⟩
 ·rw[hn]at hi;match i,hi,c,hc with
  |0,_,0,_=>exact absurd rfl hh
  |0,_,1,_=>exact⟨1,dD,rfl⟩
  |1,_,0,_=>exact absurd rfl hh
  |0,_,c+2,h=>exact absurd (show c+2<2 from h) oO
  |1,_,c+1,h=>exact absurd (show c+1<1 from h) oO
noncomputable section
theorem FN (x:Nat->Rat) (i c:Nat) (m:Rat) (h:x i=m):lG (λi=>oQ (mv.e i).cl []) x i c=dC (oQ (mv.e i).cl []) m c:=by
 rw[<-h];rfl
theorem Ur:xS mv (λ_=>[]) 0=30/\xS mv (λ_=>[]) 1=10:=by
 have G:=Of.Wy;have hB:∀i c,xJ (AL mv) i c=false:=λ_ _=>rfl;have h0:∀dl,F0 mv (xJ (AL mv)) dl 0=0:=λdl=>by
  show(0+pR mv (xJ (AL mv)) dl 0 0+pR mv (xJ (AL mv)) dl 0 1)+0=0;have a:∀i,i<2->pR mv (xJ (AL mv)) dl 0 i=0:=λi hi=>lr λc hc=>ah λe=>by
   match i,hi,c,hc with
   |0,_,0,_=>exact absurd e.1 dD
   |0,_,1,_=>exact absurd e.1 dD
   |1,_,0,_=>exact absurd e.1 dD
   |0,_,c+2,h=>exact absurd (show c+2<2 from h) oO
   |1,_,c+1,h=>exact absurd (show c+1<1 from h) oO
  rw[a 0 dD,a 1 dD];grind
 have h1:∀dl:Nat->Nat->Rat,F0 mv (xJ (AL mv)) dl 1=dl 0 1:=λdl=>by
  show(0+pR mv (xJ (AL mv)) dl 1 0+pR mv (xJ (AL mv)) dl 1 1)+0=dl 0 1;have a:pR mv (xJ (AL mv)) dl 1 1=0:=lr λc hc=>ah λe=>by
   match c,hc with
   |0,_=>exact absurd e.1 dD
   |c+1,h=>exact absurd (show c+1<1 from h) oO
  have b:pR mv (xJ (AL mv)) dl 1 0=dl 0 1:=by
   show 0+(if(-1:Int)=((1:Nat):Int)/\xJ (AL mv) 0 0=false then dl 0 0 else 0)+(if(1:Int)=((1:Nat):Int)/\xJ (AL mv) 0 1=false then dl 0 1 else 0)=_;rw[ah (λe=>absurd e.1 dD),aj ⟨rfl,rfl⟩];grind
  rw[a,b];grind
 have e0:xS mv (λ_=>[]) 0=30:=by
  rw[G.fx 0 dD,h0];decide+kernel
 refine⟨e0,?_⟩;rw[G.fx 1 dD,h1,FN _ 0 1 30 e0];decide+kernel
theorem JW:Ax mv (λ_=>[]) 0 0=((20:Int):Rat)/\Ax mv (λ_=>[]) 1 0=((10:Int):Rat):=by
 obtain⟨e0,e1⟩:=Ur;unfold Ax;rw[FN _ 0 0 30 e0,FN _ 1 0 10 e1];refine⟨?_,?_⟩
 ·show dC (oQ (mv.e 0).cl []) 30 0-0=_;decide+kernel
 ·show dC (oQ (mv.e 1).cl []) 10 0-0=_;decide+kernel
theorem Qs (w:World):lU Tryz.prog 12 #[] w λr w'=>r= .bool true/\Below w.heap.size w w':=NG w Of.WI JW.1 JW.2
end
end Go.Proofs.YtoeiejliehgopaaGreatDoor
namespace Go.Sx
open Go Go.RowKit Go.ChangeShapes Go.WideShapes Go.Proofs.YtoeiejliehgopaaGreatDoor
section
variable {H : Type} {enc : TypeId × Value → H} {P : Program} {w : World}
theorem Ae {K:Nat} {eK:(Nat->Nat)->List Value} (hK:∀x j u,(eK x)[j]?=some u->j<K/\u= .int .u16 (x j)) {t e q:TypeId} {v:Value} {d:DataW H} {ps:List MemPlace} {b0:Nat} (ht:P.underlying t=some (.slice e)) (he:P.underlying e=some (.array K q)) (hq:P.underlying q=some (.int .u16)) (hce:P.cellsOf e=K) (hcq:P.cellsOf q=1)
  (hval:Value.okWide P w .any b0 t v) (h:DataW.Trod enc P w 0 (λ_=>true) true t v d ps):∃l:List (Nat->Nat),Sl eK K w v l/\∀x∈l,∀i,i<K->x i<65536:=by
 obtain⟨a0,len0,cap0,rfl⟩:=okWide_slice ht hval;obtain⟨fuel,hf⟩:=h;rcases DataW.trod_slice ht hf with⟨h1,_⟩|⟨a,len,cap,elems,rest,n,_,h1,_,_,hlc,hm,hlen,hel,_,_⟩
 ·simp only[Value.cells,gf,and_true]at h1;rw[h1];exact⟨[],Sl.nil _ _ _,λx hx=>by cases hx⟩
 ·simp only[Value.cells,gf,and_true]at h1;rw[h1];have each:∀i,i<len->∃x:Nat->Nat,(∀j,j<K->x j<65536)/\∀j,j<K->w.cell? (a.add (i*K+j))=some (.int .u16 (x j)):=by
   intro i hi;have h2:=hel i hi;rw[hce,aJ (by omega:i<elems.length),Option.bind_eq_some_iff]at h2;obtain⟨cs,hcs,htr⟩:=h2;obtain⟨_,hcl,hcell⟩:=World.cells?_some hcs;obtain⟨xs,m,_,_,_,hxl,hxs⟩:=DataW.trod_array he htr;have hone:∀j,j<K->∃z:Nat,z<65536/\cs[j]?=some (.int .u16 (z:Int)):=by
    intro j hj;have h3:=hxs j hj;rw[hcq,eI,aJ oO]at h3;obtain⟨z,e1,_,hw⟩:=DataW.trod_int hq h3;have hb:=bounds_u16 hw;refine⟨z.toNat,oO,?_⟩;have h0:((cs.drop j).take 1)[0]?=some (.int .u16 z):=by rw[e1];rfl
    rw[fz hb.1];simpa using h0
   refine⟨λj=>if hj:j<K then Classical.choose (hone j hj)else 0,λj hj=> ?_,λj hj=> ?_⟩
   ·simp only[hj,gj];exact(gD (hone j hj)).1
   ·simp only[hj,gj];rw[<-(gD (hone j hj)).2,<-hcell j hj,add_add]
  refine⟨(List.range len).map λi=>if hi:i<len then Classical.choose (each i hi)else λ_=>0,⟨⟨some a,cap,by simp,by simp;exact hlc,hm,λq=>by cases q⟩,λi hi=> ?_⟩,λx hx i hi=> ?_⟩
  ·have hil:i<len:=by simpa using hi
   intro j u hu;rw[ew,jC]at hu;simp only[hil,gj]at hu;obtain⟨hj,rfl⟩:=hK _ _ _ hu;show w.cell? ((a.add (i*K)).add j)=_;rw[add_add];exact(gD (each i hil)).2 j hj
  ·obtain⟨k,hk,rfl⟩:=bX.1 hx;have hkl:=cW.1 hk;simp only[hkl,gj];exact(gD (each k hkl)).1 i hi
end
theorem KU (x:Nat->Nat) (j:Nat) (u:Value) (h:(oW x)[j]?=some u):j<3/\u= .int .u16 (x j):=by
 match j,h with
 |0,h=>exact⟨dD,(bN h).symm⟩
 |1,h=>exact⟨dD,(bN h).symm⟩
 |2,h=>exact⟨dD,(bN h).symm⟩
 |j+3,h=>cases h
theorem Rv (x:Nat->Nat) (j:Nat) (u:Value) (h:(yF x)[j]?=some u):j<4/\u= .int .u16 (x j):=by
 match j,h with
 |0,h=>exact⟨dD,(bN h).symm⟩
 |1,h=>exact⟨dD,(bN h).symm⟩
 |2,h=>exact⟨dD,(bN h).symm⟩
 |3,h=>exact⟨dD,(bN h).symm⟩
 |j+4,h=>cases h
end Go.Sx
