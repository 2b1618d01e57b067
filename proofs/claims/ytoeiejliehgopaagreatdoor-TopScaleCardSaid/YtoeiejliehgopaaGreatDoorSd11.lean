import Derived.Test.YtoeiejliehgopaaGreatDoorSd10
set_option maxRecDepth 20000
set_option maxHeartbeats 8000000
namespace Go.Proofs.YtoeiejliehgopaaGreatDoor
open Go Go.RowKit Go.Sx
def wC (p:Nat×Nat):Value:= .agg #[.int .i64 p.1,.int .i64 p.2]
theorem HC (d:Nat) (p q:Nat×Nat) (w:World):(Op.equalIn (d+2) 66 (wC p) (wC q)).run Tryz.prog w= .ok (decide (p=q)) w:=by
 unfold wC;rw[run_equalIn_agg (P:=Tryz.prog) w (d+1) 66 _ _ kR kR];have hi:Tryz.prog.underlying 3=some (.int .i64):=by kernel_rfl
 simp only[Program.fieldsOf,Tryz.underlying66];simp[Op.eqFields,part,run_equalIn_int (P:=Tryz.prog) w _ _ _ _ _ _ hi];by_cases h1:p.1=q.1<;>by_cases h2:p.2=q.2<;>simp[h1,h2,Prod.ext_iff]<;>omega
theorem yN (em:Bool) (p:Nat×Nat) (w:World):(Instr.checkKey em 10000 66 (wC p)).run Tryz.prog w= .ok () w:=by
 have hi:Tryz.prog.underlying 3=some (.int .i64):=by kernel_rfl
 have hl:=Tryz.underlying66;have h1:∀(n:Nat) (k:Int),(Instr.checkKey em (n+1) 3 (.int .i64 k)).run Tryz.prog w= .ok () w:=λn k=>by
  unfold Instr.checkKey;rw[dP,cS hi w];rfl
 unfold Instr.checkKey wC;rw[dP,cS hl w];simp[part,h1]
theorem Lp (p:Nat×Nat) (w:World):∀(es:List MapEntry) (i:Nat) (l:List (Nat×Nat)),es.map (·.key)=l.map wC->p∉l->(Instr.findAsking 66 (wC p) es i).run Tryz.prog w= .ok none w
 | [],_,_,_,_=>rfl
 |e::es,i,[],h,_=>by cases h
 |e::es,i,q::l,h,hp=>by
  rw[db,db,gf]at h;rw[bJ,not_or]at hp;have h1:=HC 9998 p q w;rw[ae hp.1]at h1;have ih:=Lp p w es (i+1) l h.2 hp.2;unfold Instr.findAsking;rw[h.1,dP];show Result.andThen ((Op.equalIn 10000 _ _ _).run _ _) _=_;rw[h1];exact ih
theorem GZ (p:Nat×Nat) (w:World) (es:List MapEntry) (l:List (Nat×Nat)) (h:es.map (·.key)=l.map wC) (hp:p∉l):(Instr.findKey 66 (wC p) es).run Tryz.prog w= .ok none w:=by
 unfold Instr.findKey;rw[dP,cS Tryz.underlying66 w];show(match Instr.findNow _ _ _ _ with|some r=>_|none=>_:Sem _).run _ _=_;cases es with
 |nil=>rfl
 |cons e es=>exact Lp p w (e::es) 0 l h hp
theorem Nq {w:World} {r:Nat} {es:Array MapEntry} {c:Nat} (hb:w.heap[r]?=some (.map es c)):(getObj r).run Tryz.prog w= .ok (.map es c) w:=by simp[getObj,Sem.run,hb]
theorem Tp {w:World} {r:Nat} {es:Array MapEntry} {c:Nat} (o:Obj) (hb:w.heap[r]?=some (.map es c)):(setObj r o).run Tryz.prog w= .ok () {w with heap:=w.heap.setIfInBounds r o}:=by simp[setObj,Sem.run,hb]
theorem QU {w:World} {r:Nat} {o o':Obj} (hb:w.heap[r]?=some o):(w.heap.setIfInBounds r o')[r]?=some o'/\∀k,k≠r->(w.heap.setIfInBounds r o')[k]?=w.heap[k]?:=by
 have:=(ik.1 hb).1;refine⟨by simp[this],λk hk=> ?_⟩;rw[Array.getElem?_setIfInBounds,ah (λe=>hk e.symm)]
def yj (w:World) (b:Nat) (l:List (Nat×Nat)):Prop:=∃es clock,w.heap[b]?=some (.map es clock)/\es.toList.map (·.key)=l.map wC
theorem yj.j4 {w w':World} {b:Nat} {l:List (Nat×Nat)} (h:yj w b l) (hb:Below w.heap.size w w'):yj w' b l:=by
 obtain⟨es,c,h1,h2⟩:=h;exact⟨es,c,by rw[hb.block b (ik.1 h1).1];exact h1,h2⟩
structure BX (b:Nat) (w w':World):Prop where
 os:w'.os=w.os
 tape:w'.tape=w.tape
 output:w'.output=w.output
 size:w.heap.size<=w'.heap.size
 block:∀k,k<w.heap.size->k≠b->w'.heap[k]?=w.heap[k]?
theorem BX.of {b:Nat} {w w':World} (h:Below w.heap.size w w'):BX b w w':=⟨h.os,h.tape,h.output,h.size,λk hk _=>h.block k hk⟩
theorem BX.trans {b:Nat} {w w' w2:World} (h:BX b w w') (k:BX b w' w2):BX b w w2:=
 ⟨k.os.trans h.os,k.tape.trans h.tape,k.output.trans h.output,dx h.size k.size,λi hi hn=>(k.block i (dw hi h.size) hn).trans (h.block i hi hn)⟩
theorem BX.j4 {b:Nat} {w0 w w':World} (h0:Below w0.heap.size w0 w) (h:BX b w w') (hb:w0.heap.size<=b):Below w0.heap.size w0 w':=
 ⟨h.os.trans h0.os,h.tape.trans h0.tape,h.output.trans h0.output,dx h0.size h.size,λk hk=>(h.block k (dw hk h0.size) oO).trans (h0.block k hk)⟩
theorem At.bx {w w':World} {b:Nat} {l:List (Nat×Nat)} {a:Addr} {cs:List Value} (hm:yj w b l) (h:At w a cs) (hb:BX b w w'):At w' a cs:=λj u hu=>by
 have h1:=h j u hu;obtain⟨es,c,h2,_⟩:=hm;have h3:=World.block_lt_of_cell? w _ h1;have h4:(a.add j).block≠b:=λe=>by
  unfold World.cell? at h1;rw[e,h2]at h1;cases h1
 rw[World.cell?_of_block (w:=w) (hb.block _ h3 h4)];exact h1
theorem Sl.bx {α:Type} {enc:α->List Value} {size:Nat} {w w':World} {b:Nat} {l:List (Nat×Nat)} {v:Value} {L:List α} (hm:yj w b l) (h:Sl enc size w v L) (hb:BX b w w'):Sl enc size w' v L:=⟨h.form,λi hi=>At.bx hm (h.elt i hi) hb⟩
section
variable {N : Nat} {ρ : Nat → Value} {w0 w : World} {H : List kU} {d : Option Tmp} {ty : TypeId} {pos : String} {aft : Array Edge} {g : Option (Nat × Bool)} {x y z : Operand} {K : Value → Prop} {K2 : Value → World → Prop} {l : List (Nat × Nat)} {b : Nat} {p : Nat × Nat}
theorem RJ (t:TypeId) (hS:St w0 w H) (h:∀b w',St w0 w' H->Below w.heap.size w w'->w0.heap.size<=b/\yj w' b []->K2 (.map (some b)) w'):pd Tryz.prog N ρ w ⟨d,.makeMap t none,ty,pos,aft,g⟩ K2:=by
 have hB:Below w.heap.size w (w.alloc (.map #[] 0)):=(Below.refl _ _).alloc (aH _) _;refine nX (w':=w.alloc (.map #[] 0)) ?_ (h w.heap.size _ (hS.km hB) hB ⟨hS.j4.size,#[],0,by show(w.heap.push _)[w.heap.size]?=_;simp,rfl⟩);simp[execOp,Instr.makeMap]
theorem UD (hx:ev N ρ x= .map (some b)) (hy:ev N ρ y=wC p) (hM:yj w b l) (hp:p∉l) (h:K (.bool false)):qN Tryz.prog N ρ w ⟨d,.lookup 102 x y false,ty,pos,aft,g⟩ K:=by
 refine⟨_,λw' hb=> ?_,h⟩;obtain⟨es,c,h1,h2⟩:=hM.j4 hb;have hg:=Nq h1;have hc:=yN es.isEmpty p w';have hf:=GZ p w' es.toList l h2 hp;have hu:=cS Tryz.underlying102 w';have hz:(zeroValue 4).run Tryz.prog w'= .ok (.bool false) w':=by
  have h9:(Tryz.prog.info? 4).bind (·.zero)=some (.bool false):=by kernel_rfl
  obtain⟨i,h10,h11⟩:=Option.bind_eq_some_iff.1 h9;simp[zeroValue,typeInfo,h10,h11]
 simp[execOp,hx,hy,Instr.lookup,hu,hg,hc,hf,hz]
theorem Ti {vz:Value} (hx:ev N ρ x= .map (some b)) (hy:ev N ρ y=wC p) (_:ev N ρ z=vz) (hM:yj w b l) (hp:p∉l) (h:∀w',BX b w w'->yj w' b (l++[p])->K2 undef w'):pd Tryz.prog N ρ w ⟨d,.mapUpdate 102 x y z,ty,pos,aft,g⟩ K2:=by
 obtain⟨es,c,h1,h2⟩:=hM;have hg:=Nq h1;have hc:=yN false p w;have hf:=GZ p w es.toList l h2 hp;have hu:=cS Tryz.underlying102 w;have hs:=Tp (.map (es.push ⟨wC p,ev N ρ z,c⟩) (c+1)) h1;have hh:=QU (o':= .map (es.push ⟨wC p,ev N ρ z,c⟩) (c+1)) h1;refine AJ (w':= {w with heap:=w.heap.setIfInBounds b (.map (es.push ⟨wC p,ev N ρ z,c⟩) (c+1))}) ?_ (h _ ⟨rfl,rfl,rfl,by simp,λk _ hk=>hh.2 k hk⟩ ⟨_,_,hh.1,?_⟩)
 ·simp[execOp,hx,hy,Instr.mapUpdate,hu,hg,hc,hf,hs]
 ·rw[Array.toList_push,bH,bH,h2];rfl
end
theorem Gf.bx {w w':World} {b:Nat} {l:List (Nat×Nat)} {vE vD:Value} {g:mZ} {ev:List (Value×Value)} {dv:List Value} (hm:yj w b l) (h:Gf w vE vD g ev dv) (hb:BX b w w'):Gf w' vE vD g ev dv:=⟨Sl.bx hm h.es hb,Sl.bx hm h.ds hb,λi hi=>Sl.bx hm (h.cl i hi) hb,λi hi=>Sl.bx hm (h.lg i hi) hb,h.ag⟩
theorem Cn {vE vD:Value} {g:mZ} {ev:List (Value×Value)} {dv:List Value} (p:Nat×Nat) (w:World) (hM:Gf w vE vD g ev dv) (h1:p.1<g.n) (h2:p.2<g.cn p.1):
  lU Tryz.prog 83 #[.agg #[vE,vD],wC p] w λr w'=>r= .int .i64 (g.c p.1 p.2).h/\Below w.heap.size w w':=by
 have hS:=St.init w;have hcl:=hM.cl p.1 h1;have hel:(ky g.n λi=>((g.e i).cash,ev.getD i sa)).getD p.1 pV=((g.e p.1).cash,ev.getD p.1 sa):=kz _ _ h1;have htl:=j9 g.n λi=>((g.e i).cash,ev.getD i sa);obtain⟨a1,c1,hv1,_⟩:=hcl.form;rw[hv1]at hcl;have hel1:((ky g.n λi=>((g.e i).cash,ev.getD i sa)).getD p.1 pV).2.1= .slice a1 (g.e p.1).cl.length c1:=by rw[hel];exact hv1
 have hho:(g.c p.1 p.2).h=((g.e p.1).cl.getD p.2 pb).h:=rfl;rw[hho];have h2':p.2<(g.e p.1).cl.length:=h2;refine enter Tryz.func83 rfl Tryz.ntmps83 rfl ?_;refine jr ?_;refine jh (kZ (new:=[vE,vD]) rfl rfl hS ?_);intro b2 wz1 hS hBz1;refine jh (kZ (new:=nx p) rfl rfl hS ?_);intro b3 wz2 hS hBz2;refine V1 ?_;refine kC [jo 0,ju 1,jo 2,ju 3,jo 4,jo 5,ju 6,jo 7,ju 8,jo 9,jo 10,ju 11,jo 12] kR kR hS ?_;intro wz3 hS hBz3;refine J4 ?_;refine jl rfl (kj (i:=p.1) rfl rfl (hM.es.j4 hS.j4) oO dO pP ?_);refine jl rfl (oR rfl (nw (hM.es.j4 hS.j4) (λ_=>rfl) dD dO) qb ?_);refine jm rfl (oL (v:= .slice a1 (g.e p.1).cl.length c1) (i:=p.1) (off:=3) pV rfl qh (hM.es.j4 hS.j4) (λ_=>rfl) dD oO rfl (by rw[<-hel1];rfl) (.inr rfl) ?_);refine J2 ?_;refine jl rfl (kj (i:=p.2) rfl rfl (hcl.j4 hS.j4) oO dO qO ?_);refine jl rfl (oR rfl (nw (hcl.j4 hS.j4) (λ_=>rfl) dD dO) t7 ?_);refine jm rfl (oL (i:=p.2) (off:=0) pb rfl nm (hcl.j4 hS.j4) (λ_=>rfl) dD dO rfl rfl (.inr rfl) ?_);refine J1 ?_;refine jt ?_;refine kB rfl rfl ?_;exact⟨rfl,hS.j4⟩
structure WT (g:mZ) (W:Rat) (l ls:List (Nat×Nat)):Prop where
 n:ls.length<=8
 w0:0<=W
 wL:L W<=MX
 rg:∀j,j<ls.length->(ls.getD j (0,0)).1<g.n/\(ls.getD j (0,0)).2<g.cn (ls.getD j (0,0)).1
 ho:∀j,j<ls.length->(g.c (ls.getD j (0,0)).1 (ls.getD j (0,0)).2).h=(g.c (ls.getD 0 (0,0)).1 (ls.getD 0 (0,0)).2).h
 nd:∀j,j<ls.length->ls.getD j (0,0)∉l++ls.take j
theorem ER {vE vD vl:Value} {g:mZ} {ev:List (Value×Value)} {dv:List Value} (bm:Nat) (W:Rat) (l ls:List (Nat×Nat)) (w:World) (hM:Gf w vE vD g ev dv) (hl:Sl nx 2 w vl ls) (hMR:yj w bm l) (hh:WT g W l ls):
  lU Tryz.prog 45 #[.agg #[vE,vD],Ql W vl,.map (some bm)] w λr w'=>r= .int .i64 0/\BX bm w w'/\yj w' bm (l++ls):=by
 have hn8:=hh.n;have htl:=j9 g.n λi=>((g.e i).cash,ev.getD i sa);have hS:=St.init w;obtain⟨al,cl,hvl,_⟩:=hl.form;subst hvl;obtain⟨vl,hvl⟩:=jz (Value.slice al ls.length cl);refine enter Tryz.func45 rfl Tryz.ntmps45 rfl ?_;refine jr ?_;refine jh (kZ (new:=[vE,vD]) rfl rfl hS ?_);intro b3 wz1 hS hBz1;refine jh (kZ (new:=lL (W,.slice al ls.length cl)) rfl rfl hS ?_);intro b4 wz2 hS hBz2;refine V1 ?_;replace hS:St w _ [(b4,64,lL (W,.slice al ls.length cl)),(b3,29,[vE,vD])]:=hS;refine J8 ?_;refine jh (j6 Tryz.call80 rfl (sb (j8 W) _ (by rw[Lr_ofQ];exact hh.wL)) ?_);rintro r w3 ⟨rfl,hB3⟩;replace hS:=hS.km hB3;refine V2 ?_;rw[toQ_ofQ];refine lx rfl (ae (Gz hh.w0)) ?_;refine J4 ?_;refine jb ?_;refine kx (λρ w'=>BX bm w w'/\yj w' bm (l++ls)) ?_ ?_
 ·refine ja ?_;refine ku (σ:=Nat) (λj ρ w'=>j<=ls.length/\ρ 2= .map (some bm)/\ρ 3=pB b3/\ρ 4=pB b4/\ρ 20= .slice al ls.length cl/\ρ 21=iB ls.length/\ρ 22=iB j/\BX bm w w'/\At w' ⟨b3,0,none⟩ [vE,vD]/\At w' ⟨b4,0,none⟩ (lL (W,.slice al ls.length cl))/\yj w' bm (l++ls.take j)) (λj=>ls.length-j) 0
   ⟨aB _,rfl,rfl,rfl,rfl,rfl,rfl,BX.of hS.j4,hS.at (k:=1) rfl 0 2,hS.at (k:=0) rfl 0 4,by rw[fh,aU];exact hMR.j4 hS.j4⟩ ?_
  clear hS;rintro j ρ w4 ⟨hj,h2,h3,h4,h20,h21,h22,hX,hg3,hg4,hM4⟩;have hS:=St.init w4;have hG:=hM.bx hMR hX;have hq:=Sl.bx hMR hl hX;have haE:At w4 ⟨b3,0,none⟩ [vE]:=hg3.seg 0 1;have haL:At w4 ⟨b4,3,none⟩ [.slice al ls.length cl]:=hg4.seg 3 1;refine V1 ?_;by_cases hlt:j<ls.length
  ·refine V1 ?_;obtain⟨r1,r2⟩:=hh.rg j hlt;obtain⟨r01,r02⟩:=hh.rg 0 oO;have hho:=hh.ho j hlt;have hnd:=hh.nd j hlt;obtain⟨p,hp⟩:=jz (ls.getD j (0,0));obtain⟨p0,hp0⟩:=jz (ls.getD 0 (0,0));rw[<-hp]at r1 r2 hho hnd;rw[<-hp0]at r01 r02 hho;have hcl:=hG.cl p.1 r1;have hel:(ky g.n λi=>((g.e i).cash,ev.getD i sa)).getD p.1 pV=((g.e p.1).cash,ev.getD p.1 sa):=kz _ _ r1;obtain⟨a1,c1,hv1,_⟩:=hcl.form;rw[hv1]at hcl;have hel1:((ky g.n λi=>((g.e i).cash,ev.getD i sa)).getD p.1 pV).2.1= .slice a1 (g.e p.1).cl.length c1:=by rw[hel];exact hv1
   have r2':p.2<(g.e p.1).cl.length:=r2;refine jr ?_;refine jp (kj (i:=j) h20 h22 (hq.j4 hS.j4) oO dO qp (jq (kt (i:=j) (0,0) rfl qq (hq.j4 hS.j4) dO rfl rfl (.inl rfl) ?_)));refine J1 ?_;intro b8 wz3 hS hBz3;refine J1 ?_;intro wz4 hS;refine ja ?_;rw[<-hp]at hS;replace hS:St w4 _ [(b8,66,nx p)]:=hS;refine ja ?_;refine kC [jo 0,ju 1,jo 2,jo 3,jo 4,ju 5,jo 6,ju 7,jo 8,jo 9,jo 10,jo 11,jo 12,ju 13,jo 14,jo 15,jo 16,jo 17,ju 18,jo 19,ju 20,jo 21,ju 22,jo 23,jo 24,ju 25,jo 26,jo 27,jo 28,jo 29] kR kR hS ?_;intro wz5 hS hBz5;refine J4 ?_;refine kN rfl (j7 30 kR rfl dF) (lC rfl vu (mG rfl (j7 30 kR rfl dF) (kO (k:=0) rfl nm hS rfl rfl rfl (.inr rfl) (kN rfl (j7 30 kR rfl dF) (lC h3 rA (mG rfl (j7 30 kR rfl dF) (oB (v:=vE) (cs:=[vE]) rfl oY (haE.j4 hS.j4) rfl rfl (.inr rfl) (kN rfl (j7 30 kR rfl dF) (ki rfl (hG.es.j4 hS.j4) ⟨_,Tryz.underlying26⟩ (kN rfl (j7 30 kR rfl dF) (yX rfl rfl (jl rfl (kA (vb rfl dF) rfl ?_)))))))))))));refine J1 ?_;refine kN rfl (j7 38 kR rfl dF) (lC rfl t6 (mG rfl (j7 38 kR rfl dF) (kO (k:=0) rfl nm hS rfl rfl rfl (.inr rfl) (kN rfl (j7 38 kR rfl dF) (wm rfl rfl (jl rfl (kA (vb rfl dF) rfl ?_)))))));refine J1 ?_;refine kN rfl (j7 43 kR rfl dF) (lC rfl t6 (mG rfl (j7 43 kR rfl dF) (kO (k:=0) rfl nm hS rfl rfl rfl (.inr rfl) (kN rfl (j7 43 kR rfl dF) (lC h3 rA (mG rfl (j7 43 kR rfl dF) (oB (v:=vE) (cs:=[vE]) rfl oY (haE.j4 hS.j4) rfl rfl (.inr rfl) (kN rfl (j7 43 kR rfl dF) (lC rfl vu (mG rfl (j7 43 kR rfl dF) (kO (k:=0) rfl nm hS rfl rfl rfl (.inr rfl) (kN rfl (j7 43 kR rfl dF) (kj (i:=p.1) rfl rfl (hG.es.j4 hS.j4) oO dO pP ?_)))))))))))));refine kN rfl (j7 43 kR rfl dF) (oR rfl (nw (hG.es.j4 hS.j4) (λ_=>rfl) dD dO) qb ?_);refine mG rfl (j7 43 kR rfl dF) (oL (v:= .slice a1 (g.e p.1).cl.length c1) (i:=p.1) (off:=3) pV rfl qh (hG.es.j4 hS.j4) (λ_=>rfl) dD oO rfl (by rw[<-hel1];rfl) (.inr rfl) ?_);refine kN rfl (j7 43 kR rfl dF) (ki rfl (hcl.j4 hS.j4) ⟨_,Tryz.underlying48⟩ (kN rfl (j7 43 kR rfl dF) (yX rfl rfl (jl rfl (kA (vb rfl dF) rfl ?_)))));refine J4 ?_;refine jq (UD rfl rfl (hM4.j4 hS.j4) hnd ?_);refine V1 ?_;refine lx rfl (rfl) ?_;refine ja ?_;refine kC [ju 0,ju 1,ju 3,jo 4,ju 5,jo 6,ju 7,jv 2,jv 8,jo 9,jo 10] kR kR hS ?_;intro wz6 hS hBz6;refine jm rfl (oB (v:= .agg #[vE,vD]) (cs:=[vE,vD]) h3 ua (hg3.j4 hS.j4) rfl rfl (.inl rfl) ?_);refine J1 ?_;refine jm rfl (oB (v:= .agg #[vE,vD]) (cs:=[vE,vD]) h3 ua (hg3.j4 hS.j4) rfl rfl (.inl rfl) ?_);refine J1 ?_;refine jm rfl (oB (v:= .slice al ls.length cl) (cs:=[.slice al ls.length cl]) rfl qk (haL.j4 hS.j4) rfl rfl (.inr rfl) (jl rfl (kj (i:=0) rfl rfl (hq.j4 hS.j4) oO dO qp (jm rfl (kt (v:=wC p0) (i:=0) (0,0) rfl qq (hq.j4 hS.j4) oO rfl (by rw[<-hp0];rfl) (.inl rfl) (jn rfl (j6 Tryz.call83 rfl (Cn p _ (hG.j4 hS.j4) r1 r2) ?_)))))));rintro r w5 ⟨rfl,hB5⟩;refine⟨hB5,?_⟩;replace hS:=hS.km hB5;refine jn rfl (j6 Tryz.call83 rfl (Cn p0 _ (hG.j4 hS.j4) r01 r02) ?_);rintro r w6 ⟨rfl,hB6⟩;refine⟨hB6,?_⟩;replace hS:=hS.km hB6;refine V2 ?_;refine lx rfl (ae (λh=>h hho)) ?_;refine J2 ?_;refine jh (Ti rfl rfl rfl (hM4.j4 hS.j4) hnd ?_);intro wmp hMX hMR;refine ja ?_;have hM5:=hM4.j4 hS.j4;rw[aI,hp,<-lE ls j (0,0) hlt]at hMR;refine V2 ?_;exact⟨j+1,_,rfl,⟨hlt,jY,jY,jY,jY,jY,vi rfl oO,hX.trans ((BX.of hS.j4).trans hMX),At.bx hM5 (hg3.j4 hS.j4) hMX,At.bx hM5 (hg4.j4 hS.j4) hMX,hMR⟩,oO⟩
  ·refine J1 ?_;refine jt ?_;obtain rfl:j=ls.length:=oO;rw[bR]at hM4;exact⟨_,rfl,hX,hM4⟩
 clear hS;rintro ρ w4 ⟨hX,hM4⟩;refine J1 ?_;refine jt ?_;refine kB rfl rfl ?_;exact⟨rfl,hX,hM4⟩
structure O5 (g:mZ) (A:Nat->List (List (List mK))):Prop where
 n:g.n<=8
 d:g.ds.length<=16
 es:∀i,i<g.n->Te (g.e i).cash (g.e i).cl (A i)
 ho:∀i,i<g.n->∀c,c<g.cn i->(g.c i c).h≠i/\(g.c i c).h<g.n
 lg:∀k,k<g.ds.length->WT g (g.d k).W ((g.ds.take k).flatMap sL.legs) (g.d k).legs
theorem Nd (vE vD:Value) (g:mZ) (ev:List (Value×Value)) (dv:List Value) (A:Nat->List (List (List mK))) (av:Nat->List Value) (apv:Nat->List (List Value)) (w:World) (hM:Gf w vE vD g ev dv) (hA:∀i,i<g.n->Gn w (ev.getD i sa).2 (A i) (av i) (apv i)) (hh:O5 g A):
  lU Tryz.prog 24 #[.agg #[vE,vD]] w λr w'=>r= .int .i64 0/\Below w.heap.size w w':=by
 have hS:=St.init w;have hn8:=hh.n;have hd16:=hh.d;have hle:=j9 g.n λi=>((g.e i).cash,ev.getD i sa);have hld:=j9 g.ds.length λk=>((g.d k).W,dv.getD k undef);obtain⟨aE,cE,hvE,_⟩:=hM.es.form;obtain⟨aD,cD,hvD,_⟩:=hM.ds.form;rw[hle]at hvE;rw[hld]at hvD;subst hvE hvD;refine enter Tryz.func24 rfl Tryz.ntmps24 rfl ?_;refine jr ?_;refine jh (kZ (new:=[(.slice aE g.n cE),(.slice aD g.ds.length cD)]) rfl rfl hS ?_);intro b1 wz1 hS hBz1;refine V1 ?_;replace hS:St w _ [(b1,29,[(.slice aE g.n cE),(.slice aD g.ds.length cD)])]:=hS;refine J5 ?_;refine ke (j7 18 kR rfl dF) (lC rfl Bh (lj (j7 18 kR rfl dF) (kO (k:=0) rfl sA hS rfl rfl rfl (.inr rfl) (ke (j7 18 kR rfl dF) (oc rfl ⟨_,Tryz.underlying27⟩ (ke (j7 18 kR rfl dF) (t5 rfl rfl (jp (kA (vb rfl dF) rfl ?_)))))))));refine J5 ?_;refine jb ?_;refine kx (λρ w'=>ρ 1=pB b1/\St w w' [(b1,29,[(.slice aE g.n cE),(.slice aD g.ds.length cD)])]) ?_ ?_
 ·refine ja ?_;refine ku (σ:=Nat) (λi ρ w'=>i<=g.n/\ρ 1=pB b1/\ρ 25=(.slice aE g.n cE)/\ρ 26=iB g.n/\ρ 27=iB i/\St w w' [(b1,29,[(.slice aE g.n cE),(.slice aD g.ds.length cD)])]) (λi=>g.n-i) 0
   ⟨aB _,rfl,rfl,rfl,rfl,hS⟩ ?_
  clear hS;rintro i ρ w3 ⟨hi,h1,h25,h26,h27,hS⟩;refine V1 ?_;by_cases hlt:i<g.n
  ·refine V1 ?_;obtain⟨a1,c1,a2,l2,c2,hev⟩:=hM.form hlt;have hcl:=hM.cl i hlt;have hag:=hA i hlt;have heh:=hh.es i hlt;rw[hev]at hcl hag;obtain⟨cl,hcl2⟩:=jz ((g.e i).cl);rw[<-hcl2]at hcl heh hev;have hel:(ky g.n λi=>((g.e i).cash,ev.getD i sa)).getD i pV=((g.e i).cash,.slice a1 cl.length c1,.slice a2 l2 c2):=by rw[kz _ _ hlt,hev]
   refine jr ?_;refine jp (kj (i:=i) h25 h27 (hM.es.j4 hS.j4) oO dO pP (jq (kt (v:=Mz (g.e i).cash (.slice a1 cl.length c1) (.slice a2 l2 c2)) (i:=i) pV rfl sZ (hM.es.j4 hS.j4) oO rfl (by rw[hel];rfl) (.inl rfl) ?_)));refine J1 ?_;intro b4 wz2 hS hBz2;refine J1 ?_;intro wz3 hS;refine ja ?_;replace hS:St w _ [(b4,51,kw ((g.e i).cash,.slice a1 cl.length c1,.slice a2 l2 c2)),(b1,29,[(.slice aE g.n cE),(.slice aD g.ds.length cD)])]:=hS;refine J1 ?_;refine jh (j6 Tryz.call44 rfl (NI (g.e i).cash _ _ cl (A i) (av i) (apv i) _ (hcl.j4 hS.j4) (hag.j4 hS.j4) heh) ?_);rintro r w5 ⟨rfl,hB5⟩;replace hS:=hS.km hB5;refine V3 ?_;refine lx rfl (rfl) ?_;refine V2 ?_;exact⟨i+1,_,rfl,⟨hlt,jY,jY,jY,vi rfl oO,hS.drop (ab _ _)⟩,oO⟩
  ·refine J1 ?_;refine jt ?_;exact⟨_,rfl,h1,hS⟩
 clear hS;rintro ρ w3 ⟨h1,hS⟩;refine J4 ?_;refine jb ?_;refine kx (λρ w'=>ρ 1=pB b1/\St w w' [(b1,29,[(.slice aE g.n cE),(.slice aD g.ds.length cD)])]) ?_ ?_
 ·refine ja ?_;refine ku (σ:=Nat) (λi ρ w'=>i<=g.n/\ρ 1=pB b1/\ρ 38=(.slice aE g.n cE)/\ρ 39=iB g.n/\ρ 40=iB i/\St w w' [(b1,29,[(.slice aE g.n cE),(.slice aD g.ds.length cD)])]) (λi=>g.n-i) 0
   ⟨aB _,h1,rfl,rfl,rfl,hS⟩ ?_
  clear hS h1;rintro i ρ w3 ⟨hi,h1,h38,h39,h40,hS⟩;refine V1 ?_;by_cases hlt:i<g.n
  ·refine V1 ?_;obtain⟨a1,c1,a2,l2,c2,hev⟩:=hM.form hlt;have hcl:=hM.cl i hlt;have hho:=hh.ho i hlt;have hmx:=hcl.maxLen;rw[hev]at hcl;have hel:(ky g.n λi=>((g.e i).cash,ev.getD i sa)).getD i pV=((g.e i).cash,.slice a1 (g.e i).cl.length c1,.slice a2 l2 c2):=by rw[kz _ _ hlt,hev]
   obtain⟨n,hn⟩:=jz ((g.e i).cl.length);rw[<-hn]at hel;refine J1 ?_;refine jp (kj (i:=i) h38 h40 (hM.es.j4 hS.j4) oO dO pP (jq (kt (v:=Mz (g.e i).cash (.slice a1 n c1) (.slice a2 l2 c2)) (i:=i) pV rfl sZ (hM.es.j4 hS.j4) oO rfl (by rw[hel];rfl) (.inl rfl) ?_)));refine J1 ?_;intro b7 wz4 hS hBz4;refine J2 ?_;intro wz5 hS;refine ja ?_;replace hS:St w _ [(b7,51,kw ((g.e i).cash,.slice a1 n c1,.slice a2 l2 c2)),(b1,29,[(.slice aE g.n cE),(.slice aD g.ds.length cD)])]:=hS;refine J4 ?_;refine jb ?_;refine kx (λρ w'=>ρ 1=pB b1/\ρ 38=(.slice aE g.n cE)/\ρ 39=iB g.n/\ρ 40=iB i/\St w w' [(b7,51,kw ((g.e i).cash,.slice a1 n c1,.slice a2 l2 c2)),(b1,29,[(.slice aE g.n cE),(.slice aD g.ds.length cD)])]) ?_ ?_
   ·refine ja ?_;refine ku (σ:=Nat) (λc ρ w'=>c<=n/\ρ 1=pB b1/\ρ 6=iB i/\ρ 38=(.slice aE g.n cE)/\ρ 39=iB g.n/\ρ 40=iB i/\ρ 46= .slice a1 n c1/\ρ 47=iB n/\ρ 48=iB c/\St w w' [(b7,51,kw ((g.e i).cash,.slice a1 n c1,.slice a2 l2 c2)),(b1,29,[(.slice aE g.n cE),(.slice aD g.ds.length cD)])]) (λc=>n-c) 0
     ⟨aB _,h1,rfl,h38,h39,h40,rfl,rfl,rfl,hS⟩ ?_
    clear hS h1 h38 h39 h40;rintro c ρ w4 ⟨hc,h1,h6,h38,h39,h40,h46,h47,h48,hS⟩;rw[hn]at h46;refine V1 ?_;by_cases hcn:c<n
    ·refine V1 ?_;obtain⟨k1,k2⟩:=hho c (by show c<(g.e i).cl.length;omega);obtain⟨x,hx⟩:=jz ((g.e i).cl.getD c pb);replace k1:x.h≠i:=by rw[hx];exact k1
     replace k2:x.h<g.n:=by rw[hx];exact k2
     refine jr ?_;refine jp (kj (i:=c) h46 h48 (hcl.j4 hS.j4) oO dO qO (jq (kt (i:=c) pb rfl tM (hcl.j4 hS.j4) dO rfl rfl (.inl rfl) ?_)));refine J1 ?_;intro b9 wz6 hS hBz6;refine J1 ?_;intro wz7 hS;refine ja ?_;rw[<-hx]at hS;replace hS:St w _ [(b9,53,lZ x),(b7,51,kw ((g.e i).cash,.slice a1 n c1,.slice a2 l2 c2)),(b1,29,[(.slice aE g.n cE),(.slice aD g.ds.length cD)])]:=hS;refine J5 ?_;refine ke (j7 56 kR rfl (ae k1)) (lC rfl t7 (lj (j7 56 kR rfl (ae k1)) (kO (k:=0) rfl nm hS rfl rfl rfl (.inr rfl) (ke (j7 56 kR rfl (ae k1)) (lC h1 rA (lj (j7 56 kR rfl (ae k1)) (kO (k:=2) rfl oY hS rfl rfl rfl (.inr rfl) (ke (j7 56 kR rfl (ae k1)) (oc rfl ⟨_,Tryz.underlying26⟩ (ke (j7 56 kR rfl (ae k1)) (yX rfl rfl (jp (kA (vb rfl (ae k1)) rfl ?_)))))))))))));refine V3 ?_;exact⟨c+1,_,rfl,⟨hcn,jY,jY,jY,jY,jY,by rw[hn];assumption,jY,vi rfl oO,hS.drop (ab _ _)⟩,oO⟩
    ·refine J1 ?_;refine jt ?_;exact⟨_,rfl,h1,h38,h39,h40,hS⟩
   clear hS h1 h38 h39 h40;rintro ρ w4 ⟨h1,h38,h39,h40,hS⟩;refine V2 ?_;exact⟨i+1,_,rfl,⟨hlt,jY,jY,jY,vi rfl oO,hS.drop (ab _ _)⟩,oO⟩
  ·refine J1 ?_;refine jt ?_;exact⟨_,rfl,h1,hS⟩
 clear hS;rintro ρ w3 ⟨h1,hS⟩;refine jr ?_;refine jh (RJ _ hS ?_);intro bm wmp hS hMB hMR;refine V1 ?_;obtain⟨hge,hM0⟩:=hMR;refine J4 ?_;refine jb ?_;refine kx (λρ w'=>Below w.heap.size w w') ?_ ?_
 ·refine ja ?_;refine ku (σ:=Nat) (λk ρ w'=>k<=g.ds.length/\ρ 1=pB b1/\ρ 10= .map (some bm)/\ρ 68=(.slice aD g.ds.length cD)/\ρ 69=iB g.ds.length/\ρ 70=iB k/\Below w.heap.size w w'/\At w' ⟨b1,0,none⟩ [(.slice aE g.n cE),(.slice aD g.ds.length cD)]/\yj w' bm ((g.ds.take k).flatMap sL.legs)) (λk=>g.ds.length-k) 0
   ⟨aB _,h1,rfl,rfl,rfl,rfl,hS.j4,hS.at (k:=0) rfl 0 2,hM0⟩ ?_
  clear hS h1;rintro k ρ w4 ⟨hk,h1,h10,h68,h69,h70,hB,hg1,hM4⟩;have hS:=St.init w4;have hG:=hM.j4 hB;refine V1 ?_;by_cases hlt:k<g.ds.length
  ·refine V1 ?_;have hlk:=hh.lg k hlt;have hlg:=hG.lg k hlt;obtain⟨al,cl,hvl,_⟩:=hlg.form;rw[hvl]at hlg;have hel:(ky g.ds.length λk=>((g.d k).W,dv.getD k undef)).getD k JP=((g.d k).W,.slice al (g.d k).legs.length cl):=by rw[kz _ _ hlt,hvl]
   have hlen8:=hlk.n;obtain⟨ls,hls⟩:=jz ((g.d k).legs);have hfl:(g.ds.take (k+1)).flatMap sL.legs=(g.ds.take k).flatMap sL.legs++ls:=by
    rw[lE g.ds k si hlt,dy,cK,hls];rfl
   rw[<-hls]at hlk hlg hel;refine jr ?_;refine jp (kj (i:=k) h68 h70 (hG.ds.j4 hS.j4) oO dO tK (jq (kt (v:=Ql (g.d k).W (.slice al ls.length cl)) (i:=k) JP rfl ss (hG.ds.j4 hS.j4) oO rfl (by rw[hel];rfl) (.inl rfl) ?_)));refine J1 ?_;intro b12 wz8 hS hBz8;refine J1 ?_;intro wz9 hS;refine ja ?_;replace hS:St w4 _ [(b12,64,lL ((g.d k).W,.slice al ls.length cl))]:=hS;refine jr ?_;refine jq (oB (v:= .agg #[(.slice aE g.n cE),(.slice aD g.ds.length cD)]) (cs:=[(.slice aE g.n cE),(.slice aD g.ds.length cD)]) h1 ua (hg1.j4 hS.j4) rfl rfl (.inl rfl) ?_);refine J2 ?_;have hM5:=hM4.j4 hS.j4;refine jh (j6 Tryz.call45 rfl (ER bm (g.d k).W _ ls _ (hG.j4 hS.j4) (hlg.j4 hS.j4) hM5 hlk) ?_);rintro r w6 ⟨rfl,hX,hM6⟩;have hB6:=BX.j4 (hB.trans (hS.j4.mono hB.size)) hX hge;have hg6:=At.bx hM5 (hg1.j4 hS.j4) hX;rw[<-hfl]at hM6;clear hS;refine V3 ?_;refine lx rfl (rfl) ?_;refine V2 ?_;exact⟨k+1,_,rfl,⟨hlt,jY,jY,jY,jY,vi rfl oO,hB6,hg6,hM6⟩,oO⟩
  ·refine J1 ?_;refine jt ?_;exact⟨_,rfl,hB⟩
 clear hS;rintro ρ w4 hB;refine J1 ?_;refine jt ?_;refine kB rfl rfl ?_;exact⟨rfl,hB⟩
theorem Ou {w:World} {n:Nat} {cn:Nat->Nat} {x:Nat->Rat} {G D F N:Nat->Nat->Rat} {S R:Nat->Rat} {U:Nat->Bool} {r:Value} (h:Wu w n cn x G D F N S R U r):∃a1 l1 c1 a2 l2 c2 a3 l3 c3 a4 l4 c4 a5 l5 c5 a6 l6 c6 a7 l7 c7 a8 l8 c8,r= .agg #[.slice a1 l1 c1,.slice a2 l2 c2,.slice a3 l3 c3,.slice a4 l4 c4,.slice a5 l5 c5,.slice a6 l6 c6,.slice a7 l7 c7,.slice a8 l8 c8]:=by
 obtain⟨vM,vG,vD,vF,vN,vS,vR,vU,uG,uD,uF,uN,e,h1,h2,h3,h4,h5,h6,h7,h8⟩:=h;obtain⟨a1,c1,e1,_⟩:=h1.form;obtain⟨a2,c2,e2,_⟩:=h2.sl.form;obtain⟨a3,c3,e3,_⟩:=h3.sl.form;obtain⟨a4,c4,e4,_⟩:=h4.sl.form;obtain⟨a5,c5,e5,_⟩:=h5.sl.form;obtain⟨a6,c6,e6,_⟩:=h6.form;obtain⟨a7,c7,e7,_⟩:=h7.form;obtain⟨a8,c8,e8,_⟩:=h8.form;rw[e1,e2,e3,e4,e5,e6,e7,e8]at e;exact⟨_,_,_,_,_,_,_,_,_,_,_,_,_,_,_,_,_,_,_,_,_,_,_,_,e⟩
noncomputable section
def T7 (w:World) (g:mZ) (Y:Nat->Ly) (x:Nat->Rat) (r:Value):Prop:=Wu w g.n g.cn x (UI Y x) (lG Y x) (Db g (lG Y x) g.ds.length) (λi c=>lG Y x i c-Db g (lG Y x) g.ds.length i c) (Qo Y x) (Fa Y x) (TL Y x) r
structure Uz (D0:Nat) (g:mZ) (A:Nat->List (List (List mK))):Prop where
 ck:O5 g A
 es:∀i,i<g.n->Q6 (g.e i).cl (A i)
 ok:nB g (λi=>oQ (g.e i).cl (A i)) (xJ (AL g))
 b:xe D0 g (λi=>oQ (g.e i).cl (A i))
def xS (g:mZ) (A:Nat->List (List (List mK))):Nat->Rat:=Oj g (λi=>oQ (g.e i).cl (A i)) (xJ (AL g))
theorem CY {D0:Nat} (vE vD:Value) (g:mZ) (ev:List (Value×Value)) (dv:List Value) (A:Nat->List (List (List mK))) (av:Nat->List Value) (apv:Nat->List (List Value)) (w:World) (hM:Gf w vE vD g ev dv) (hA:∀i,i<g.n->Gn w (ev.getD i sa).2 (A i) (av i) (apv i)) (hh:Uz D0 g A):
  lU Tryz.prog 9 #[.agg #[vE,vD]] w λr w'=>∃rs LO,r= .tuple #[rs,.int .i64 0]/\(∀wz wx,St wz wx LO->T7 wx g (λi=>oQ (g.e i).cl (A i)) (xS g A) rs)/\St w w' LO:=by
 have hMX:MX=1099511627776:=rfl;have hS:=St.init w;have hn8:=hh.ck.n;obtain⟨s1,s2,D,s3⟩:=OR hh.ok hh.b;obtain⟨t1,t2,t3,t4⟩:=N5 hh.ok hh.b s3;obtain⟨aE,cE,hvE,_⟩:=hM.es.form;obtain⟨aD,cD,hvD,_⟩:=hM.ds.form;have hcq:∀i,i<g.n->L (A1 g i)<=MX:=λi hi=>(hh.ck.es i hi).qL;rw[j9]at hvE hvD;subst hvE hvD;obtain⟨X,hX⟩:=jz (xS g A);have hX2:Oj g (λi=>oQ (g.e i).cl (A i)) (xJ (AL g))=X:=hX.symm;rw[hX2]at s3 t1 t2 t3 t4;refine enter Tryz.func9 rfl Tryz.ntmps9 rfl ?_;refine jr ?_;refine jh (kZ (new:=[.slice aE g.n cE,.slice aD g.ds.length cD]) rfl rfl hS ?_);intro b1 wz1 hS hBz1;refine J1 ?_;intro b2 wz2 hS hBz2;refine V1 ?_;replace hS:St w _ [(b2,38,xC),(b1,29,[.slice aE g.n cE,.slice aD g.ds.length cD])]:=hS;refine J1 ?_;refine jh (j6 Tryz.call24 rfl (Nd _ _ g ev dv A av apv _ (hM.j4 hS.j4) (λi hi=>(hA i hi).j4 hS.j4) hh.ck) ?_);rintro r w3 ⟨rfl,hB3⟩;replace hS:=hS.km hB3;refine V3 ?_;refine lx rfl (rfl) ?_;refine J1 ?_;refine jh (j6 Tryz.call25 rfl (P1 _ _ g ev dv A av apv _ (hM.j4 hS.j4) (λi hi=>(hA i hi).j4 hS.j4) hh.es oO hh.ok.lg) ?_);rintro r w4 ⟨bs,vL,vI,V,iv,rfl,hSy,hB4⟩;replace hS:=hS.km hB4;refine J3 ?_;refine jh (j6 Tryz.call27 rfl (Ok FU 20 SG 154 _ hSy oO hh.ok.lg hh.ok.ho hcq s1) ?_);rintro r w5 ⟨LO,hGx,hS5⟩;have hSy5:=hSy.j4 hS5.j4;have hx:=hGx.sl (H:=[]) hS5 (ks);replace hS:=hS.km hS5.j4;refine jh (j6 Tryz.call26 rfl (My r X SG _ hSy5 (by rw[hX];exact hx) oO t1 t2 hh.ok.lg t3 t4) ?_);rintro rs w6 ⟨LZ,hSe,hS6⟩;replace hS:=(hS.join hS6).perm aF;obtain⟨a1,l1,c1,a2,l2,c2,a3,l3,c3,a4,l4,c4,a5,l5,c5,a6,l6,c6,a7,l7,c7,a8,l8,c8,hrs⟩:=Ou (hSe _ _ hS6);subst hrs;clear hS5 hGx hx hSy hSy5 hS6;refine J1 ?_;intro wz3 hS;refine J1 ?_;refine jt ?_;refine nb (k:=0) rfl rfl rfl xc hS rfl rfl ?_;exact⟨_,LZ,rfl,by rw[<-hX];exact hSe,hS.drop (show LZ.Sublist ([_,_]++LZ)from ai _ _)⟩
end
theorem C3 {α:Type} {l:List α} {f:α->Bool} {i:Nat} (d:α) (hi:i<l.length) (h:(l.take i).any f=false):(f (l.getD i d)=false->(l.take (i+1)).any f=false)/\(f (l.getD i d)=true->l.any f=true):=by
 refine⟨λh1=> ?_,λh1=>dG.2 ⟨_,kE l i d hi,h1⟩⟩;rw[lE l i d hi,List.any_append,h,List.any_cons,h1];rfl
def Uu (c:Nat) (l:List mK):Bool:=l.any λp=>decide (p.c=(c:Int))
def Tz (c:Nat) (X:List (List mK)):Bool:=X.any (Uu c)
def Fq (c:Nat) (A:List (List (List mK))):Bool:=A.any (Tz c)
theorem QG (q:Rat) (aC:Option Addr) (nC cC:Nat) (vA:Value) (A:List (List (List mK))) (av:List Value) (pv:List (List Value)) (c:Nat) (w:World) (hA:Gn w vA A av pv):
  lU Tryz.prog 39 #[Mz q (.slice aC nC cC) vA,.int .i64 c] w λr w'=>r= .bool (!Fq c A)/\Below w.heap.size w w':=by
 have hal:=hA.len;have ham:=hA.sl.maxLen;have hS:=St.init w;obtain⟨aA,cA,hvA,_⟩:=hA.sl.form;subst hvA;rw[hal];refine enter Tryz.func39 rfl Tryz.ntmps39 rfl ?_;refine jr ?_;refine jh (kZ (new:=[.bool (j8 q).neg,.string (j8 q).num,.string (j8 q).den,.slice aC nC cC,.slice aA A.length cA]) rfl rfl hS ?_);intro b2 wz1 hS hBz1;refine V1 ?_;replace hS:St w _ [(b2,51,[.bool (j8 q).neg,.string (j8 q).num,.string (j8 q).den,.slice aC nC cC,.slice aA A.length cA])]:=hS;refine J4 ?_;refine jb ?_;refine kx (λρ w'=>Fq c A=false/\St w w' [(b2,51,[.bool (j8 q).neg,.string (j8 q).num,.string (j8 q).den,.slice aC nC cC,.slice aA A.length cA])]) ?_ ?_
 ·refine ja ?_;refine ku (σ:=Nat) (λi ρ w'=>i<=A.length/\(A.take i).any (Tz c)=false/\ρ 1=iB c/\ρ 12= .slice aA A.length cA/\ρ 13=iB A.length/\ρ 14=iB i/\St w w' [(b2,51,[.bool (j8 q).neg,.string (j8 q).num,.string (j8 q).den,.slice aC nC cC,.slice aA A.length cA])]) (λi=>A.length-i) 0
   ⟨aB _,rfl,rfl,rfl,rfl,rfl,hS⟩ ?_
  clear hS;rintro i ρ w3 ⟨hi,hno,h1,h12,h13,h14,hS⟩;rw[<-hal]at h12;refine V1 ?_;by_cases hlt:i<A.length
  ·refine V1 ?_;obtain⟨t1,t2⟩:=C3 [] hlt hno;have hM:=hA.m i hlt;obtain⟨X,hX⟩:=jz (A.getD i []);rw[<-hX]at hM t1 t2;have hxl:=hM.len;have hxm:=hM.sl.maxLen;obtain⟨aX,cX,hvX,_⟩:=hM.sl.form;have hvX2:=hvX;rw[hxl]at hvX2;rw[hvX2]at hM;refine jr ?_;refine jp (kj (i:=i) h12 h14 (hA.sl.j4 hS.j4) oO dO zc (jq (kt (v:= .agg #[.slice aX X.length cX]) (i:=i) undef rfl uJ (hA.sl.j4 hS.j4) oO rfl (by rw[hvX2];rfl) (.inl rfl) ?_)));refine J1 ?_;intro b6 wz2 hS hBz2;refine J1 ?_;intro wz3 hS;refine ja ?_;replace hS:St w _ [(b6,82,[.slice aX X.length cX]),(b2,51,[.bool (j8 q).neg,.string (j8 q).num,.string (j8 q).den,.slice aC nC cC,.slice aA A.length cA])]:=hS;refine J4 ?_;refine jb ?_;refine kx (λρ w'=>Tz c X=false/\ρ 1=iB c/\ρ 12= .slice aA A.length cA/\ρ 13=iB A.length/\ρ 14=iB i/\St w w' [(b2,51,[.bool (j8 q).neg,.string (j8 q).num,.string (j8 q).den,.slice aC nC cC,.slice aA A.length cA])]) ?_ ?_
   ·refine ja ?_;refine ku (σ:=Nat) (λt ρ w'=>t<=X.length/\(X.take t).any (Uu c)=false/\ρ 1=iB c/\ρ 12= .slice aA A.length cA/\ρ 13=iB A.length/\ρ 14=iB i/\ρ 19= .slice aX X.length cX/\ρ 20=iB X.length/\ρ 21=iB t/\St w w' [(b2,51,[.bool (j8 q).neg,.string (j8 q).num,.string (j8 q).den,.slice aC nC cC,.slice aA A.length cA])]) (λt=>X.length-t) 0
     ⟨aB _,rfl,h1,by rw[hal]at h12;exact h12,h13,h14,rfl,rfl,rfl,hS.drop (ab _ _)⟩ ?_
    clear hS h1 h12 h13 h14;rintro t ρ w4 ⟨ht,hno2,h1,h12,h13,h14,h19,h20,h21,hS⟩;refine V1 ?_;by_cases htl:t<X.length
    ·refine V1 ?_;obtain⟨u1,u2⟩:=C3 [] htl hno2;have hR:=hM.row t htl;obtain⟨l,hl⟩:=jz (X.getD t []);rw[<-hl]at hR u1 u2;have hlm:=hR.maxLen;obtain⟨aL,cL,hvL,_⟩:=hR.form;rw[hvL]at hR;refine jr ?_;refine jp (kj (i:=t) h19 h21 (hM.sl.j4 hS.j4) oO dO uQ (jq (kt (v:= .slice aL l.length cL) (i:=t) undef rfl xV (hM.sl.j4 hS.j4) oO rfl (by rw[hvL];rfl) (.inr rfl) ?_)));refine J4 ?_;refine jb ?_;refine kx (λρ w'=>Uu c l=false/\ρ 1=iB c/\ρ 12= .slice aA A.length cA/\ρ 13=iB A.length/\ρ 14=iB i/\ρ 19= .slice aX X.length cX/\ρ 20=iB X.length/\ρ 21=iB t/\St w w' [(b2,51,[.bool (j8 q).neg,.string (j8 q).num,.string (j8 q).den,.slice aC nC cC,.slice aA A.length cA])]) ?_ ?_
     ·refine ja ?_;refine ku (σ:=Nat) (λj ρ w'=>j<=l.length/\(l.take j).any (λp=>decide (p.c=(c:Int)))=false/\ρ 1=iB c/\ρ 12= .slice aA A.length cA/\ρ 13=iB A.length/\ρ 14=iB i/\ρ 19= .slice aX X.length cX/\ρ 20=iB X.length/\ρ 21=iB t/\ρ 25= .slice aL l.length cL/\ρ 26=iB l.length/\ρ 27=iB j/\St w w' [(b2,51,[.bool (j8 q).neg,.string (j8 q).num,.string (j8 q).den,.slice aC nC cC,.slice aA A.length cA])]) (λj=>l.length-j) 0
       ⟨aB _,rfl,h1,h12,h13,h14,h19,h20,h21,rfl,rfl,rfl,hS⟩ ?_
      clear hS h1 h12 h13 h14 h19 h20 h21;rintro j ρ w5 ⟨hj,hno3,h1,h12,h13,h14,h19,h20,h21,h25,h26,h27,hS⟩;refine V1 ?_;by_cases hjl:j<l.length
      ·refine V1 ?_;obtain⟨z1,z2⟩:=C3 (f:=λp:mK=>decide (p.c=(c:Int))) tH hjl hno3;obtain⟨p,hp⟩:=jz (l.getD j tH);rw[<-hp]at z1 z2;refine jr ?_;refine jp (kj (i:=j) h25 h27 (hR.j4 hS.j4) oO dO tN (jq (kt (i:=j) tH rfl uU (hR.j4 hS.j4) dO rfl rfl (.inl rfl) ?_)));refine J1 ?_;intro b10 wz4 hS hBz4;refine J1 ?_;intro wz5 hS;refine ja ?_;rw[<-hp]at hS;replace hS:St w _ [(b10,85,mF p),(b2,51,[.bool (j8 q).neg,.string (j8 q).num,.string (j8 q).den,.slice aC nC cC,.slice aA A.length cA])]:=hS;refine V4 ?_;by_cases hc:p.c=(c:Int)
       ·refine k9 rfl (ao hc) ?_;refine J1 ?_;refine jt ?_;refine kB rfl rfl ?_;have:Fq c A=true:=t2 (u2 (z2 (ao hc)));exact⟨by rw[this];rfl,hS.j4⟩
       ·refine lx rfl (ae hc) ?_;refine V2 ?_;exact⟨j+1,_,rfl,⟨hjl,z1 (ae hc),jY,jY,jY,jY,jY,jY,jY,jY,jY,vi rfl oO,hS.drop (ab _ _)⟩,oO⟩
      ·refine J1 ?_;refine jt ?_;obtain rfl:j=l.length:=oO;rw[bR]at hno3;exact⟨_,rfl,hno3,h1,h12,h13,h14,h19,h20,h21,hS⟩
     clear hS h1 h12 h13 h14 h19 h20 h21;rintro ρ w5 ⟨hn3,h1,h12,h13,h14,h19,h20,h21,hS⟩;refine V2 ?_;exact⟨t+1,_,rfl,⟨htl,u1 hn3,jY,jY,jY,jY,jY,jY,vi rfl oO,hS⟩,oO⟩
    ·refine J1 ?_;refine jt ?_;obtain rfl:t=X.length:=oO;rw[bR]at hno2;exact⟨_,rfl,hno2,h1,h12,h13,h14,hS⟩
   clear hS h1 h12 h13 h14;rintro ρ w5 ⟨hn2,h1,h12,h13,h14,hS⟩;refine V2 ?_;exact⟨i+1,_,rfl,⟨hlt,t1 hn2,jY,jY,jY,vi rfl oO,hS⟩,oO⟩
  ·refine J1 ?_;refine jt ?_;obtain rfl:i=A.length:=oO;rw[bR]at hno;exact⟨_,rfl,hno,hS⟩
 clear hS;rintro ρ w3 ⟨hno,hS⟩;refine J1 ?_;refine jt ?_;refine kB rfl rfl ?_;exact⟨by rw[hno];rfl,hS.j4⟩
structure Sh (w:World) (vD:Value) (ds:List sL) (dv:List Value):Prop where
 sl:Sl lL 4 w vD (ky ds.length λk=>((ds.getD k si).W,dv.getD k undef))
 lg:∀k,k<ds.length->Sl nx 2 w (dv.getD k undef) (ds.getD k si).legs
theorem Sh.j4 {w w':World} {vD:Value} {ds:List sL} {dv:List Value} (h:Sh w vD ds dv) (hb:Below w.heap.size w w'):Sh w' vD ds dv:=⟨h.sl.j4 hb,λk hk=>(h.lg k hk).j4 hb⟩
def S5 (p:Nat×Nat) (d:sL):Bool:=d.legs.any λq=>decide (q=p)
def Fb (p:Nat×Nat) (ds:List sL):Bool:=ds.any (S5 p)
theorem Pn (aE:Option Addr) (nE cE:Nat) (vD:Value) (ds:List sL) (dv:List Value) (p:Nat×Nat) (w:World) (hD:Sh w vD ds dv):
  lU Tryz.prog 40 #[.agg #[.slice aE nE cE,vD],.int .i64 p.1,.int .i64 p.2] w λr w'=>r= .bool (Fb p ds)/\Below w.heap.size w w':=by
 have htl:=j9 ds.length λk=>((ds.getD k si).W,dv.getD k undef);have hdm:=hD.sl.maxLen;have hS:=St.init w;obtain⟨aD,cD,hvD,_⟩:=hD.sl.form;rw[htl]at hvD hdm;subst hvD;refine enter Tryz.func40 rfl Tryz.ntmps40 rfl ?_;refine jr ?_;refine jh (kZ (new:=[.slice aE nE cE,.slice aD ds.length cD]) rfl rfl hS ?_);intro b3 wz1 hS hBz1;refine V1 ?_;replace hS:St w _ [(b3,29,[.slice aE nE cE,.slice aD ds.length cD])]:=hS;refine J4 ?_;refine jb ?_;refine kx (λρ w'=>Fb p ds=false/\St w w' [(b3,29,[.slice aE nE cE,.slice aD ds.length cD])]) ?_ ?_
 ·refine ja ?_;refine ku (σ:=Nat) (λi ρ w'=>i<=ds.length/\(ds.take i).any (S5 p)=false/\ρ 1=iB p.1/\ρ 2=iB p.2/\ρ 12= .slice aD ds.length cD/\ρ 13=iB ds.length/\ρ 14=iB i/\St w w' [(b3,29,[.slice aE nE cE,.slice aD ds.length cD])]) (λi=>ds.length-i) 0
   ⟨aB _,rfl,rfl,rfl,rfl,rfl,rfl,hS⟩ ?_
  clear hS;rintro i ρ w3 ⟨hi,hno,h1,h2,h12,h13,h14,hS⟩;refine V1 ?_;by_cases hlt:i<ds.length
  ·refine V1 ?_;obtain⟨t1,t2⟩:=C3 si hlt hno;have hlg:=hD.lg i hlt;obtain⟨al,cl,hvl,_⟩:=hlg.form;have hel:(ky ds.length λk=>((ds.getD k si).W,dv.getD k undef)).getD i JP=((ds.getD i si).W,.slice al (ds.getD i si).legs.length cl):=by rw[kz _ _ hlt,hvl]
   rw[hvl]at hlg;obtain⟨d,hd⟩:=jz (ds.getD i si);rw[<-hd]at hlg t1 t2 hel;have hlm:=hlg.maxLen;refine jr ?_;refine jp (kj (i:=i) h12 h14 (hD.sl.j4 hS.j4) oO dO tK (jq (kt (v:=Ql d.W (.slice al d.legs.length cl)) (i:=i) JP rfl ss (hD.sl.j4 hS.j4) oO rfl (by rw[hel];rfl) (.inl rfl) ?_)));refine J1 ?_;intro b8 wz2 hS hBz2;refine J1 ?_;intro wz3 hS;refine ja ?_;replace hS:St w _ [(b8,64,lL (d.W,.slice al d.legs.length cl)),(b3,29,[.slice aE nE cE,.slice aD ds.length cD])]:=hS;refine J4 ?_;refine jb ?_;refine kx (λρ w'=>S5 p d=false/\ρ 1=iB p.1/\ρ 2=iB p.2/\ρ 12= .slice aD ds.length cD/\ρ 13=iB ds.length/\ρ 14=iB i/\St w w' [(b3,29,[.slice aE nE cE,.slice aD ds.length cD])]) ?_ ?_
   ·refine ja ?_;refine ku (σ:=Nat) (λj ρ w'=>j<=d.legs.length/\(d.legs.take j).any (λq=>decide (q=p))=false/\ρ 1=iB p.1/\ρ 2=iB p.2/\ρ 12= .slice aD ds.length cD/\ρ 13=iB ds.length/\ρ 14=iB i/\ρ 19= .slice al d.legs.length cl/\ρ 20=iB d.legs.length/\ρ 21=iB j/\St w w' [(b3,29,[.slice aE nE cE,.slice aD ds.length cD])]) (λj=>d.legs.length-j) 0
     ⟨aB _,rfl,h1,h2,h12,h13,h14,rfl,rfl,rfl,hS.drop (ab _ _)⟩ ?_
    clear hS h1 h2 h12 h13 h14;rintro j ρ w4 ⟨hj,hno2,h1,h2,h12,h13,h14,h19,h20,h21,hS⟩;refine V1 ?_;by_cases hjl:j<d.legs.length
    ·refine V1 ?_;obtain⟨z1,z2⟩:=C3 (f:=λq:Nat×Nat=>decide (q=p)) (0,0) hjl hno2;obtain⟨q,hq⟩:=jz (d.legs.getD j (0,0));rw[<-hq]at z1 z2;refine jr ?_;refine jp (kj (i:=j) h19 h21 (hlg.j4 hS.j4) oO dO qp (jq (kt (i:=j) (0,0) rfl qq (hlg.j4 hS.j4) dO rfl rfl (.inl rfl) ?_)));refine J1 ?_;intro b10 wz4 hS hBz4;refine J1 ?_;intro wz5 hS;refine ja ?_;rw[<-hq]at hS;replace hS:St w _ [(b10,66,nx q),(b3,29,[.slice aE nE cE,.slice aD ds.length cD])]:=hS;by_cases e1:q.1=p.1
     ·by_cases e2:q.2=p.2
      ·refine J5 ?_;refine ke (j7 29 kR rfl dT) (lC rfl t6 (lj (j7 29 kR rfl dT) (kO (k:=0) rfl nm hS rfl rfl rfl (.inr rfl) (ke (j7 29 kR rfl dT) (ko h2 (ke (j7 29 kR rfl dT) (qV rfl rfl (jp (kA (vb rfl dT) rfl ?_)))))))));refine J2 ?_;refine jt ?_;refine kB rfl rfl ?_;have:Fb p ds=true:=t2 (z2 (ao (Prod.ext e1 e2)));exact⟨by rw[this];rfl,hS.j4⟩
      ·refine J5 ?_;refine ke (j7 29 kR rfl dT) (lC rfl t6 (lj (j7 29 kR rfl dT) (kO (k:=0) rfl nm hS rfl rfl rfl (.inr rfl) (ke (j7 29 kR rfl dT) (ko h2 (ke (j7 29 kR rfl dT) (qV rfl rfl (jp (kA (vb rfl dT) rfl ?_)))))))));refine V3 ?_;exact⟨j+1,_,rfl,⟨hjl,z1 (ae (λh=>e2 (by rw[h]))),jY,jY,jY,jY,jY,jY,jY,vi rfl oO,hS.drop (ab _ _)⟩,oO⟩
     ·refine J5 ?_;refine kL (ka 29 kR rfl dF) (kL (ka 29 kR rfl dF) (kL (ka 29 kR rfl dF) (kL (ka 29 kR rfl dF) (jp (kA (vb rfl dF) rfl ?_)))));refine ja ?_;refine lx rfl (rfl) ?_;refine V2 ?_;exact⟨j+1,_,rfl,⟨hjl,z1 (ae (λh=>e1 (by rw[h]))),jY,jY,jY,jY,jY,jY,jY,vi rfl oO,hS.drop (ab _ _)⟩,oO⟩
    ·refine J1 ?_;refine jt ?_;obtain rfl:j=d.legs.length:=oO;rw[bR]at hno2;exact⟨_,rfl,hno2,h1,h2,h12,h13,h14,hS⟩
   clear hS h1 h2 h12 h13 h14;rintro ρ w5 ⟨hn2,h1,h2,h12,h13,h14,hS⟩;refine V2 ?_;exact⟨i+1,_,rfl,⟨hlt,t1 hn2,jY,jY,jY,jY,vi rfl oO,hS⟩,oO⟩
  ·refine J1 ?_;refine jt ?_;obtain rfl:i=ds.length:=oO;rw[bR]at hno;exact⟨_,rfl,hno,hS⟩
 clear hS;rintro ρ w3 ⟨hno,hS⟩;refine J1 ?_;refine jt ?_;refine kB rfl rfl ?_;exact⟨by rw[hno];rfl,hS.j4⟩
def oW (x:Nat->Nat):List Value:=[.int .u16 (x 0),.int .u16 (x 1),.int .u16 (x 2)]
def yF (x:Nat->Nat):List Value:=[.int .u16 (x 0),.int .u16 (x 1),.int .u16 (x 2),.int .u16 (x 3)]
def LK (b i:Nat):Nat:=b/2^(2*i)%4
def zu (p:Nat->Nat) (i:Nat):mK:=if p 2/2^i%2=1 then⟨(i:Int),true,((p 2/64%9:Nat):Int)⟩else⟨(i:Int),false,0⟩
def oV (A:List (List (List mK))) (p:Nat->Nat):Nat->Nat->List mK
 |0,_=>[]
 |i+1,t=>if LK (p 1) i=t+1/\Fq i A=false then oV A p i t++[zu p i]else oV A p i t
def QT (p:Nat->Nat):mK:=⟨-1,true,((p 0/96%7:Nat):Int)⟩
def wS (A:List (List (List mK))) (n:Nat) (p:Nat->Nat):List (List mK):=ky 3 λt=>if p 0/8%4=0/\t=p 0/32%3 then oV A p n t++[QT p]else oV A p n t
theorem WB {m:Nat} (hm:m<2^63):pM .and .i64 (m:Int) 3=((m%4:Nat):Int):=by
 have:=K5 m 3 hm dD;rw[show m&&&3=m%4 from gH m 2]at this;exact this
theorem Vh {m:Nat} (hm:m<2^63):pM .and .i64 (m:Int) 1=((m%2:Nat):Int):=by
 have:=K5 m 1 hm dD;rw[show m&&&1=m%2 from gH m 1]at this;exact this
theorem sy {m n:Nat} (h:m<65536):m/n<65536:=ct (dE _ _) h
theorem yB (A:List (List (List mK))) (p:Nat->Nat):∀i t,(oV A p i t).length<=i
 |0,_=>aH _
 |i+1,t=>by
  have:=yB A p i t;unfold oV;split
  ·rw[aG];show _+1<=_;omega
  ·omega
theorem P2 (i:Int):Tryz.prog.built 85 [(0,.int .i64 i)]=some #[.int .i64 i,.bool false,.bool false,.string ⟨#[]⟩,.string ⟨#[]⟩]:=by kernel_rfl
theorem Nb (i:Int) (b:Bool) (r:RR):Tryz.prog.built 85 [(0,.int .i64 i),(1,.bool b),(2,kW r)]=some #[.int .i64 i,.bool b,.bool r.neg,.string r.num,.string r.den]:=by kernel_rfl
theorem OG (a:Option Addr) (n c:Nat):Tryz.prog.built 82 [(0,.slice a n c)]=some #[.slice a n c]:=by kernel_rfl
theorem QI {α:Type} {enc:α->List Value} {sz b n:Nat} {t:TypeId} {X:List α} (hu:∀x,(enc x).length=sz) (hx:X.length=n) (hm:n<=1000):Gl enc t sz (.slice (some ⟨b,0,none⟩) n n) X [(b,t,X.flatMap enc)]:=
 ⟨lS hu _,.inr ⟨b,n,[],by rw[hx],by rw[aU],oO,by unfold Go.maxLen;omega,by rw[aU,lS hu,hx]⟩⟩
theorem Fv {α:Type} {l:List α} {i:Nat} (d:α) (h:i<l.length):l[i]?=some (l.getD i d):=by rw[ap,aJ h];rfl
theorem O1 (m n:Nat) (hm:m<65536):IntKind.u16.wrap ((m:Int).tdiv n)=((m/n:Nat):Int):=by
 rw[Lh];have:=sy (n:=n) hm;generalize m/n=k at*;exact fT _ oO
theorem Tm (i:Int):([.int .i64 i,.bool false,.bool false,.string ⟨#[]⟩,.string ⟨#[]⟩]:List Value)=mF ⟨i,false,0⟩:=by
 show _=_::_::j5 (j8 0);rw[ol];rfl
theorem Gn.one {w:World} {v:Value} {A:List (List (List mK))} {av:List Value} {pv:List (List Value)} (h:Gn w v A av pv):∀u∈av.flatMap rK,u.oneCell'=true:=λu hu=>by
 rw[Hf]at hu;obtain⟨k,hk,e⟩:=fy hu;obtain⟨a,c,h1,_⟩:=(h.m k (by rw[<-h.len];exact hk)).sl.form;rw[ap,aJ hk]at h1;have h2:u=_:=e.symm.trans h1;rw[h2];rfl
theorem UP (A:List (List (List mK))) (p:Nat->Nat):mr mF 85 5 [kd,kd,kd] (ky 3 λt=>oV A p 0 t) [[],[],[]]:=by
 have h0:(ky 3 λt=>oV A p 0 t)=[[],[],[]]:=rfl;rw[h0];exact((mr.nil.snoc (Gl.nil _ _ _)).snoc (Gl.nil _ _ _)).snoc (Gl.nil _ _ _)
theorem Pi (q:Rat) (aC:Option Addr) (n cC:Nat) (vA:Value) (A:List (List (List mK))) (av:List Value) (pv:List (List Value)) (p:Nat->Nat) (w:World) (hA:Gn w vA A av pv) (hn:n<=10) (hp:∀i,i<3->p i<65536) (ha:A.length<=10):
  lU Tryz.prog 21 #[Mz q (.slice aC n cC) vA,.agg (oW p).toArray] w λr w'=>∃x vs LO D,Gl rK 82 1 r (av++[x]) LO/\(∀wz wx,St wz wx D->rJ mF 5 wx x (wS A n p) vs)/\St w w' (LO++D):=by
 have hal:=hA.len;have hp0:=hp 0 dD;have hp1:=hp 1 dD;have hp2:=hp 2 dD;have hS:=St.init w;obtain⟨aA,cA,hvA,_⟩:=hA.sl.form;subst hvA;refine enter Tryz.func21 rfl Tryz.ntmps21 rfl ?_;refine jr ?_;refine jh (kZ (new:=[.bool (j8 q).neg,.string (j8 q).num,.string (j8 q).den,.slice aC n cC,.slice aA av.length cA]) rfl rfl hS ?_);intro b2 wz1 hS hBz1;refine jh (kZ (new:=oW p) rfl rfl hS ?_);intro b3 wz2 hS hBz2;refine V1 ?_;replace hS:St w _ [(b3,70,oW p),(b2,51,[.bool (j8 q).neg,.string (j8 q).num,.string (j8 q).den,.slice aC n cC,.slice aA av.length cA])]:=hS;refine jr ?_;refine jh (lR (enc:=rK) (n:=3) kd rfl rfl uQ rfl oO oO oO oO hS ?_);intro bt wz3 hS hBz3;refine V1 ?_;replace hS:St w _ ([(bt,83,([kd,kd,kd]).flatMap rK),(b3,70,oW p),(b2,51,[.bool (j8 q).neg,.string (j8 q).num,.string (j8 q).den,.slice aC n cC,.slice aA av.length cA])]++([[],[],[]]:List (List kU)).flatten):=hS;refine jr ?_;refine jp (tY (n:=3) (i:=1) rfl rfl rfl dD Tryz.underlying70 pA ?_);refine J7 ?_;refine jb ?_;refine kx (λρ w'=>(ρ 2=pB b2/\ρ 3=pB b3/\ρ 5= .slice (some ⟨bt,0,none⟩) 3 3)/\∃vs LL,mr mF 85 5 vs (ky 3 λt=>oV A p n t) LL/\St w w' ([(bt,83,(vs).flatMap rK),(b3,70,oW p),(b2,51,[.bool (j8 q).neg,.string (j8 q).num,.string (j8 q).den,.slice aC n cC,.slice aA av.length cA])]++LL.flatten)) ?_ ?_
 ·refine ja ?_;refine ku (σ:=Nat) (λi ρ w'=>i<=n/\(ρ 2=pB b2/\ρ 3=pB b3/\ρ 5= .slice (some ⟨bt,0,none⟩) 3 3)/\ρ 6=iB (p 1)/\ρ 17=iB n/\ρ 18=iB i/\∃vs LL,mr mF 85 5 vs (ky 3 λt=>oV A p i t) LL/\St w w' ([(bt,83,(vs).flatMap rK),(b3,70,oW p),(b2,51,[.bool (j8 q).neg,.string (j8 q).num,.string (j8 q).den,.slice aC n cC,.slice aA av.length cA])]++LL.flatten)) (λi=>n-i) 0
   ⟨aB _,⟨rfl,rfl,rfl⟩,rfl,rfl,rfl,_,_,UP A p,hS⟩ ?_
  clear hS;rintro i ρ w3 ⟨hi,⟨h2,h3,h5⟩,h6,h17,h18,vs,LL,hR,hS⟩;have hvl:=hR.len;have hll:=hR.ln;rw[j9]at hvl hll;refine V1 ?_;by_cases hlt:i<n
  ·refine J5 ?_;refine jp (wk rfl rfl (cF _ oO) (jp (kH rfl Tryz.underlying94 ⟨_,Tryz.underlying3⟩ (r:=((2*i:Nat):Int)) (by exact kX _ ⟨oO,oO,oO⟩) (jp (pW rfl rfl oO (qg (p 1) (2*i) (by show _<=64;omega)) (jp (DI rfl rfl (r:=((LK (p 1) i:Nat):Int)) (by exact WB (by have:=sy (n:=2^(2*i)) hp1;omega)) ?_)))))));refine V1 ?_;obtain⟨g,hg⟩:=jz (LK (p 1) i);rw[<-hg];by_cases hg0:g=0
   ·refine J3 ?_;refine kL (ka 29 kR rfl dT) (kL (ka 29 kR rfl dT) (kL (ka 29 kR rfl dT) (kL (ka 29 kR rfl dT) (jp (kA (vb rfl dT) rfl ?_)))));refine ja ?_;refine k9 rfl (rfl) ?_;refine jt ?_;have e:(ky 3 λt=>oV A p (i+1) t)=ky 3 λt=>oV A p i t:=kF λt _=>by
     show(if _ then _ else _)=_;rw[ah (by rintro⟨h,_⟩;omega)]
    refine V2 ?_;exact⟨i+1,_,rfl,⟨hlt,⟨jY,jY,jY⟩,jY,jY,vi rfl oO,vs,LL,by rw[e];exact hR,hS⟩,oO⟩
   ·refine J3 ?_;refine lj (j7 29 kR rfl dF) (kO (k:=2) (v:=Mz q (.slice aC n cC) (.slice aA av.length cA)) h2 sZ hS rfl rfl rfl (.inl rfl) (ke (j7 29 kR rfl dF) (ko rfl (pj (j7 29 kR rfl dF) (j6 Tryz.call39 rfl (QG q aC n cC _ A av pv i _ (hA.j4 hS.j4)) ?_)))));rintro r w4 ⟨rfl,hB4⟩;replace hS:=hS.km hB4;refine ke (j7 29 kR rfl dF) (xU rfl (jp (kA (vb rfl dF) rfl ?_)));refine ja ?_;rw[Bool.not_not];cases hh:Fq i A with
    |true=>
     refine k9 rfl (rfl) ?_;refine jt ?_;have e:(ky 3 λt=>oV A p (i+1) t)=ky 3 λt=>oV A p i t:=kF λt _=>by
      show(if _ then _ else _)=_;rw[ah (by rintro⟨_,h⟩;rw[hh]at h;cases h)]
     refine V2 ?_;exact⟨i+1,_,rfl,⟨hlt,⟨jY,jY,jY⟩,jY,jY,vi rfl oO,vs,LL,by rw[e];exact hR,hS⟩,oO⟩
    |false=>
     refine lx rfl (rfl) ?_;refine ja ?_;obtain⟨t,ht⟩:∃t,g=t+1:=⟨g-1,oO⟩;have ht3:t<3:=by
      have:LK (p 1) i<4:=bG _ dD;omega
     refine J1 ?_;refine jp (kT rfl (P2 _) ?_);refine J1 ?_;intro bp wz4 hS hBz4;refine J1 ?_;intro wz5 hS;refine ja ?_;replace hS:St w _ ([(bp,85,mF ⟨i,false,0⟩),(bt,83,(vs).flatMap rK),(b3,70,oW p),(b2,51,[.bool (j8 q).neg,.string (j8 q).num,.string (j8 q).den,.slice aC n cC,.slice aA av.length cA])]++LL.flatten):=hS.cast (by rw[<-Tm];rfl);refine jr ?_;refine jp (tY (n:=3) (i:=2) h3 rfl rfl dD Tryz.underlying70 pA ?_);refine J3 ?_;refine jp (kH rfl Tryz.underlying94 ⟨_,Tryz.underlying3⟩ (r:=((i:Nat):Int)) (by exact kX _ ⟨rfl,oO,oO⟩) (jp (pW rfl rfl oO (qg (p 2) i (by show _<=64;omega)) (jp (DI rfl rfl (r:=((p 2/2^i%2:Nat):Int)) (by exact Vh (by have:=sy (n:=2^i) hp2;omega)) ?_)))));refine J1 ?_;refine jb ?_;refine kx (λρ w'=>(ρ 2=pB b2/\ρ 3=pB b3/\ρ 5= .slice (some ⟨bt,0,none⟩) 3 3)/\ρ 6=iB (p 1)/\ρ 8=iB g/\ρ 9=pB bp/\ρ 17=iB n/\ρ 18=iB i/\St w w' ([(bp,85,mF (zu p i)),(bt,83,(vs).flatMap rK),(b3,70,oW p),(b2,51,[.bool (j8 q).neg,.string (j8 q).num,.string (j8 q).den,.slice aC n cC,.slice aA av.length cA])]++LL.flatten)) ?_ ?_
     ·refine ja ?_;by_cases hb:p 2/2^i%2=1
      ·refine J2 ?_;refine jh (nM (k:=0) rfl rfl p9 hS rfl dM rfl ?_);intro wz6 hS;refine ja ?_;have h9:p 2/64<65536:=sy hp2;refine jr ?_;refine jp (tY (n:=3) (i:=2) h3 rfl rfl dD Tryz.underlying70 pA ?_);refine J1 ?_;refine jp (pW rfl rfl oO (r:=((p 2/64:Nat):Int)) (by exact qg (k:= .u16) _ 6 dD) ?_);refine J1 ?_;refine jp (pC rfl rfl oO (r:=((p 2/64%9:Nat):Int)) (by exact oz _ 9) (jh (j6 Tryz.call38 rfl (zl ((p 2/64%9:Nat):Int) _ oO oO) ?_)));rintro r w5 ⟨rfl,hB5⟩;replace hS:=hS.km hB5;refine J2 ?_;intro wz7 hS;refine ja ?_;refine⟨_,rfl,⟨jY,jY,jY⟩,jY,rfl,rfl,jY,jY,?_⟩;unfold zu;rw[aj hb];exact hS
      ·refine V1 ?_;refine⟨_,rfl,⟨jY,jY,jY⟩,jY,rfl,rfl,jY,jY,?_⟩;unfold zu;rw[ah hb];exact hS
     clear hS h2 h3 h5 h6 h17 h18;rintro ρ w6 ⟨⟨h2,h3,h5⟩,h6,h8,h9,h17,h18,hS⟩;rw[ht]at h8;have hLt:=Fv ([]:List kU) (show t<LL.length by omega);replace hS:=m9 hS hLt;have hGt:=hR.g t (by rw[j9];exact ht3);have hXt:(ky 3 λt=>oV A p i t).getD t []=oV A p i t:=kz _ _ ht3;rw[hXt]at hGt;have hfl:=yB A p i t;obtain⟨x,hx⟩:=jz (zu p i);rw[<-hx]at hS;refine ja ?_;refine kC [jo 0,jo 1,jo 2,jo 3,jo 4,jo 5,jo 6,ju 7,ju 8,jv 9,jw 10,jo 11,jw 12] kR kR hS ?_;intro wz8 hS hBz8;refine J6 ?_;refine jl rfl (kD (i:=t) rfl rfl oO dO uQ ?_);refine jm rfl (SQ (k:=1) (i:=t) (enc:=rK) undef (λ_=>rfl) rfl xV hS rfl (by first|omega|simp) dO rfl (.inr rfl) ?_);refine J1 ?_;refine jn rfl (mD (vs:=[_]) rfl tN rfl dD dD dD (by simp[Value.cells,pF]) rfl hS ?_);intro b9 wz10 hS hBz10;refine⟨hBz10,?_⟩;refine jx rfl (mf [x] rfl rfl tN dD hGt hS rfl rfl pF (xD [x]) dL dL ?_);intro va11 La11 wa11 hGt hS hga11;obtain⟨aX,cX,hvX⟩:=hGt.len;subst hvX;refine jl rfl (kD (i:=t) rfl rfl oO dO uQ ?_);refine jx rfl (zp (k:=1) (i:=t) (enc:=rK) (.slice aX (oV A p i t++[x]).length cX) (λ_=>rfl) rfl rfl xV hS rfl (by simp) oO rfl rfl ?_);intro wz12 hS;refine ja ?_;replace hS:St w _ (([(bp,85,mF x),(bt,83,(vs.set t (.slice aX (oV A p i t++[x]).length cX)).flatMap rK),(b3,70,oW p),(b2,51,[.bool (j8 q).neg,.string (j8 q).num,.string (j8 q).den,.slice aC n cC,.slice aA av.length cA])]++(LL.set t []).flatten)++La11):=hS;have hS9:=(nq (P:=[_,_,_,_]) (Ls:=LL) (k:=t) hS oO).drop (ab _ _);have hR2:=hR.FL (i:=t) (by rw[j9];exact ht3) hGt;have e:(ky 3 λt=>oV A p i t).set t (oV A p i t++[x])=ky 3 λt=>oV A p (i+1) t:=by
      rw[nt];refine kF λj _=> ?_;show _=if _ then _ else _
      by_cases ej:j=t
      ·rw[aj ej,aj ⟨by rw[<-hg,ht,ej],hh⟩,hx,ej]
      ·rw[ah ej,ah (by rintro⟨h,_⟩;omega)]
     rw[e]at hR2;refine V2 ?_;exact⟨i+1,_,rfl,⟨hlt,⟨jY,jY,jY⟩,jY,jY,vi rfl oO,_,_,hR2,hS9⟩,oO⟩
  ·refine J1 ?_;refine jt ?_;obtain rfl:i=n:=oO;exact⟨_,rfl,⟨h2,h3,h5⟩,vs,LL,hR,hS⟩
 clear hS;rintro ρ w3 ⟨⟨h2,h3,h5⟩,vs,LL,hR,hS⟩;have hvl:=hR.len;have hll:=hR.ln;rw[j9]at hvl hll;have h8:p 0/8<65536:=sy hp0;have h32:p 0/32<65536:=sy hp0;have h96:p 0/96<65536:=sy hp0;refine jr ?_;refine jp (tY (n:=3) (i:=0) h3 rfl rfl dD Tryz.underlying70 pA ?_);refine J1 ?_;refine jp (rL rfl rfl oO (r:=((p 0/8:Nat):Int)) (by exact O1 _ 8 hp0) (jp (pC rfl rfl oO (r:=((p 0/8%4:Nat):Int)) (by exact oz _ 4) ?_)));refine J1 ?_;refine jb ?_;refine kx (λρ w'=>(ρ 2=pB b2/\ρ 3=pB b3/\ρ 5= .slice (some ⟨bt,0,none⟩) 3 3)/\∃vs LL,mr mF 85 5 vs (wS A n p) LL/\St w w' ([(bt,83,(vs).flatMap rK),(b3,70,oW p),(b2,51,[.bool (j8 q).neg,.string (j8 q).num,.string (j8 q).den,.slice aC n cC,.slice aA av.length cA])]++LL.flatten)) ?_ ?_
 ·refine ja ?_;by_cases hr:p 0/8%4=0
  ·refine V1 ?_;obtain⟨t,ht⟩:=jz (p 0/32%3);have ht3:t<3:=by rw[ht];exact bG _ dD
   refine jr ?_;refine jp (tY (n:=3) (i:=0) h3 rfl rfl dD Tryz.underlying70 pA ?_);refine J1 ?_;refine jp (rL rfl rfl oO (r:=((p 0/32:Nat):Int)) (by exact O1 _ 32 hp0) (jp (pC rfl rfl oO (r:=((p 0/32%3:Nat):Int)) (by exact oz _ 3) ?_)));refine V2 ?_;rw[<-ht];have hLt:=Fv ([]:List kU) (show t<LL.length by omega);replace hS:=m9 hS hLt;have hGt:=hR.g t (by rw[j9];exact ht3);have hXt:(ky 3 λt=>oV A p n t).getD t []=oV A p n t:=kz _ _ ht3;rw[hXt]at hGt;have hfl:=yB A p n t;refine ja ?_;refine kC [jo 0,jo 1,jo 2,jo 3,jo 4,ju 5,jo 6,ju 7,jo 8,jo 9,jo 10,jv 11,jo 12,jv 13,jw 14,jo 15,jw 16] kR kR hS ?_;intro wz13 hS hBz13;refine J4 ?_;refine jl rfl (kD (i:=t) rfl rfl oO dO uQ ?_);refine jm rfl (SQ (k:=0) (i:=t) (enc:=rK) undef (λ_=>rfl) rfl xV hS rfl (by first|omega|simp) dO rfl (.inr rfl) ?_);refine jl rfl (tY (n:=3) (i:=0) h3 rfl rfl dD Tryz.underlying70 pA ?_);refine J1 ?_;refine jl rfl (rL rfl rfl oO (r:=((p 0/96:Nat):Int)) (by exact O1 _ 96 hp0) ?_);refine J1 ?_;refine jl rfl (pC rfl rfl oO (r:=((p 0/96%7:Nat):Int)) (by exact oz _ 7) (jn rfl (j6 Tryz.call38 rfl (zl ((p 0/96%7:Nat):Int) _ oO oO) ?_)));rintro r w5 ⟨rfl,hB5⟩;refine⟨hB5,?_⟩;replace hS:=hS.km hB5;obtain⟨x,hx⟩:=jz (QT p);have hxv:mF x=[.int .i64 (-1),.bool true,.bool (j8 (((p 0/96%7:Nat):Int):Rat)).neg,.string (j8 (((p 0/96%7:Nat):Int):Rat)).num,.string (j8 (((p 0/96%7:Nat):Int):Rat)).den]:=by rw[hx];rfl
   refine jl rfl (kT rfl (Nb _ _ _) (jn rfl (mD (vs:=[_]) rfl tN rfl dD dD dD (by simp[Value.cells]) rfl hS ?_)));intro b14 wz15 hS hBz15;refine⟨hBz15,?_⟩;rw[show([Value.agg #[.int .i64 (-1),.bool true,.bool (j8 (((p 0/96%7:Nat):Int):Rat)).neg,.string (j8 (((p 0/96%7:Nat):Int):Rat)).num,.string (j8 (((p 0/96%7:Nat):Int):Rat)).den]]).flatMap (λv=>v.cells.toList)=[x].flatMap mF from(by rw[cK,cK,hxv];rfl)]at hS;refine jx rfl (mf [x] rfl rfl tN dD hGt hS rfl rfl pF (xD [x]) dL dL ?_);intro va16 La16 wa16 hGt hS hga16;obtain⟨aX,cX,hvX⟩:=hGt.len;subst hvX;refine jl rfl (kD (i:=t) rfl rfl oO dO uQ ?_);refine jx rfl (zp (k:=0) (i:=t) (enc:=rK) (.slice aX (oV A p n t++[x]).length cX) (λ_=>rfl) rfl rfl xV hS rfl (by simp) oO rfl rfl ?_);intro wz17 hS;refine ja ?_;replace hS:St w _ (([(bt,83,(vs.set t (.slice aX (oV A p n t++[x]).length cX)).flatMap rK),(b3,70,oW p),(b2,51,[.bool (j8 q).neg,.string (j8 q).num,.string (j8 q).den,.slice aC n cC,.slice aA av.length cA])]++(LL.set t []).flatten)++La16):=hS;have hS9:=nq (P:=[_,_,_]) (Ls:=LL) (k:=t) hS oO;have hR2:=hR.FL (i:=t) (by rw[j9];exact ht3) hGt;have e:(ky 3 λt=>oV A p n t).set t (oV A p n t++[x])=wS A n p:=by
    rw[nt];refine kF λj _=> ?_;by_cases ej:j=t
    ·rw[aj ej,aj ⟨hr,by rw[ej,ht]⟩,hx,ej]
    ·rw[ah ej,ah (λh=>ej (by rw[h.2,ht]))]
   rw[e]at hR2;exact⟨_,rfl,⟨jY,jY,jY⟩,_,_,hR2,hS9⟩
  ·refine V1 ?_;have e:(ky 3 λt=>oV A p n t)=wS A n p:=kF λt _=>by rw[ah (λh=>hr h.1)]
   rw[e]at hR;exact⟨_,rfl,⟨jY,jY,jY⟩,vs,LL,hR,hS⟩
 clear hS h2 h3 h5 hR hvl hll;clear vs LL;rintro ρ w6 ⟨⟨h2,h3,h5⟩,vs,LL,hR,hS⟩;have hvl:=hR.len;have hxl:(wS A n p).length=3:=j9 _ _;rw[hxl]at hvl;refine J2 ?_;refine jh (IE rfl rfl zc dD hS (hA.sl.j4 hS.j4) (λ_=>rfl) hA.one dL dL ?_);intro va18 La18 wa18 hGa hS hBa18;refine J1 ?_;refine jp (kT rfl (OG _ _ _) (jh (mD (vs:=[_]) rfl zc rfl dD dD dD (by simp[Value.cells]) rfl hS ?_)));intro b19 wz20 hS hBz20;refine jh (mf [.slice (some ⟨bt,0,none⟩) 3 3] rfl rfl zc dD hGa hS rfl rfl (λ_=>rfl) (CQ _ rfl) dL dL ?_);intro va21 La21 wa21 hGa hS hga21;refine J1 ?_;refine jt ?_;refine kB rfl rfl ?_;obtain⟨LO,hLO⟩:=jz La21;rw[<-hLO]at hGa hS;replace hS:St w _ (([(bt,83,vs.flatMap rK),(b3,70,oW p),(b2,51,[.bool (j8 q).neg,.string (j8 q).num,.string (j8 q).den,.slice aC n cC,.slice aA av.length cA])]++LL.flatten)++LO):=hS;have hGt:=QI (enc:=rK) (b:=bt) (t:=83) (n:=3) (X:=vs) (λ_=>rfl) hvl dD;refine⟨.slice (some ⟨bt,0,none⟩) 3 3,vs,LO,[(bt,83,vs.flatMap rK)]++LL.flatten,hGa,λwz wx hx=>hR.Lc hGt hx (Q:=[]) (hx.drop (ak _ _)) pF,?_⟩;have h9:(([(bt,83,vs.flatMap rK)]++LL.flatten)++LO).Sublist (([(bt,83,vs.flatMap rK),(b3,70,oW p),(b2,51,[.bool (j8 q).neg,.string (j8 q).num,.string (j8 q).den,.slice aC n cC,.slice aA av.length cA])]++LL.flatten)++LO):=
  bn (bn (List.Sublist.cons_cons _ (gJ _)) (bK _)) (bK _)
 exact(hS.drop h9).perm aF
structure Qm where
 k:Nat
 ho:Int
 l:List (Nat×Nat)
def qB (ds:List sL) (d:Nat->Nat) (i:Nat) (x:qZ) (c:Nat) (s:Qm):Qm:=
 if Fb (i,c) ds=true\/4<=s.l.length then s else if d 0/2^(s.k%16)%2=1/\(s.l=[]\/x.h=s.ho)then⟨s.k+1,x.h,s.l++[(i,c)]⟩else⟨s.k+1,s.ho,s.l⟩
def Io (ds:List sL) (d:Nat->Nat) (i:Nat) (cl:List qZ):Nat->Qm->Qm
 |0,s=>s
 |c+1,s=>qB ds d i (cl.getD c pb) c (Io ds d i cl c s)
def Jp (ds:List sL) (d:Nat->Nat) (cl:Nat->List qZ):Nat->Qm
 |0=>⟨0,0,[]⟩
 |i+1=>Io ds d i (cl i) (cl i).length (Jp ds d cl i)
def RO (ds:List sL) (d:Nat->Nat) (cl:Nat->List qZ) (n:Nat):List (Nat×Nat):=if d 1%2=1 then(Jp ds d cl n).l.reverse else(Jp ds d cl n).l
theorem Qe (ds:List sL) (d:Nat->Nat) (i:Nat) (x:qZ) (c:Nat) (s:Qm):(qB ds d i x c s).k<=s.k+1:=by
 unfold qB;split
 ·omega
 ·split<;>exact aH _
theorem NK (ds:List sL) (d:Nat->Nat) (i:Nat) (x:qZ) (c:Nat) (s:Qm) (h:s.l.length<=4):(qB ds d i x c s).l.length<=4:=by
 unfold qB;split
 ·exact h
 ·rename_i h1;split
  ·show(s.l++[_]).length<=4;rw[aG];show _+1<=4;have:=λh=>h1 (.inr h);omega
  ·exact h
theorem Nv (ds:List sL) (d:Nat->Nat) (i:Nat) (cl:List qZ) (s:Qm) (h:s.l.length<=4):∀c,(Io ds d i cl c s).k<=s.k+c/\(Io ds d i cl c s).l.length<=4
 |0=>⟨aH _,h⟩
 |c+1=>by
  obtain⟨h1,h2⟩:=Nv ds d i cl s h c;have:=Qe ds d i (cl.getD c pb) c (Io ds d i cl c s);exact⟨by show(qB _ _ _ _ _ _).k<=_;omega,NK _ _ _ _ _ _ h2⟩
theorem Kv (ds:List sL) (d:Nat->Nat) (cl:Nat->List qZ) (n:Nat) (h:∀i,i<n->(cl i).length<=10):∀i,i<=n->(Jp ds d cl i).k<=10*i/\(Jp ds d cl i).l.length<=4
 |0,_=>⟨aH _,aB _⟩
 |i+1,hi=>by
  obtain⟨h1,h2⟩:=Kv ds d cl n h i oO;obtain⟨h3,h4⟩:=Nv ds d i (cl i) _ h2 (cl i).length;have:=h i oO;exact⟨by show(Io _ _ _ _ _ _).k<=_;omega,h4⟩
def Gh (l:List (Nat×Nat)) (i:Nat):List (Nat×Nat):=ky l.length λk=>if k<i\/l.length-1-k<i then l.getD (l.length-1-k) (0,0)else l.getD k (0,0)
theorem FY (l:List (Nat×Nat)) (i:Nat):(Gh l i).length=l.length:=j9 _ _
theorem NW (l:List (Nat×Nat)):Gh l 0=l:=by
 refine(kF λk hk=> ?_).trans (Je l (0,0)).symm;rw[ah oO]
theorem Rn (l:List (Nat×Nat)) (i:Nat) (h:l.length<=2*i+1):Gh l i=l.reverse:=by
 refine(kF (g:=λk=>l.reverse.getD k (0,0)) λk hk=> ?_).trans ?_
 ·have:l.reverse.getD k (0,0)=l.getD (l.length-1-k) (0,0):=by
   rw[ap,ap,gC hk]
  rw[this];by_cases e:k<i\/l.length-1-k<i
  ·rw[aj e]
  ·rw[ah e,show l.length-1-k=k by omega]
 ·have:=Je l.reverse (0,0);rw[fw]at this;exact this.symm
theorem G2 (l:List (Nat×Nat)) (i:Nat) (h:2*i+1<l.length):((Gh l i).set i (l.getD (l.length-1-i) (0,0))).set (l.length-1-i) (l.getD i (0,0))=Gh l (i+1):=by
 unfold Gh;rw[nt,nt];refine kF λk hk=> ?_;by_cases e1:k=l.length-1-i
 ·rw[aj e1,aj oO,show l.length-1-k=i by omega]
 ·rw[ah e1];by_cases e2:k=i
  ·rw[aj e2,aj oO,e2]
  ·rw[ah e2];by_cases e:k<i\/l.length-1-k<i
   ·rw[aj e,aj oO]
   ·rw[ah e,ah oO]
theorem La (l:List (Nat×Nat)) (i k:Nat) (hk:k<l.length) (h:¬(k<i\/l.length-1-k<i)):(Gh l i).getD k (0,0)=l.getD k (0,0):=by
 unfold Gh;rw[kz _ _ hk,ah h]
structure Wv (w:World) (vE:Value) (n:Nat) (q:Nat->Rat) (ev:Nat->Value×Value) (cl:Nat->List qZ):Prop where
 es:Sl kw 5 w vE (ky n λi=>(q i,ev i))
 cl:∀i,i<n->Sl lZ 5 w (ev i).1 (cl i)
theorem Eg (xs:List (Nat×Nat)):∀u∈xs.flatMap nx,u.oneCell'=true:=by
 intro u hu;rw[dQ]at hu;obtain⟨x,_,h⟩:=hu;simp only[nx,bJ,df,fM]at h;rcases h with rfl|rfl<;>rfl
theorem Sh.one {w:World} {vD:Value} {ds:List sL} {dv:List Value} (h:Sh w vD ds dv):∀u∈(ky ds.length λk=>((ds.getD k si).W,dv.getD k undef)).flatMap lL,u.oneCell'=true:=by
 intro u hu;rw[dQ]at hu;obtain⟨x,hx,h2⟩:=hu;obtain⟨k,hk,rfl⟩:=tf hx;obtain⟨a,c,h3,_⟩:=(h.lg k hk).form;simp only[lL,j5,bW,ca,bJ,df,fM]at h2;rcases h2 with rfl|rfl|rfl|rfl
 ·rfl
 ·rfl
 ·rfl
 ·rw[h3];rfl
theorem ys (W:Rat) (a:Option Addr) (n c:Nat):∀u∈[(W,Value.slice a n c)].flatMap lL,u.oneCell'=true:=by
 intro u hu;rw[cK]at hu;simp only[lL,j5,bW,ca,bJ,df,fM]at hu;rcases hu with rfl|rfl|rfl|rfl<;>rfl
theorem PT (r:RR):Tryz.prog.built 64 [(0,kW r)]=some #[.bool r.neg,.string r.num,.string r.den,kd]:=by kernel_rfl
theorem G9 (i c:Int):Tryz.prog.built 66 [(0,.int .i64 i),(1,.int .i64 c)]=some #[.int .i64 i,.int .i64 c]:=by kernel_rfl
theorem UA {vE vD:Value} {n:Nat} {q:Nat->Rat} {ev:Nat->Value×Value} {cl:Nat->List qZ} {ds:List sL} {dv:List Value} (d:Nat->Nat) (w:World) (hE:Wv w vE n q ev cl) (hD:Sh w vD ds dv) (hd:∀i,i<3->d i<65536) (hn:n<=10) (hc:∀i,i<n->(cl i).length<=10) (hds:ds.length<=10):
  lU Tryz.prog 22 #[.agg #[vE,vD],.agg (oW d).toArray] w λr w'=>∃vL LO D,Gl lL 64 4 r ((ky ds.length λk=>((ds.getD k si).W,dv.getD k undef))++[(oA (d 2),vL)]) LO/\(∀wz wx,St wz wx D->Sl nx 2 wx vL (RO ds d cl n))/\St w w' (LO++D):=by
 have htn:=j9 n λi=>(q i,ev i);have htd:=j9 ds.length λk=>((ds.getD k si).W,dv.getD k undef);have hd0:=hd 0 dD;have hd1:=hd 1 dD;have hd2:=hd 2 dD;have hS:=St.init w;obtain⟨aE,cE,hvE,_⟩:=hE.es.form;obtain⟨aD,cD,hvD,_⟩:=hD.sl.form;rw[htn]at hvE;rw[htd]at hvD;subst hvE hvD;refine enter Tryz.func22 rfl Tryz.ntmps22 rfl ?_;refine jr ?_;refine jh (kZ (new:=[.slice aE n cE,.slice aD ds.length cD]) rfl rfl hS ?_);intro b2 wz1 hS hBz1;refine jh (kZ (new:=oW d) rfl rfl hS ?_);intro b3 wz2 hS hBz2;refine V1 ?_;replace hS:St w _ [(b3,70,oW d),(b2,29,[.slice aE n cE,.slice aD ds.length cD])]:=hS;refine jr ?_;refine jp (tY (n:=3) (i:=2) rfl rfl rfl dD Tryz.underlying70 pA ?_);refine J1 ?_;refine jh (j6 Tryz.call20 rfl (xE (d 2) _ hd2) ?_);rintro r w3 ⟨rfl,hB3⟩;replace hS:=hS.km hB3;refine jp (kT rfl (PT _) ?_);refine J1 ?_;intro b5 wz3 hS hBz3;refine J1 ?_;intro wz4 hS;refine ja ?_;replace hS:St w _ ([(b5,64,lL (oA (d 2),kd)),(b3,70,oW d),(b2,29,[.slice aE n cE,.slice aD ds.length cD])]++[]):=hS;refine J6 ?_;refine jb ?_;refine kx (λρ w'=>(ρ 2=pB b2/\ρ 3=pB b3/\ρ 5=pB b5)/\∃vL LL,Gl nx 66 2 vL (Jp ds d cl n).l LL/\St w w' ([(b5,64,lL (oA (d 2),vL)),(b3,70,oW d),(b2,29,[.slice aE n cE,.slice aD ds.length cD])]++LL)) ?_ ?_
 ·refine ja ?_;refine ku (σ:=Nat) (λi ρ w'=>i<=n/\(ρ 2=pB b2/\ρ 3=pB b3/\ρ 5=pB b5)/\ρ 6=iB (Jp ds d cl i).k/\ρ 7=iB (Jp ds d cl i).ho/\ρ 20=iB n/\ρ 21=iB i/\∃vL LL,Gl nx 66 2 vL (Jp ds d cl i).l LL/\St w w' ([(b5,64,lL (oA (d 2),vL)),(b3,70,oW d),(b2,29,[.slice aE n cE,.slice aD ds.length cD])]++LL)) (λi=>n-i) 0
   ⟨aB _,⟨rfl,rfl,rfl⟩,rfl,rfl,rfl,rfl,kd,[],Gl.nil _ _ _,hS⟩ ?_
  clear hS;rintro i ρ w4 ⟨hi,⟨h2,h3,h5⟩,h6,h7,h20,h21,vL,LL,hG,hS⟩;refine V1 ?_;by_cases hlt:i<n
  ·refine V3 ?_;have hcl:=hE.cl i hlt;have hel:(ky n λi=>(q i,ev i)).getD i pV=(q i,ev i):=kz _ _ hlt;obtain⟨a1,c1,hv1,_⟩:=hcl.form;rw[hv1]at hcl;have hel1:((ky n λi=>(q i,ev i)).getD i pV).2.1= .slice a1 (cl i).length c1:=by rw[hel];exact hv1
   have hcn:=hc i hlt;obtain⟨hk1,hl1⟩:=Kv ds d cl n hc i hi;obtain⟨s0,hs0⟩:=jz (Jp ds d cl i);rw[<-hs0]at hk1 hl1 hG h6 h7;obtain⟨C,hC⟩:=jz (cl i);rw[<-hC]at hcl hcn hel1;have hsi:Jp ds d cl (i+1)=Io ds d i C C.length s0:=by rw[hs0,hC];rfl
   refine J3 ?_;refine jp (kj (i:=i) rfl rfl (hE.es.j4 hS.j4) oO dO pP ?_);refine jp (oR rfl (nw (hE.es.j4 hS.j4) (λ_=>rfl) dD dO) qb ?_);refine jq (oL (v:= .slice a1 C.length c1) (i:=i) (off:=3) pV rfl qh (hE.es.j4 hS.j4) (λ_=>rfl) dD oO rfl (by rw[<-hel1];rfl) (.inr rfl) ?_);refine jp (ki rfl (hcl.j4 hS.j4) ⟨_,Tryz.underlying48⟩ ?_);refine J1 ?_;refine jb ?_;refine kx (λρ w'=>(ρ 2=pB b2/\ρ 3=pB b3/\ρ 5=pB b5)/\ρ 6=iB (Io ds d i C C.length s0).k/\ρ 7=iB (Io ds d i C C.length s0).ho/\ρ 20=iB n/\ρ 21=iB i/\∃vL LL,Gl nx 66 2 vL (Io ds d i C C.length s0).l LL/\St w w' ([(b5,64,lL (oA (d 2),vL)),(b3,70,oW d),(b2,29,[.slice aE n cE,.slice aD ds.length cD])]++LL)) ?_ ?_
   ·refine ja ?_;refine ku (σ:=Nat) (λc ρ w'=>c<=C.length/\(ρ 2=pB b2/\ρ 3=pB b3/\ρ 5=pB b5)/\ρ 6=iB (Io ds d i C c s0).k/\ρ 7=iB (Io ds d i C c s0).ho/\ρ 8=iB i/\ρ 20=iB n/\ρ 21=iB i/\ρ 29= .slice a1 C.length c1/\ρ 30=iB C.length/\ρ 31=iB c/\∃vL LL,Gl nx 66 2 vL (Io ds d i C c s0).l LL/\St w w' ([(b5,64,lL (oA (d 2),vL)),(b3,70,oW d),(b2,29,[.slice aE n cE,.slice aD ds.length cD])]++LL)) (λc=>C.length-c) 0
     ⟨aB _,⟨h2,h3,h5⟩,h6,h7,rfl,h20,h21,rfl,rfl,rfl,vL,LL,hG,hS⟩ ?_
    clear hS h2 h3 h5 h6 h7 h20 h21 hG;clear vL LL;rintro c ρ w5 ⟨hcc,⟨h2,h3,h5⟩,h6,h7,h8,h20,h21,h29,h30,h31,vL,LL,hG,hS⟩;refine V1 ?_;by_cases hcl2:c<C.length
    ·refine J1 ?_;refine jb ?_;obtain⟨hk2,hl2⟩:=Nv ds d i C s0 hl1 c;obtain⟨s,hs⟩:=jz (Io ds d i C c s0);rw[<-hs]at hk2 hl2 hG h6 h7;have hsc:Io ds d i C (c+1) s0=qB ds d i (C.getD c pb) c s:=by rw[hs];rfl
     obtain⟨x,hx⟩:=jz (C.getD c pb);rw[<-hx]at hsc;refine kx (λρ w'=>(ρ 2=pB b2/\ρ 3=pB b3/\ρ 5=pB b5)/\ρ 6=iB (qB ds d i x c s).k/\ρ 7=iB (qB ds d i x c s).ho/\ρ 8=iB i/\ρ 20=iB n/\ρ 21=iB i/\ρ 29= .slice a1 C.length c1/\ρ 30=iB C.length/\ρ 31=iB c/\∃vL LL,Gl nx 66 2 vL (qB ds d i x c s).l LL/\St w w' ([(b5,64,lL (oA (d 2),vL)),(b3,70,oW d),(b2,29,[.slice aE n cE,.slice aD ds.length cD])]++LL)) ?_ ?_
     ·refine J1 ?_;refine jp (kj (i:=c) h29 h31 (hcl.j4 hS.j4) oO dO qO (jq (kt (i:=c) pb rfl tM (hcl.j4 hS.j4) dO rfl rfl (.inl rfl) ?_)));refine J1 ?_;intro bc wz5 hS hBz5;refine J2 ?_;intro wz6 hS;refine ja ?_;rw[<-hx]at hS;replace hS:St w _ ([(bc,53,lZ x),(b5,64,lL (oA (d 2),vL)),(b3,70,oW d),(b2,29,[.slice aE n cE,.slice aD ds.length cD])]++LL):=hS;have hdr:([(b5,64,lL (oA (d 2),vL)),(b3,70,oW d),(b2,29,[.slice aE n cE,.slice aD ds.length cD])]++LL).Sublist ([(bc,53,lZ x),(b5,64,lL (oA (d 2),vL)),(b3,70,oW d),(b2,29,[.slice aE n cE,.slice aD ds.length cD])]++LL):=ab _ _;obtain⟨aL,cL,hvL⟩:=hG.len;subst hvL;refine J3 ?_;refine jh (j6 Tryz.call40 rfl (Pn aE n cE _ ds dv (i,c) _ (hD.j4 hS.j4)) ?_);rintro r w6 ⟨rfl,hB6⟩;replace hS:=hS.km hB6;cases hh:Fb (i,c) ds with
      |true=>
       refine J1 ?_;refine kL (ka 40 kR rfl rfl) (kL (ka 40 kR rfl rfl) (kL (ka 40 kR rfl rfl) (kL (ka 40 kR rfl rfl) (jp (kA (vb rfl rfl) rfl ?_)))));refine ja ?_;refine k9 rfl (rfl) ?_;refine jt ?_;rw[show qB ds d i x c s=s from aj (.inl hh)];exact⟨_,rfl,⟨jY,jY,jY⟩,jY,jY,jY,jY,jY,jY,jY,jY,_,LL,hG,hS.drop hdr⟩
      |false=>
       refine J1 ?_;refine ke (j7 40 kR rfl rfl) (lC h5 sh (lj (j7 40 kR rfl rfl) (kO (k:=1) rfl qk hS rfl rfl rfl (.inr rfl) (ke (j7 40 kR rfl rfl) (oc rfl ⟨_,Tryz.underlying62⟩ (ke (j7 40 kR rfl rfl) (yX rfl rfl (jp (kA (vb rfl rfl) rfl ?_)))))))));refine ja ?_;by_cases h4:4<=s.l.length
       ·refine J1 ?_;refine jt ?_;rw[show qB ds d i x c s=s from aj (.inr h4)];exact⟨_,rfl,⟨jY,jY,jY⟩,jY,jY,jY,jY,jY,jY,jY,jY,_,LL,hG,hS.drop hdr⟩
       ·refine V1 ?_;have h16:s.k%16<16:=bG _ dD;refine jr ?_;refine jp (tY (n:=3) (i:=0) h3 rfl rfl dD Tryz.underlying70 pA ?_);refine J3 ?_;refine jp (pC rfl rfl oO (r:=((s.k%16:Nat):Int)) (by exact oz _ 16) (jp (kH rfl Tryz.underlying94 ⟨_,Tryz.underlying3⟩ (r:=((s.k%16:Nat):Int)) (by exact kX _ ⟨rfl,oO,oO⟩) (jp (pW rfl rfl oO (qg (d 0) (s.k%16) (by show _<=64;omega)) (jp (DI rfl rfl (r:=((d 0/2^(s.k%16)%2:Nat):Int)) (by exact Vh (by have:=sy (n:=2^(s.k%16)) hd0;omega)) ?_)))))));refine V5 ?_;have hne:¬(Fb (i,c) ds=true\/4<=s.l.length):=by rw[hh];rintro(h|h);cases h;exact h4 h
        have e0:qB ds d i x c s=if d 0/2^(s.k%16)%2=1/\(s.l=[]\/x.h=s.ho)then⟨s.k+1,x.h,s.l++[(i,c)]⟩else⟨s.k+1,s.ho,s.l⟩:=ah hne
        rw[e0];by_cases hw:d 0/2^(s.k%16)%2=1
        ·by_cases hl0:s.l=[]
         ·have hlz:s.l.length=0:=by rw[hl0];rfl
          refine J2 ?_;refine ke (j7 58 kR rfl dT) (lC h5 sh (lj (j7 58 kR rfl dT) (kO (k:=1) rfl qk hS rfl rfl rfl (.inr rfl) (ke (j7 58 kR rfl dT) (oc rfl ⟨_,Tryz.underlying62⟩ (ke (j7 58 kR rfl dT) (qV rfl rfl (ke (j7 58 kR rfl dT) (ko rfl (kL (ka 63 kR rfl dT) (kL (ka 63 kR rfl dT) (kL (ka 63 kR rfl dT) (kL (ka 63 kR rfl dT) (ke (j7 58 kR rfl dT) (kA (vb rfl dT) rfl (jp (kA (vb rfl dT) rfl ?_)))))))))))))))));refine ja ?_;refine k9 rfl (rfl) ?_;refine ja ?_;rw[aj ⟨hw,.inl hl0⟩];refine J7 ?_;refine jp (kT rfl (G9 _ _) (jh (mD (vs:=[_]) rfl qp rfl dD dD dD (by simp[Value.cells]) rfl hS ?_)));intro b7 wz8 hS hBz8;refine jh (mf [(i,c)] rfl rfl qp dD hG hS rfl rfl qf (Eg [(i,c)]) dL dL ?_);intro va9 La9 wa9 hG hS hga9;obtain⟨aN,cN,hvN⟩:=hG.len;subst hvN;obtain⟨LN,hLN⟩:∃L,L=La9:=⟨_,rfl⟩;rw[<-hLN]at hG hS;refine J1 ?_;refine jh (nM (k:=1) rfl rfl qk hS rfl (by simp[o8]) rfl ?_);intro wz10 hS;refine ja ?_;replace hS:St w _ ([(bc,53,lZ x),(b5,64,lL (oA (d 2),(.slice aN (s.l++[(i,c)]).length cN))),(b3,70,oW d),(b2,29,[.slice aE n cE,.slice aD ds.length cD])]++LN):=hS;exact⟨_,rfl,⟨jY,jY,jY⟩,vi rfl (by show((s.k:Nat):Int)+1=((s.k+1:Nat):Int);omega),rfl,jY,jY,jY,jY,jY,jY,_,LN,hG,hS.drop (ab _ _)⟩
         ·have hlz:s.l.length≠0:=λh=>hl0 (cH h);by_cases hho:x.h=s.ho
          ·refine J2 ?_;refine ke (j7 58 kR rfl dT) (lC h5 sh (lj (j7 58 kR rfl dT) (kO (k:=1) rfl qk hS rfl rfl rfl (.inr rfl) (ke (j7 58 kR rfl dT) (oc rfl ⟨_,Tryz.underlying62⟩ (ke (j7 58 kR rfl dT) (qV rfl rfl (ke (j7 58 kR rfl dT) (ko rfl (ke (j7 63 kR rfl dF) (lC rfl t7 (lj (j7 63 kR rfl dF) (kO (k:=0) rfl nm hS rfl rfl rfl (.inr rfl) (ke (j7 63 kR rfl dF) (ko h7 (ke (j7 63 kR rfl dF) (qV rfl rfl (ke (j7 58 kR rfl dT) (kA (vb rfl dF) rfl (jp (kA (vb rfl dT) rfl ?_)))))))))))))))))))));refine ja ?_;refine k9 rfl (ao hho) ?_;refine ja ?_;rw[aj ⟨hw,.inr hho⟩];refine J7 ?_;refine jp (kT rfl (G9 _ _) (jh (mD (vs:=[_]) rfl qp rfl dD dD dD (by simp[Value.cells]) rfl hS ?_)));intro b11 wz12 hS hBz12;refine jh (mf [(i,c)] rfl rfl qp dD hG hS rfl rfl qf (Eg [(i,c)]) dL dL ?_);intro va13 La13 wa13 hG hS hga13;obtain⟨aN,cN,hvN⟩:=hG.len;subst hvN;obtain⟨LN,hLN⟩:∃L,L=La13:=⟨_,rfl⟩;rw[<-hLN]at hG hS;refine J1 ?_;refine jh (nM (k:=1) rfl rfl qk hS rfl (by simp[o8]) rfl ?_);intro wz14 hS;refine ja ?_;replace hS:St w _ ([(bc,53,lZ x),(b5,64,lL (oA (d 2),(.slice aN (s.l++[(i,c)]).length cN))),(b3,70,oW d),(b2,29,[.slice aE n cE,.slice aD ds.length cD])]++LN):=hS;exact⟨_,rfl,⟨jY,jY,jY⟩,vi rfl (by show((s.k:Nat):Int)+1=((s.k+1:Nat):Int);omega),rfl,jY,jY,jY,jY,jY,jY,_,LN,hG,hS.drop (ab _ _)⟩
          ·refine J2 ?_;refine ke (j7 58 kR rfl dT) (lC h5 sh (lj (j7 58 kR rfl dT) (kO (k:=1) rfl qk hS rfl rfl rfl (.inr rfl) (ke (j7 58 kR rfl dT) (oc rfl ⟨_,Tryz.underlying62⟩ (ke (j7 58 kR rfl dT) (qV rfl rfl (ke (j7 58 kR rfl dT) (ko rfl (ke (j7 63 kR rfl dF) (lC rfl t7 (lj (j7 63 kR rfl dF) (kO (k:=0) rfl nm hS rfl rfl rfl (.inr rfl) (ke (j7 63 kR rfl dF) (ko h7 (ke (j7 63 kR rfl dF) (qV rfl rfl (ke (j7 58 kR rfl dT) (kA (vb rfl dF) rfl (jp (kA (vb rfl dT) rfl ?_)))))))))))))))))))));refine ja ?_;refine lx rfl (ae hho) ?_;refine ja ?_;rw[ah (by rintro⟨_,h|h⟩;exact hl0 h;exact hho h)];exact⟨_,rfl,⟨jY,jY,jY⟩,vi rfl (by show((s.k:Nat):Int)+1=((s.k+1:Nat):Int);omega),jY,jY,jY,jY,jY,jY,jY,_,LL,hG,hS.drop hdr⟩
        ·refine J2 ?_;refine kL (ka 58 kR rfl dF) (kL (ka 58 kR rfl dF) (kL (ka 58 kR rfl dF) (kL (ka 58 kR rfl dF) (kL (ka 58 kR rfl dF) (kL (qy 63 kR rfl) (kL (qy 63 kR rfl) (kL (qy 63 kR rfl) (kL (qy 63 kR rfl) (kL (ka 58 kR rfl dF) (jp (kA (vb rfl dF) rfl ?_)))))))))));refine ja ?_;refine lx rfl (rfl) ?_;refine ja ?_;rw[ah (λh=>hw h.1)];exact⟨_,rfl,⟨jY,jY,jY⟩,vi rfl (by show((s.k:Nat):Int)+1=((s.k+1:Nat):Int);omega),jY,jY,jY,jY,jY,jY,jY,_,LL,hG,hS.drop hdr⟩
     clear hS h2 h3 h5 h6 h7 h8 h20 h21 h29 h30 h31 hG;clear vL LL;rintro ρ w6 ⟨⟨h2,h3,h5⟩,h6,h7,h8,h20,h21,h29,h30,h31,vL,LL,hG,hS⟩;rw[<-hsc]at h6 h7 hG;refine V2 ?_;exact⟨c+1,_,rfl,⟨hcl2,⟨jY,jY,jY⟩,jY,jY,jY,jY,jY,jY,jY,vi rfl oO,vL,LL,hG,hS⟩,oO⟩
    ·refine J1 ?_;refine jt ?_;obtain rfl:c=C.length:=oO;exact⟨_,rfl,⟨h2,h3,h5⟩,h6,h7,h20,h21,vL,LL,hG,hS⟩
   clear hS h2 h3 h5 h6 h7 h20 h21 hG;clear vL LL;rintro ρ w6 ⟨⟨h2,h3,h5⟩,h6,h7,h20,h21,vL,LL,hG,hS⟩;rw[<-hsi]at h6 h7 hG;refine V2 ?_;exact⟨i+1,_,rfl,⟨hlt,⟨jY,jY,jY⟩,jY,jY,jY,vi rfl oO,vL,LL,hG,hS⟩,oO⟩
  ·refine J1 ?_;refine jt ?_;obtain rfl:i=n:=oO;exact⟨_,rfl,⟨h2,h3,h5⟩,vL,LL,hG,hS⟩
 clear hS;rintro ρ w4 ⟨⟨h2,h3,h5⟩,vL,LL,hG,hS⟩;obtain⟨hk9,hl9⟩:=Kv ds d cl n hc n (aH _);obtain⟨l,hl⟩:=jz ((Jp ds d cl n).l);have howl:RO ds d cl n=if d 1%2=1 then l.reverse else l:=by rw[hl];rfl
 rw[<-hl]at hl9 hG;obtain⟨aL,cL,hvL⟩:=hG.len;subst hvL;refine jr ?_;refine jp (tY (n:=3) (i:=1) h3 rfl rfl dD Tryz.underlying70 pA ?_);refine J1 ?_;refine jp (pC rfl rfl oO (r:=((d 1%2:Nat):Int)) (by exact oz _ 2) ?_);refine J1 ?_;refine jb ?_;refine kx (λρ w'=>(ρ 2=pB b2/\ρ 3=pB b3/\ρ 5=pB b5)/\∃vL LL,Gl nx 66 2 vL (RO ds d cl n) LL/\St w w' ([(b5,64,lL (oA (d 2),vL)),(b3,70,oW d),(b2,29,[.slice aE n cE,.slice aD ds.length cD])]++LL)) ?_ ?_
 ·refine ja ?_;by_cases hr:d 1%2=1
  ·refine V1 ?_;rw[howl,aj hr];refine ja ?_;refine kC [jo 0,ju 1,jo 2,jo 3,jo 4,jo 5] kR kR hS ?_;intro wz15 hS hBz15;refine V6 ?_;refine ku (σ:=Nat) (λi ρ w'=>2*i<=l.length/\(ρ 2=pB b2/\ρ 3=pB b3/\ρ 5=pB b5)/\ρ 12=iB i/\ρ 13=iB ((l.length:Int)-1-i)/\∃LL,Gl nx 66 2 (.slice aL l.length cL) (Gh l i) LL/\St w w' ([(b5,64,lL (oA (d 2),(.slice aL l.length cL))),(b3,70,oW d),(b2,29,[.slice aE n cE,.slice aD ds.length cD])]++LL)) (λi=>l.length-i) 0
    ⟨aB _,⟨jY,jY,jY⟩,rfl,vi rfl oO,LL,by rw[NW];exact hG,hS⟩ ?_
   clear hS h2 h3 h5 hG;rintro i ρ w5 ⟨hi,⟨h2,h3,h5⟩,h12,h13,LL,hG,hS⟩;refine V3 ?_;by_cases hij:2*i+1<l.length
   ·refine V1 ?_;have hsl:=FY l i;obtain⟨hX,⟨_,h0,_⟩|⟨bL,cap,spare,hv,hLL,h1,hc2,hc3⟩⟩:=hG
    ·omega
    rw[hsl]at hv h1;obtain⟨rfl,rfl⟩:aL=some ⟨bL,0,none⟩/\cL=cap:=by injection hv with e1 _ e2;exact⟨e1,e2⟩
    subst hLL;have g1:=La l i i oO oO;have g2:=La l i (l.length-1-i) oO oO;refine ja ?_;refine C1 20 [jo 0,ju 1,jo 2,jo 3,jv 4,jo 5,jo 6,ju 7,jo 8,jo 9,ju 10,jo 11,ju 12,jo 13,jo 14,ju 15,jo 16,jw 17,jo 18,jw 19] kR kR hS ?_;intro wz16 hS hBz16;refine kQ (i:=0) (U':=[ju 1,jo 2,jo 3,jv 4,jo 5,jo 6,ju 7,jo 8,jo 9,ju 10,jo 11,ju 12,jo 13,jo 14,ju 15,jo 16,jw 17,jo 18,jw 19]) kR kR rfl rfl (lC h5 sh (pL (i:=1) (U':=[jo 2,jo 3,jv 4,jo 5,jo 6,ju 7,jo 8,jo 9,ju 10,jo 11,ju 12,jo 13,jo 14,ju 15,jo 16,jw 17,jo 18,jw 19]) kR kR rfl rfl (kO (k:=0) rfl qk hS rfl rfl rfl (.inr rfl) (kQ (i:=2) (U':=[jo 3,jv 4,jo 5,jo 6,ju 7,jo 8,jo 9,ju 10,jo 11,ju 12,jo 13,jo 14,ju 15,jo 16,jw 17,jo 18,jw 19]) kR kR rfl rfl (ko h12 (kQ (i:=3) (U':=[jv 4,jo 5,jo 6,ju 7,jo 8,jo 9,ju 10,jo 11,ju 12,jo 13,jo 14,ju 15,jo 16,jw 17,jo 18,jw 19]) kR kR rfl rfl (lC h5 sh (kQ (i:=5) (U':=[jv 4,jo 6,ju 7,jo 8,jo 9,ju 10,jo 11,ju 12,jo 13,jo 14,ju 15,jo 16,jw 17,jo 18,jw 19]) kR kR rfl rfl (ko h13 (kQ (i:=6) (U':=[jv 4,ju 7,jo 8,jo 9,ju 10,jo 11,ju 12,jo 13,jo 14,ju 15,jo 16,jw 17,jo 18,jw 19]) kR kR rfl rfl (lC h5 sh (pL (i:=7) (U':=[jv 4,jo 8,jo 9,ju 10,jo 11,ju 12,jo 13,jo 14,ju 15,jo 16,jw 17,jo 18,jw 19]) kR kR rfl rfl (kO (k:=0) rfl qk hS rfl rfl rfl (.inr rfl) (kQ (i:=8) (U':=[jv 4,jo 9,ju 10,jo 11,ju 12,jo 13,jo 14,ju 15,jo 16,jw 17,jo 18,jw 19]) kR kR rfl rfl (ko h13 (kQ (i:=9) (U':=[jv 4,ju 10,jo 11,ju 12,jo 13,jo 14,ju 15,jo 16,jw 17,jo 18,jw 19]) kR kR rfl rfl (kD (i:=(l.length-1-i)) rfl rfl oO dO qp ?_)))))))))))))))));refine pL (i:=10) (U':=[jv 4,jo 11,ju 12,jo 13,jo 14,ju 15,jo 16,jw 17,jo 18,jw 19]) kR kR rfl rfl (Cp (k:=3) (i:=(l.length-1-i)) (enc:=nx) (0,0) (λ_=>rfl) rfl qq hS rfl (by first|omega|simp) dO rfl (.inl rfl) ?_);refine kQ (i:=11) (U':=[jv 4,ju 12,jo 13,jo 14,ju 15,jo 16,jw 17,jo 18,jw 19]) kR kR rfl rfl (lC h5 sh (pL (i:=12) (U':=[jv 4,jo 13,jo 14,ju 15,jo 16,jw 17,jo 18,jw 19]) kR kR rfl rfl (kO (k:=0) rfl qk hS rfl rfl rfl (.inr rfl) (kQ (i:=13) (U':=[jv 4,jo 14,ju 15,jo 16,jw 17,jo 18,jw 19]) kR kR rfl rfl (ko h12 (kQ (i:=14) (U':=[jv 4,ju 15,jo 16,jw 17,jo 18,jw 19]) kR kR rfl rfl (kD (i:=i) rfl rfl oO dO qp ?_)))))));refine pL (i:=15) (U':=[jv 4,jo 16,jw 17,jo 18,jw 19]) kR kR rfl rfl (Cp (k:=3) (i:=i) (enc:=nx) (0,0) (λ_=>rfl) rfl qq hS rfl (by first|omega|simp) dO rfl (.inl rfl) ?_);refine kQ (i:=16) (U':=[jv 4,jw 17,jo 18,jw 19]) kR kR rfl rfl (kD (i:=i) rfl rfl oO dO qp ?_);refine qK (x:=jv 4) (y:=jw 17) (U':=[jw 17,jo 18,jw 19]) (U'':=[jv 4,jo 18,jw 19]) kR kR kR ?_ ?_
    ·refine kM rfl rfl (qn (kO (k:=0) rfl qk hS rfl rfl rfl (.inr rfl) ?_));refine⟨Below.refl _ _,?_⟩;refine kV (x:=jw 17) (U':=[jo 18,jw 19]) kR kR ?_;refine lh rfl rfl (B3 (k:=3) (i:=i) (enc:=nx) ((Gh l i).getD (l.length-1-i) (0,0)) (λ_=>rfl) rfl rfl qq hS rfl (by first|omega|simp) dO rfl rfl ?_);intro wz17 hS;refine kQ (i:=18) (U':=[jw 19]) kR kR rfl rfl (kD (i:=(l.length-1-i)) rfl rfl oO dO qp (kV (x:=jw 19) (U':=[]) kR kR ?_));refine lh rfl rfl (B3 (k:=3) (i:=(l.length-1-i)) (enc:=nx) ((Gh l i).getD i (0,0)) (λ_=>rfl) rfl rfl qq hS rfl (by first|omega|simp) dO rfl rfl ?_);intro wz18 hS;refine nk ?_;refine ja ?_;rw[g1,g2,G2 l i hij]at hS;have hls:=FY l (i+1);refine V6 ?_;exact⟨i+1,_,rfl,⟨oO,⟨jY,jY,jY⟩,vi rfl oO,vi rfl oO,[(bL,66,(Gh l (i+1)).flatMap nx++spare)],⟨by rw[hls,lS qf,hls],.inr ⟨bL,cL,spare,by rw[hls],rfl,by rw[hls];exact h1,hc2,by rw[<-hc3,aG,aG,lS qf,lS qf,hls,hsl]⟩⟩,hS⟩,oO⟩
    ·refine lh rfl rfl (B3 (k:=3) (i:=i) (enc:=nx) ((Gh l i).getD (l.length-1-i) (0,0)) (λ_=>rfl) rfl rfl qq hS rfl (by first|omega|simp) dO rfl rfl ?_);intro wz19 hS;refine kV (x:=jv 4) (U':=[jo 18,jw 19]) kR kR (kM rfl rfl (qn (kO (k:=0) rfl qk hS rfl rfl rfl (.inr rfl) ?_)));refine⟨Below.refl _ _,?_⟩;refine kQ (i:=18) (U':=[jw 19]) kR kR rfl rfl (kD (i:=(l.length-1-i)) rfl rfl oO dO qp (kV (x:=jw 19) (U':=[]) kR kR ?_));refine lh rfl rfl (B3 (k:=3) (i:=(l.length-1-i)) (enc:=nx) ((Gh l i).getD i (0,0)) (λ_=>rfl) rfl rfl qq hS rfl (by first|omega|simp) dO rfl rfl ?_);intro wz20 hS;refine nk ?_;refine ja ?_;rw[g1,g2,G2 l i hij]at hS;have hls:=FY l (i+1);refine V6 ?_;exact⟨i+1,_,rfl,⟨oO,⟨jY,jY,jY⟩,vi rfl oO,vi rfl oO,[(bL,66,(Gh l (i+1)).flatMap nx++spare)],⟨by rw[hls,lS qf,hls],.inr ⟨bL,cL,spare,by rw[hls],rfl,by rw[hls];exact h1,hc2,by rw[<-hc3,aG,aG,lS qf,lS qf,hls,hsl]⟩⟩,hS⟩,oO⟩
   ·refine J1 ?_;refine jt ?_;have e:=Rn l i oO;rw[e]at hG;exact⟨_,rfl,⟨h2,h3,h5⟩,_,LL,hG,hS⟩
  ·refine V1 ?_;rw[howl,ah hr];exact⟨_,rfl,⟨jY,jY,jY⟩,_,LL,hG,hS⟩
 clear hS h2 h3 h5 hG;rintro ρ w6 ⟨⟨h2,h3,h5⟩,vL,LL,hG,hS⟩;obtain⟨aN,cN,hvN⟩:=hG.len;obtain⟨lw,hlw⟩:=jz (RO ds d cl n);rw[<-hlw]at hG hvN⊢;subst hvN;have hsl:∀wz wx,St wz wx LL->Sl nx 2 wx (.slice aN lw.length cN) lw:=λwz wx h=>hG.sl (H:=[]) h qf;refine ja ?_;refine C1 7 [jo 0,ju 1,jv 2,ju 3,jv 4,jw 5,jo 6] kR kR hS ?_;intro wz21 hS hBz21;refine kQ (i:=0) (U':=[ju 1,jv 2,ju 3,jv 4,jw 5,jo 6]) kR kR rfl rfl (lC h2 Bh (pL (i:=1) (U':=[jv 2,ju 3,jv 4,jw 5,jo 6]) kR kR rfl rfl (kO (k:=2) rfl sA hS rfl rfl rfl (.inr rfl) (pL (i:=3) (U':=[jv 2,jv 4,jw 5,jo 6]) kR kR rfl rfl (kO (k:=0) h5 ss hS rfl rfl rfl (.inl rfl) ?_)))));refine qK (x:=jv 2) (y:=jv 4) (U':=[jv 4,jw 5,jo 6]) (U'':=[jv 2,jw 5,jo 6]) kR kR kR ?_ ?_
 ·refine kM rfl rfl (IE rfl rfl tK dD hS (hD.sl.j4 hS.j4) o8 hD.one dL dL ?_);intro va22 La22 wa22 hGa hS hBa22;refine⟨hBa22,?_⟩;refine kV (x:=jv 4) (U':=[jw 5,jo 6]) kR kR (kM rfl rfl (mD (vs:=[_]) rfl tK rfl dD dD dD (by simp[Value.cells,o8]) rfl hS ?_));intro bx wz23 hS hBz23;refine⟨hBz23,?_⟩;refine kV (x:=jw 5) (U':=[jo 6]) kR kR (lh rfl rfl (mf [(oA (d 2),.slice aN lw.length cN)] rfl rfl tK dD hGa hS rfl rfl o8 (ys (oA (d 2)) aN lw.length cN) dL dL ?_));intro va24 La24 wa24 hGa hS hga24;refine kQ (i:=6) (U':=[]) kR kR rfl rfl (oe rfl (nk ?_));refine jt ?_;refine kB rfl rfl ?_;have hS9:=hS.drop (show(LL++_).Sublist _ from bn (ai _ LL) (bK _));exact⟨.slice aN lw.length cN,_,LL,hGa,hsl,hS9.perm aF⟩
 ·refine kM rfl rfl (mD (vs:=[_]) rfl tK rfl dD dD dD (by simp[Value.cells,o8]) rfl hS ?_);intro bx wz25 hS hBz25;refine⟨hBz25,?_⟩;refine kV (x:=jv 2) (U':=[jw 5,jo 6]) kR kR (kM rfl rfl (IE rfl rfl tK dD hS (hD.sl.j4 hS.j4) o8 hD.one dL dL ?_));intro va26 La26 wa26 hGa hS hBa26;refine⟨hBa26,?_⟩;refine kV (x:=jw 5) (U':=[jo 6]) kR kR (lh rfl rfl (mf [(oA (d 2),.slice aN lw.length cN)] rfl rfl tK dD hGa hS rfl rfl o8 (ys (oA (d 2)) aN lw.length cN) dL dL ?_));intro va27 La27 wa27 hGa hS hga27;refine kQ (i:=6) (U':=[]) kR kR rfl rfl (oe rfl (nk ?_));refine jt ?_;refine kB rfl rfl ?_;have hS9:=hS.drop (show(LL++_).Sublist _ from bn (ai _ LL) (bK _));exact⟨.slice aN lw.length cN,_,LL,hGa,hsl,hS9.perm aF⟩
end Go.Proofs.YtoeiejliehgopaaGreatDoor
