/-
  Part 11 of the proof of TopSplit: framework, walks, plain laws.
-/
import Derived.Test.YtoeiejliehgopaaGreatDoorVd10
set_option maxRecDepth 20000
set_option maxHeartbeats 8000000
namespace Go.Proofs.YtoeiejliehgopaaGreatDoor
open Go Go.RowKit Go.Sx
def wW (p:Nat×Nat):Value:= .agg #[.int .i64 p.1,.int .i64 p.2]
theorem HE (d:Nat) (p q:Nat×Nat) (w:World):(Op.equalIn (d+2) 66 (wW p) (wW q)).run Tryz.prog w= .ok (decide (p=q)) w:=by
 unfold wW;rw[run_equalIn_agg (P:=Tryz.prog) w (d+1) 66 _ _ kR kR];have hi:Tryz.prog.underlying 3=some (.int .i64):=by kernel_rfl
 simp only[Program.fieldsOf,Tryz.underlying66];simp[Op.eqFields,part,run_equalIn_int (P:=Tryz.prog) w _ _ _ _ _ _ hi];by_cases h1:p.1=q.1<;>by_cases h2:p.2=q.2<;>simp[h1,h2,Prod.ext_iff]<;>omega
theorem y5 (em:Bool) (p:Nat×Nat) (w:World):(Instr.checkKey em 10000 66 (wW p)).run Tryz.prog w= .ok () w:=by
 have hi:Tryz.prog.underlying 3=some (.int .i64):=by kernel_rfl
 have hl:=Tryz.underlying66;have h1:∀(n:Nat) (k:Int),(Instr.checkKey em (n+1) 3 (.int .i64 k)).run Tryz.prog w= .ok () w:=λn k=>by
  unfold Instr.checkKey;rw[dI,cS hi w];rfl
 unfold Instr.checkKey wW;rw[dI,cS hl w];simp[part,h1]
theorem KC (p:Nat×Nat) (w:World):∀(es:List MapEntry) (i:Nat) (l:List (Nat×Nat)),es.map (·.key)=l.map wW->p∉l->(Instr.findAsking 66 (wW p) es i).run Tryz.prog w= .ok none w
 | [],_,_,_,_=>rfl
 |e::es,i,[],h,_=>by cases h
 |e::es,i,q::l,h,hp=>by
  rw[cJ,cJ,gi]at h;rw[bM,not_or]at hp;have h1:=HE 9998 p q w;rw[ae hp.1]at h1;have ih:=KC p w es (i+1) l h.2 hp.2;unfold Instr.findAsking;rw[h.1,dI];show Result.andThen ((Op.equalIn 10000 _ _ _).run _ _) _=_;rw[h1];exact ih
theorem H7 (p:Nat×Nat) (w:World) (es:List MapEntry) (l:List (Nat×Nat)) (h:es.map (·.key)=l.map wW) (hp:p∉l):(Instr.findKey 66 (wW p) es).run Tryz.prog w= .ok none w:=by
 unfold Instr.findKey;rw[dI,cS Tryz.underlying66 w];show(match Instr.findNow _ _ _ _ with|some r=>_|none=>_:Sem _).run _ _=_;cases es with
 |nil=>rfl
 |cons e es=>exact KC p w (e::es) 0 l h hp
theorem Oa {w:World} {r:Nat} {es:Array MapEntry} {c:Nat} (hb:w.heap[r]?=some (.map es c)):(getObj r).run Tryz.prog w= .ok (.map es c) w:=by simp[getObj,Sem.run,hb]
theorem UP {w:World} {r:Nat} {es:Array MapEntry} {c:Nat} (o:Obj) (hb:w.heap[r]?=some (.map es c)):(setObj r o).run Tryz.prog w= .ok () {w with heap:=w.heap.setIfInBounds r o}:=by simp[setObj,Sem.run,hb]
theorem Sv {w:World} {r:Nat} {o o':Obj} (hb:w.heap[r]?=some o):(w.heap.setIfInBounds r o')[r]?=some o'/\∀k,k≠r->(w.heap.setIfInBounds r o')[k]?=w.heap[k]?:=by
 have:=(io.1 hb).1;refine⟨by simp[this],λk hk=> ?_⟩;rw[Array.getElem?_setIfInBounds,ah (λe=>hk e.symm)]
def yL (w:World) (b:Nat) (l:List (Nat×Nat)):Prop:=∃es clock,w.heap[b]?=some (.map es clock)/\es.toList.map (·.key)=l.map wW
theorem yL.kb {w w':World} {b:Nat} {l:List (Nat×Nat)} (h:yL w b l) (hb:Below w.heap.size w w'):yL w' b l:=by
 obtain⟨es,c,h1,h2⟩:=h;exact⟨es,c,by rw[hb.block b (io.1 h1).1];exact h1,h2⟩
structure BX (b:Nat) (w w':World):Prop where
 os:w'.os=w.os
 tape:w'.tape=w.tape
 output:w'.output=w.output
 size:w.heap.size<=w'.heap.size
 block:∀k,k<w.heap.size->k≠b->w'.heap[k]?=w.heap[k]?
theorem BX.of {b:Nat} {w w':World} (h:Below w.heap.size w w'):BX b w w':=⟨h.os,h.tape,h.output,h.size,λk hk _=>h.block k hk⟩
theorem BX.trans {b:Nat} {w w' w2:World} (h:BX b w w') (k:BX b w' w2):BX b w w2:=
 ⟨k.os.trans h.os,k.tape.trans h.tape,k.output.trans h.output,cQ h.size k.size,λi hi hn=>(k.block i (dq hi h.size) hn).trans (h.block i hi hn)⟩
theorem BX.kb {b:Nat} {w0 w w':World} (h0:Below w0.heap.size w0 w) (h:BX b w w') (hb:w0.heap.size<=b):Below w0.heap.size w0 w':=
 ⟨h.os.trans h0.os,h.tape.trans h0.tape,h.output.trans h0.output,cQ h0.size h.size,λk hk=>(h.block k (dq hk h0.size) oO).trans (h0.block k hk)⟩
theorem At.bx {w w':World} {b:Nat} {l:List (Nat×Nat)} {a:Addr} {cs:List Value} (hm:yL w b l) (h:At w a cs) (hb:BX b w w'):At w' a cs:=λj u hu=>by
 have h1:=h j u hu;obtain⟨es,c,h2,_⟩:=hm;have h3:=World.block_lt_of_cell? w _ h1;have h4:(a.add j).block≠b:=λe=>by
  unfold World.cell? at h1;rw[e,h2]at h1;cases h1
 rw[World.cell?_of_block (w:=w) (hb.block _ h3 h4)];exact h1
theorem Sl.bx {α:Type} {enc:α->List Value} {size:Nat} {w w':World} {b:Nat} {l:List (Nat×Nat)} {v:Value} {L:List α} (hm:yL w b l) (h:Sl enc size w v L) (hb:BX b w w'):Sl enc size w' v L:=⟨h.form,λi hi=>At.bx hm (h.elt i hi) hb⟩
section
variable {N : Nat} {ρ : Nat → Value} {w0 w : World} {H : List lj} {d : Option Tmp} {ty : TypeId} {pos : String} {aft : Array Edge} {g : Option (Nat × Bool)} {x y z : Operand} {K : Value → Prop} {K2 : Value → World → Prop} {l : List (Nat × Nat)} {b : Nat} {p : Nat × Nat}
theorem RV (t:TypeId) (hS:St w0 w H) (h:∀b w',St w0 w' H->Below w.heap.size w w'->w0.heap.size<=b/\yL w' b []->K2 (.map (some b)) w'):pL Tryz.prog N ρ w ⟨d,.makeMap t none,ty,pos,aft,g⟩ K2:=by
 have hB:Below w.heap.size w (w.alloc (.map #[] 0)):=(Below.refl _ _).alloc (aB _) _;refine ow (w':=w.alloc (.map #[] 0)) ?_ (h w.heap.size _ (hS.kx hB) hB ⟨hS.kb.size,#[],0,by show(w.heap.push _)[w.heap.size]?=_;simp,rfl⟩);simp[execOp,Instr.makeMap]
theorem UB (hx:ev N ρ x= .map (some b)) (hy:ev N ρ y=wW p) (hM:yL w b l) (hp:p∉l) (h:K (.bool false)):rD Tryz.prog N ρ w ⟨d,.lookup 102 x y false,ty,pos,aft,g⟩ K:=by
 refine⟨_,λw' hb=> ?_,h⟩;obtain⟨es,c,h1,h2⟩:=hM.kb hb;have hg:=Oa h1;have hc:=y5 es.isEmpty p w';have hf:=H7 p w' es.toList l h2 hp;have hu:=cS Tryz.underlying102 w';have hz:(zeroValue 4).run Tryz.prog w'= .ok (.bool false) w':=by
  have h9:(Tryz.prog.info? 4).bind (·.zero)=some (.bool false):=by kernel_rfl
  obtain⟨i,h10,h11⟩:=Option.bind_eq_some_iff.1 h9;simp[zeroValue,typeInfo,h10,h11]
 simp[execOp,hx,hy,Instr.lookup,hu,hg,hc,hf,hz]
theorem U5 {vz:Value} (hx:ev N ρ x= .map (some b)) (hy:ev N ρ y=wW p) (_:ev N ρ z=vz) (hM:yL w b l) (hp:p∉l) (h:∀w',BX b w w'->yL w' b (l++[p])->K2 undef w'):pL Tryz.prog N ρ w ⟨d,.mapUpdate 102 x y z,ty,pos,aft,g⟩ K2:=by
 obtain⟨es,c,h1,h2⟩:=hM;have hg:=Oa h1;have hc:=y5 false p w;have hf:=H7 p w es.toList l h2 hp;have hu:=cS Tryz.underlying102 w;have hs:=UP (.map (es.push ⟨wW p,ev N ρ z,c⟩) (c+1)) h1;have hh:=Sv (o':= .map (es.push ⟨wW p,ev N ρ z,c⟩) (c+1)) h1;refine Bh (w':= {w with heap:=w.heap.setIfInBounds b (.map (es.push ⟨wW p,ev N ρ z,c⟩) (c+1))}) ?_ (h _ ⟨rfl,rfl,rfl,by simp,λk _ hk=>hh.2 k hk⟩ ⟨_,_,hh.1,?_⟩)
 ·simp[execOp,hx,hy,Instr.mapUpdate,hu,hg,hc,hf,hs]
 ·rw[Array.toList_push,bS,bS,h2];rfl
end
theorem EG.bx {w w':World} {b:Nat} {l:List (Nat×Nat)} {vE vD:Value} {g:nq} {ev:List (Value×Value)} {dv:List Value} (hm:yL w b l) (h:EG w vE vD g ev dv) (hb:BX b w w'):EG w' vE vD g ev dv:=⟨Sl.bx hm h.es hb,Sl.bx hm h.ds hb,λi hi=>Sl.bx hm (h.cl i hi) hb,λi hi=>Sl.bx hm (h.lg i hi) hb,h.ag⟩
theorem Dq {vE vD:Value} {g:nq} {ev:List (Value×Value)} {dv:List Value} (p:Nat×Nat) (w:World) (hM:EG w vE vD g ev dv) (h1:p.1<g.n) (h2:p.2<g.cn p.1):
  mb Tryz.prog 83 #[.agg #[vE,vD],wW p] w λr w'=>r= .int .i64 (g.c p.1 p.2).h/\Below w.heap.size w w':=by
 have hS:=St.init w;have hcl:=hM.cl p.1 h1;have hel:(kD g.n λi=>((g.e i).cash,ev.getD i rM)).getD p.1 nZ=((g.e p.1).cash,ev.getD p.1 rM):=kB _ _ h1;have htl:=kj g.n λi=>((g.e i).cash,ev.getD i rM);obtain⟨a1,c1,hv1,_⟩:=hcl.form;rw[hv1]at hcl;have hel1:((kD g.n λi=>((g.e i).cash,ev.getD i rM)).getD p.1 nZ).2.1= .slice a1 (g.e p.1).cl.length c1:=by rw[hel];exact hv1
 have hho:(g.c p.1 p.2).h=((g.e p.1).cl.getD p.2 nK).h:=rfl;rw[hho];have h2':p.2<(g.e p.1).cl.length:=h2;refine enter Tryz.func83 rfl Tryz.ntmps83 rfl ?_;refine jr ?_;refine jh (lx (new:=[vE,vD]) rfl rfl hS ?_);intro b2 wz1 hS hBz1;refine jh (lx (new:=nL p) rfl rfl hS ?_);intro b3 wz2 hS hBz2;refine V1 ?_;refine kK [jo 0,ju 1,jo 2,ju 3,jo 4,jo 5,ju 6,jo 7,ju 8,jo 9,jo 10,ju 11,jo 12] kR kR hS ?_;intro wz3 hS hBz3;refine J4 ?_;refine jl rfl (ks (i:=p.1) rfl rfl (hM.es.kb hS.kb) oO dO nW ?_);refine jl rfl (lU rfl (lG (hM.es.kb hS.kb) (λ_=>rfl) dD dO) mS ?_);refine jm rfl (lV (v:= .slice a1 (g.e p.1).cl.length c1) (i:=p.1) (off:=3) nZ rfl nY (hM.es.kb hS.kb) (λ_=>rfl) dD oO rfl (by rw[<-hel1];rfl) (.inr rfl) ?_);refine J2 ?_;refine jl rfl (ks (i:=p.2) rfl rfl (hcl.kb hS.kb) oO dO pG ?_);refine jl rfl (lU rfl (lG (hcl.kb hS.kb) (λ_=>rfl) dD dO) sK ?_);refine jm rfl (lV (i:=p.2) (off:=0) nK rfl mR (hcl.kb hS.kb) (λ_=>rfl) dD dO rfl rfl (.inr rfl) ?_);refine J1 ?_;refine jt ?_;refine kJ rfl rfl ?_;exact⟨rfl,hS.kb⟩
structure Xk (g:nq) (W:Rat) (l ls:List (Nat×Nat)):Prop where
 n:ls.length<=8
 w0:0<=W
 wL:L W<=MX
 rg:∀j,j<ls.length->(ls.getD j (0,0)).1<g.n/\(ls.getD j (0,0)).2<g.cn (ls.getD j (0,0)).1
 ho:∀j,j<ls.length->(g.c (ls.getD j (0,0)).1 (ls.getD j (0,0)).2).h=(g.c (ls.getD 0 (0,0)).1 (ls.getD 0 (0,0)).2).h
 nd:∀j,j<ls.length->ls.getD j (0,0)∉l++ls.take j
theorem FA {vE vD vl:Value} {g:nq} {ev:List (Value×Value)} {dv:List Value} (bm:Nat) (W:Rat) (l ls:List (Nat×Nat)) (w:World) (hM:EG w vE vD g ev dv) (hl:Sl nL 2 w vl ls) (hMR:yL w bm l) (hh:Xk g W l ls):
  mb Tryz.prog 45 #[.agg #[vE,vD],RQ W vl,.map (some bm)] w λr w'=>r= .int .i64 0/\BX bm w w'/\yL w' bm (l++ls):=by
 have hn8:=hh.n;have htl:=kj g.n λi=>((g.e i).cash,ev.getD i rM);have hS:=St.init w;obtain⟨al,cl,hvl,_⟩:=hl.form;subst hvl;obtain⟨vl,hvl⟩:=jz (Value.slice al ls.length cl);refine enter Tryz.func45 rfl Tryz.ntmps45 rfl ?_;refine jr ?_;refine jh (lx (new:=[vE,vD]) rfl rfl hS ?_);intro b3 wz1 hS hBz1;refine jh (lx (new:=mr (W,.slice al ls.length cl)) rfl rfl hS ?_);intro b4 wz2 hS hBz2;refine V1 ?_;replace hS:St w _ [(b4,64,mr (W,.slice al ls.length cl)),(b3,29,[vE,vD])]:=hS;refine J8 ?_;refine jh (kf Tryz.call80 rfl (sP (ki W) _ (by rw[Lr_ofQ];exact hh.wL)) ?_);rintro r w3 ⟨rfl,hB3⟩;replace hS:=hS.kx hB3;refine V2 ?_;rw[toQ_ofQ];refine lH rfl (ae (Ht hh.w0)) ?_;refine J4 ?_;refine jb ?_;refine kG (λρ w'=>BX bm w w'/\yL w' bm (l++ls)) ?_ ?_
 ·refine ja ?_;refine kF (σ:=Nat) (λj ρ w'=>j<=ls.length/\ρ 2= .map (some bm)/\ρ 3=pB b3/\ρ 4=pB b4/\ρ 20= .slice al ls.length cl/\ρ 21=iB ls.length/\ρ 22=iB j/\BX bm w w'/\At w' ⟨b3,0,none⟩ [vE,vD]/\At w' ⟨b4,0,none⟩ (mr (W,.slice al ls.length cl))/\yL w' bm (l++ls.take j)) (λj=>ls.length-j) 0
   ⟨aw _,rfl,rfl,rfl,rfl,rfl,rfl,BX.of hS.kb,hS.at (k:=1) rfl 0 2,hS.at (k:=0) rfl 0 4,by rw[ft,aK];exact hMR.kb hS.kb⟩ ?_
  clear hS;rintro j ρ w4 ⟨hj,h2,h3,h4,h20,h21,h22,hX,hg3,hg4,hM4⟩;have hS:=St.init w4;have hG:=hM.bx hMR hX;have hq:=Sl.bx hMR hl hX;have haE:At w4 ⟨b3,0,none⟩ [vE]:=hg3.seg 0 1;have haL:At w4 ⟨b4,3,none⟩ [.slice al ls.length cl]:=hg4.seg 3 1;refine V1 ?_;by_cases hlt:j<ls.length
  ·refine V1 ?_;obtain⟨r1,r2⟩:=hh.rg j hlt;obtain⟨r01,r02⟩:=hh.rg 0 oO;have hho:=hh.ho j hlt;have hnd:=hh.nd j hlt;obtain⟨p,hp⟩:=jz (ls.getD j (0,0));obtain⟨p0,hp0⟩:=jz (ls.getD 0 (0,0));rw[<-hp]at r1 r2 hho hnd;rw[<-hp0]at r01 r02 hho;have hcl:=hG.cl p.1 r1;have hel:(kD g.n λi=>((g.e i).cash,ev.getD i rM)).getD p.1 nZ=((g.e p.1).cash,ev.getD p.1 rM):=kB _ _ r1;obtain⟨a1,c1,hv1,_⟩:=hcl.form;rw[hv1]at hcl;have hel1:((kD g.n λi=>((g.e i).cash,ev.getD i rM)).getD p.1 nZ).2.1= .slice a1 (g.e p.1).cl.length c1:=by rw[hel];exact hv1
   have r2':p.2<(g.e p.1).cl.length:=r2;refine jr ?_;refine jp (ks (i:=j) h20 h22 (hq.kb hS.kb) oO dO nV (jq (kC (i:=j) (0,0) rfl p8 (hq.kb hS.kb) dO rfl rfl (.inl rfl) ?_)));refine J1 ?_;intro b8 wz3 hS hBz3;refine J1 ?_;intro wz4 hS;refine ja ?_;rw[<-hp]at hS;replace hS:St w4 _ [(b8,66,nL p)]:=hS;refine ja ?_;refine kK [jo 0,ju 1,jo 2,jo 3,jo 4,ju 5,jo 6,ju 7,jo 8,jo 9,jo 10,jo 11,jo 12,ju 13,jo 14,jo 15,jo 16,jo 17,ju 18,jo 19,ju 20,jo 21,ju 22,jo 23,jo 24,ju 25,jo 26,jo 27,jo 28,jo 29] kR kR hS ?_;intro wz5 hS hBz5;refine J4 ?_;refine kL rfl (kd 30 kR rfl dF) (lD rfl qh (mC rfl (kd 30 kR rfl dF) (kP (k:=0) rfl mR hS rfl rfl rfl (.inr rfl) (kL rfl (kd 30 kR rfl dF) (lD h3 qA (mC rfl (kd 30 kR rfl dF) (oW (v:=vE) (cs:=[vE]) rfl ng (haE.kb hS.kb) rfl rfl (.inr rfl) (kL rfl (kd 30 kR rfl dF) (ky rfl (hG.es.kb hS.kb) ⟨_,Tryz.underlying26⟩ (kL rfl (kd 30 kR rfl dF) (wA rfl rfl (jl rfl (kH (vb rfl dF) rfl ?_)))))))))))));refine J1 ?_;refine kL rfl (kd 38 kR rfl dF) (lD rfl qE (mC rfl (kd 38 kR rfl dF) (kP (k:=0) rfl mR hS rfl rfl rfl (.inr rfl) (kL rfl (kd 38 kR rfl dF) (vh rfl rfl (jl rfl (kH (vb rfl dF) rfl ?_)))))));refine J1 ?_;refine kL rfl (kd 43 kR rfl dF) (lD rfl qE (mC rfl (kd 43 kR rfl dF) (kP (k:=0) rfl mR hS rfl rfl rfl (.inr rfl) (kL rfl (kd 43 kR rfl dF) (lD h3 qA (mC rfl (kd 43 kR rfl dF) (oW (v:=vE) (cs:=[vE]) rfl ng (haE.kb hS.kb) rfl rfl (.inr rfl) (kL rfl (kd 43 kR rfl dF) (lD rfl qh (mC rfl (kd 43 kR rfl dF) (kP (k:=0) rfl mR hS rfl rfl rfl (.inr rfl) (kL rfl (kd 43 kR rfl dF) (ks (i:=p.1) rfl rfl (hG.es.kb hS.kb) oO dO nW ?_)))))))))))));refine kL rfl (kd 43 kR rfl dF) (lU rfl (lG (hG.es.kb hS.kb) (λ_=>rfl) dD dO) mS ?_);refine mC rfl (kd 43 kR rfl dF) (lV (v:= .slice a1 (g.e p.1).cl.length c1) (i:=p.1) (off:=3) nZ rfl nY (hG.es.kb hS.kb) (λ_=>rfl) dD oO rfl (by rw[<-hel1];rfl) (.inr rfl) ?_);refine kL rfl (kd 43 kR rfl dF) (ky rfl (hcl.kb hS.kb) ⟨_,Tryz.underlying48⟩ (kL rfl (kd 43 kR rfl dF) (wA rfl rfl (jl rfl (kH (vb rfl dF) rfl ?_)))));refine J4 ?_;refine jq (UB rfl rfl (hM4.kb hS.kb) hnd ?_);refine V1 ?_;refine lH rfl (rfl) ?_;refine ja ?_;refine kK [ju 0,ju 1,ju 3,jo 4,ju 5,jo 6,ju 7,jv 2,jv 8,jo 9,jo 10] kR kR hS ?_;intro wz6 hS hBz6;refine jm rfl (oW (v:= .agg #[vE,vD]) (cs:=[vE,vD]) h3 uX (hg3.kb hS.kb) rfl rfl (.inl rfl) ?_);refine J1 ?_;refine jm rfl (oW (v:= .agg #[vE,vD]) (cs:=[vE,vD]) h3 uX (hg3.kb hS.kb) rfl rfl (.inl rfl) ?_);refine J1 ?_;refine jm rfl (oW (v:= .slice al ls.length cl) (cs:=[.slice al ls.length cl]) rfl pD (haL.kb hS.kb) rfl rfl (.inr rfl) (jl rfl (ks (i:=0) rfl rfl (hq.kb hS.kb) oO dO nV (jm rfl (kC (v:=wW p0) (i:=0) (0,0) rfl p8 (hq.kb hS.kb) oO rfl (by rw[<-hp0];rfl) (.inl rfl) (jn rfl (kf Tryz.call83 rfl (Dq p _ (hG.kb hS.kb) r1 r2) ?_)))))));rintro r w5 ⟨rfl,hB5⟩;refine⟨hB5,?_⟩;replace hS:=hS.kx hB5;refine jn rfl (kf Tryz.call83 rfl (Dq p0 _ (hG.kb hS.kb) r01 r02) ?_);rintro r w6 ⟨rfl,hB6⟩;refine⟨hB6,?_⟩;replace hS:=hS.kx hB6;refine V2 ?_;refine lH rfl (ae (λh=>h hho)) ?_;refine J2 ?_;refine jh (U5 rfl rfl rfl (hM4.kb hS.kb) hnd ?_);intro wmp hMX hMR;refine ja ?_;have hM5:=hM4.kb hS.kb;rw[aG,hp,<-lT ls j (0,0) hlt]at hMR;refine V2 ?_;exact⟨j+1,_,rfl,⟨hlt,jY,jY,jY,jY,jY,vi rfl oO,hX.trans ((BX.of hS.kb).trans hMX),At.bx hM5 (hg3.kb hS.kb) hMX,At.bx hM5 (hg4.kb hS.kb) hMX,hMR⟩,oO⟩
  ·refine J1 ?_;refine jt ?_;obtain rfl:j=ls.length:=oO;rw[bO]at hM4;exact⟨_,rfl,hX,hM4⟩
 clear hS;rintro ρ w4 ⟨hX,hM4⟩;refine J1 ?_;refine jt ?_;refine kJ rfl rfl ?_;exact⟨rfl,hX,hM4⟩
structure Qm (g:nq) (A:Nat->List (List (List n9))):Prop where
 n:g.n<=8
 d:g.ds.length<=16
 es:∀i,i<g.n->UJ (g.e i).cash (g.e i).cl (A i)
 ho:∀i,i<g.n->∀c,c<g.cn i->(g.c i c).h≠i/\(g.c i c).h<g.n
 lg:∀k,k<g.ds.length->Xk g (g.d k).W ((g.ds.take k).flatMap tw.legs) (g.d k).legs
theorem Nm (vE vD:Value) (g:nq) (ev:List (Value×Value)) (dv:List Value) (A:Nat->List (List (List n9))) (av:Nat->List Value) (apv:Nat->List (List Value)) (w:World) (hM:EG w vE vD g ev dv) (hA:∀i,i<g.n->L8 w (ev.getD i rM).2 (A i) (av i) (apv i)) (hh:Qm g A):
  mb Tryz.prog 24 #[.agg #[vE,vD]] w λr w'=>r= .int .i64 0/\Below w.heap.size w w':=by
 have hS:=St.init w;have hn8:=hh.n;have hd16:=hh.d;have hle:=kj g.n λi=>((g.e i).cash,ev.getD i rM);have hld:=kj g.ds.length λk=>((g.d k).W,dv.getD k undef);obtain⟨aE,cE,hvE,_⟩:=hM.es.form;obtain⟨aD,cD,hvD,_⟩:=hM.ds.form;rw[hle]at hvE;rw[hld]at hvD;subst hvE hvD;refine enter Tryz.func24 rfl Tryz.ntmps24 rfl ?_;refine jr ?_;refine jh (lx (new:=[(.slice aE g.n cE),(.slice aD g.ds.length cD)]) rfl rfl hS ?_);intro b1 wz1 hS hBz1;refine V1 ?_;replace hS:St w _ [(b1,29,[(.slice aE g.n cE),(.slice aD g.ds.length cD)])]:=hS;refine J5 ?_;refine ko (kd 18 kR rfl dF) (lD rfl vO (lA (kd 18 kR rfl dF) (kP (k:=0) rfl qm hS rfl rfl rfl (.inr rfl) (ko (kd 18 kR rfl dF) (oG rfl ⟨_,Tryz.underlying27⟩ (ko (kd 18 kR rfl dF) (sT rfl rfl (jp (kH (vb rfl dF) rfl ?_)))))))));refine J5 ?_;refine jb ?_;refine kG (λρ w'=>ρ 1=pB b1/\St w w' [(b1,29,[(.slice aE g.n cE),(.slice aD g.ds.length cD)])]) ?_ ?_
 ·refine ja ?_;refine kF (σ:=Nat) (λi ρ w'=>i<=g.n/\ρ 1=pB b1/\ρ 25=(.slice aE g.n cE)/\ρ 26=iB g.n/\ρ 27=iB i/\St w w' [(b1,29,[(.slice aE g.n cE),(.slice aD g.ds.length cD)])]) (λi=>g.n-i) 0
   ⟨aw _,rfl,rfl,rfl,rfl,hS⟩ ?_
  clear hS;rintro i ρ w3 ⟨hi,h1,h25,h26,h27,hS⟩;refine V1 ?_;by_cases hlt:i<g.n
  ·refine V1 ?_;obtain⟨a1,c1,a2,l2,c2,hev⟩:=hM.form hlt;have hcl:=hM.cl i hlt;have hag:=hA i hlt;have heh:=hh.es i hlt;rw[hev]at hcl hag;obtain⟨cl,hcl2⟩:=jz ((g.e i).cl);rw[<-hcl2]at hcl heh hev;have hel:(kD g.n λi=>((g.e i).cash,ev.getD i rM)).getD i nZ=((g.e i).cash,.slice a1 cl.length c1,.slice a2 l2 c2):=by rw[kB _ _ hlt,hev]
   refine jr ?_;refine jp (ks (i:=i) h25 h27 (hM.es.kb hS.kb) oO dO nW (jq (kC (v:=Na (g.e i).cash (.slice a1 cl.length c1) (.slice a2 l2 c2)) (i:=i) nZ rfl ua (hM.es.kb hS.kb) oO rfl (by rw[hel];rfl) (.inl rfl) ?_)));refine J1 ?_;intro b4 wz2 hS hBz2;refine J1 ?_;intro wz3 hS;refine ja ?_;replace hS:St w _ [(b4,51,kI ((g.e i).cash,.slice a1 cl.length c1,.slice a2 l2 c2)),(b1,29,[(.slice aE g.n cE),(.slice aD g.ds.length cD)])]:=hS;refine J1 ?_;refine jh (kf Tryz.call44 rfl (NY (g.e i).cash _ _ cl (A i) (av i) (apv i) _ (hcl.kb hS.kb) (hag.kb hS.kb) heh) ?_);rintro r w5 ⟨rfl,hB5⟩;replace hS:=hS.kx hB5;refine V3 ?_;refine lH rfl (rfl) ?_;refine V2 ?_;exact⟨i+1,_,rfl,⟨hlt,jY,jY,jY,vi rfl oO,hS.drop (ab _ _)⟩,oO⟩
  ·refine J1 ?_;refine jt ?_;exact⟨_,rfl,h1,hS⟩
 clear hS;rintro ρ w3 ⟨h1,hS⟩;refine J4 ?_;refine jb ?_;refine kG (λρ w'=>ρ 1=pB b1/\St w w' [(b1,29,[(.slice aE g.n cE),(.slice aD g.ds.length cD)])]) ?_ ?_
 ·refine ja ?_;refine kF (σ:=Nat) (λi ρ w'=>i<=g.n/\ρ 1=pB b1/\ρ 38=(.slice aE g.n cE)/\ρ 39=iB g.n/\ρ 40=iB i/\St w w' [(b1,29,[(.slice aE g.n cE),(.slice aD g.ds.length cD)])]) (λi=>g.n-i) 0
   ⟨aw _,h1,rfl,rfl,rfl,hS⟩ ?_
  clear hS h1;rintro i ρ w3 ⟨hi,h1,h38,h39,h40,hS⟩;refine V1 ?_;by_cases hlt:i<g.n
  ·refine V1 ?_;obtain⟨a1,c1,a2,l2,c2,hev⟩:=hM.form hlt;have hcl:=hM.cl i hlt;have hho:=hh.ho i hlt;have hmx:=hcl.maxLen;rw[hev]at hcl;have hel:(kD g.n λi=>((g.e i).cash,ev.getD i rM)).getD i nZ=((g.e i).cash,.slice a1 (g.e i).cl.length c1,.slice a2 l2 c2):=by rw[kB _ _ hlt,hev]
   obtain⟨n,hn⟩:=jz ((g.e i).cl.length);rw[<-hn]at hel;refine J1 ?_;refine jp (ks (i:=i) h38 h40 (hM.es.kb hS.kb) oO dO nW (jq (kC (v:=Na (g.e i).cash (.slice a1 n c1) (.slice a2 l2 c2)) (i:=i) nZ rfl ua (hM.es.kb hS.kb) oO rfl (by rw[hel];rfl) (.inl rfl) ?_)));refine J1 ?_;intro b7 wz4 hS hBz4;refine J2 ?_;intro wz5 hS;refine ja ?_;replace hS:St w _ [(b7,51,kI ((g.e i).cash,.slice a1 n c1,.slice a2 l2 c2)),(b1,29,[(.slice aE g.n cE),(.slice aD g.ds.length cD)])]:=hS;refine J4 ?_;refine jb ?_;refine kG (λρ w'=>ρ 1=pB b1/\ρ 38=(.slice aE g.n cE)/\ρ 39=iB g.n/\ρ 40=iB i/\St w w' [(b7,51,kI ((g.e i).cash,.slice a1 n c1,.slice a2 l2 c2)),(b1,29,[(.slice aE g.n cE),(.slice aD g.ds.length cD)])]) ?_ ?_
   ·refine ja ?_;refine kF (σ:=Nat) (λc ρ w'=>c<=n/\ρ 1=pB b1/\ρ 6=iB i/\ρ 38=(.slice aE g.n cE)/\ρ 39=iB g.n/\ρ 40=iB i/\ρ 46= .slice a1 n c1/\ρ 47=iB n/\ρ 48=iB c/\St w w' [(b7,51,kI ((g.e i).cash,.slice a1 n c1,.slice a2 l2 c2)),(b1,29,[(.slice aE g.n cE),(.slice aD g.ds.length cD)])]) (λc=>n-c) 0
     ⟨aw _,h1,rfl,h38,h39,h40,rfl,rfl,rfl,hS⟩ ?_
    clear hS h1 h38 h39 h40;rintro c ρ w4 ⟨hc,h1,h6,h38,h39,h40,h46,h47,h48,hS⟩;rw[hn]at h46;refine V1 ?_;by_cases hcn:c<n
    ·refine V1 ?_;obtain⟨k1,k2⟩:=hho c (by show c<(g.e i).cl.length;omega);obtain⟨x,hx⟩:=jz ((g.e i).cl.getD c nK);replace k1:x.h≠i:=by rw[hx];exact k1
     replace k2:x.h<g.n:=by rw[hx];exact k2
     refine jr ?_;refine jp (ks (i:=c) h46 h48 (hcl.kb hS.kb) oO dO pG (jq (kC (i:=c) nK rfl rO (hcl.kb hS.kb) dO rfl rfl (.inl rfl) ?_)));refine J1 ?_;intro b9 wz6 hS hBz6;refine J1 ?_;intro wz7 hS;refine ja ?_;rw[<-hx]at hS;replace hS:St w _ [(b9,53,lz x),(b7,51,kI ((g.e i).cash,.slice a1 n c1,.slice a2 l2 c2)),(b1,29,[(.slice aE g.n cE),(.slice aD g.ds.length cD)])]:=hS;refine J5 ?_;refine ko (kd 56 kR rfl (ae k1)) (lD rfl sK (lA (kd 56 kR rfl (ae k1)) (kP (k:=0) rfl mR hS rfl rfl rfl (.inr rfl) (ko (kd 56 kR rfl (ae k1)) (lD h1 qA (lA (kd 56 kR rfl (ae k1)) (kP (k:=2) rfl ng hS rfl rfl rfl (.inr rfl) (ko (kd 56 kR rfl (ae k1)) (oG rfl ⟨_,Tryz.underlying26⟩ (ko (kd 56 kR rfl (ae k1)) (wA rfl rfl (jp (kH (vb rfl (ae k1)) rfl ?_)))))))))))));refine V3 ?_;exact⟨c+1,_,rfl,⟨hcn,jY,jY,jY,jY,jY,by rw[hn];assumption,jY,vi rfl oO,hS.drop (ab _ _)⟩,oO⟩
    ·refine J1 ?_;refine jt ?_;exact⟨_,rfl,h1,h38,h39,h40,hS⟩
   clear hS h1 h38 h39 h40;rintro ρ w4 ⟨h1,h38,h39,h40,hS⟩;refine V2 ?_;exact⟨i+1,_,rfl,⟨hlt,jY,jY,jY,vi rfl oO,hS.drop (ab _ _)⟩,oO⟩
  ·refine J1 ?_;refine jt ?_;exact⟨_,rfl,h1,hS⟩
 clear hS;rintro ρ w3 ⟨h1,hS⟩;refine jr ?_;refine jh (RV _ hS ?_);intro bm wmp hS hMB hMR;refine V1 ?_;obtain⟨hge,hM0⟩:=hMR;refine J4 ?_;refine jb ?_;refine kG (λρ w'=>Below w.heap.size w w') ?_ ?_
 ·refine ja ?_;refine kF (σ:=Nat) (λk ρ w'=>k<=g.ds.length/\ρ 1=pB b1/\ρ 10= .map (some bm)/\ρ 68=(.slice aD g.ds.length cD)/\ρ 69=iB g.ds.length/\ρ 70=iB k/\Below w.heap.size w w'/\At w' ⟨b1,0,none⟩ [(.slice aE g.n cE),(.slice aD g.ds.length cD)]/\yL w' bm ((g.ds.take k).flatMap tw.legs)) (λk=>g.ds.length-k) 0
   ⟨aw _,h1,rfl,rfl,rfl,rfl,hS.kb,hS.at (k:=0) rfl 0 2,hM0⟩ ?_
  clear hS h1;rintro k ρ w4 ⟨hk,h1,h10,h68,h69,h70,hB,hg1,hM4⟩;have hS:=St.init w4;have hG:=hM.kb hB;refine V1 ?_;by_cases hlt:k<g.ds.length
  ·refine V1 ?_;have hlk:=hh.lg k hlt;have hlg:=hG.lg k hlt;obtain⟨al,cl,hvl,_⟩:=hlg.form;rw[hvl]at hlg;have hel:(kD g.ds.length λk=>((g.d k).W,dv.getD k undef)).getD k Ch=((g.d k).W,.slice al (g.d k).legs.length cl):=by rw[kB _ _ hlt,hvl]
   have hlen8:=hlk.n;obtain⟨ls,hls⟩:=jz ((g.d k).legs);have hfl:(g.ds.take (k+1)).flatMap tw.legs=(g.ds.take k).flatMap tw.legs++ls:=by
    rw[lT g.ds k uh hlt,du,da,hls];rfl
   rw[<-hls]at hlk hlg hel;refine jr ?_;refine jp (ks (i:=k) h68 h70 (hG.ds.kb hS.kb) oO dO rH (jq (kC (v:=RQ (g.d k).W (.slice al ls.length cl)) (i:=k) Ch rfl tA (hG.ds.kb hS.kb) oO rfl (by rw[hel];rfl) (.inl rfl) ?_)));refine J1 ?_;intro b12 wz8 hS hBz8;refine J1 ?_;intro wz9 hS;refine ja ?_;replace hS:St w4 _ [(b12,64,mr ((g.d k).W,.slice al ls.length cl))]:=hS;refine jr ?_;refine jq (oW (v:= .agg #[(.slice aE g.n cE),(.slice aD g.ds.length cD)]) (cs:=[(.slice aE g.n cE),(.slice aD g.ds.length cD)]) h1 uX (hg1.kb hS.kb) rfl rfl (.inl rfl) ?_);refine J2 ?_;have hM5:=hM4.kb hS.kb;refine jh (kf Tryz.call45 rfl (FA bm (g.d k).W _ ls _ (hG.kb hS.kb) (hlg.kb hS.kb) hM5 hlk) ?_);rintro r w6 ⟨rfl,hX,hM6⟩;have hB6:=BX.kb (hB.trans (hS.kb.mono hB.size)) hX hge;have hg6:=At.bx hM5 (hg1.kb hS.kb) hX;rw[<-hfl]at hM6;clear hS;refine V3 ?_;refine lH rfl (rfl) ?_;refine V2 ?_;exact⟨k+1,_,rfl,⟨hlt,jY,jY,jY,jY,vi rfl oO,hB6,hg6,hM6⟩,oO⟩
  ·refine J1 ?_;refine jt ?_;exact⟨_,rfl,hB⟩
 clear hS;rintro ρ w4 hB;refine J1 ?_;refine jt ?_;refine kJ rfl rfl ?_;exact⟨rfl,hB⟩
theorem OE {w:World} {n:Nat} {cn:Nat->Nat} {x:Nat->Rat} {G D F N:Nat->Nat->Rat} {S R:Nat->Rat} {U:Nat->Bool} {r:Value} (h:W0 w n cn x G D F N S R U r):∃a1 l1 c1 a2 l2 c2 a3 l3 c3 a4 l4 c4 a5 l5 c5 a6 l6 c6 a7 l7 c7 a8 l8 c8,r= .agg #[.slice a1 l1 c1,.slice a2 l2 c2,.slice a3 l3 c3,.slice a4 l4 c4,.slice a5 l5 c5,.slice a6 l6 c6,.slice a7 l7 c7,.slice a8 l8 c8]:=by
 obtain⟨vM,vG,vD,vF,vN,vS,vR,vU,uG,uD,uF,uN,e,h1,h2,h3,h4,h5,h6,h7,h8⟩:=h;obtain⟨a1,c1,e1,_⟩:=h1.form;obtain⟨a2,c2,e2,_⟩:=h2.sl.form;obtain⟨a3,c3,e3,_⟩:=h3.sl.form;obtain⟨a4,c4,e4,_⟩:=h4.sl.form;obtain⟨a5,c5,e5,_⟩:=h5.sl.form;obtain⟨a6,c6,e6,_⟩:=h6.form;obtain⟨a7,c7,e7,_⟩:=h7.form;obtain⟨a8,c8,e8,_⟩:=h8.form;rw[e1,e2,e3,e4,e5,e6,e7,e8]at e;exact⟨_,_,_,_,_,_,_,_,_,_,_,_,_,_,_,_,_,_,_,_,_,_,_,_,e⟩
noncomputable section
def TI (w:World) (g:nq) (Y:Nat->Ly) (x:Nat->Rat) (r:Value):Prop:=W0 w g.n g.cn x (Vc Y x) (lW Y x) (A2 g (lW Y x) g.ds.length) (λi c=>lW Y x i c-A2 g (lW Y x) g.ds.length i c) (QM Y x) (Ff Y x) (Tq Y x) r
structure TD (D0:Nat) (g:nq) (A:Nat->List (List (List n9))):Prop where
 ck:Qm g A
 es:∀i,i<g.n->Rz (g.e i).cl (A i)
 ok:n7 g (λi=>oo (g.e i).cl (A i)) (wQ (AL g))
 b:xq D0 g (λi=>oo (g.e i).cl (A i))
def xS (g:nq) (A:Nat->List (List (List n9))):Nat->Rat:=Sd g (λi=>oo (g.e i).cl (A i)) (wQ (AL g))
theorem CT {D0:Nat} (vE vD:Value) (g:nq) (ev:List (Value×Value)) (dv:List Value) (A:Nat->List (List (List n9))) (av:Nat->List Value) (apv:Nat->List (List Value)) (w:World) (hM:EG w vE vD g ev dv) (hA:∀i,i<g.n->L8 w (ev.getD i rM).2 (A i) (av i) (apv i)) (hh:TD D0 g A):
  mb Tryz.prog 9 #[.agg #[vE,vD]] w λr w'=>∃rs LO,r= .tuple #[rs,.int .i64 0]/\(∀wz wx,St wz wx LO->TI wx g (λi=>oo (g.e i).cl (A i)) (xS g A) rs)/\St w w' LO:=by
 have hMX:MX=1099511627776:=rfl;have hS:=St.init w;have hn8:=hh.ck.n;obtain⟨s1,s2,D,s3⟩:=Qr hh.ok hh.b;obtain⟨t1,t2,t3,t4⟩:=NX hh.ok hh.b s3;obtain⟨aE,cE,hvE,_⟩:=hM.es.form;obtain⟨aD,cD,hvD,_⟩:=hM.ds.form;have hcq:∀i,i<g.n->L (Bu g i)<=MX:=λi hi=>(hh.ck.es i hi).qL;rw[kj]at hvE hvD;subst hvE hvD;obtain⟨X,hX⟩:=jz (xS g A);have hX2:Sd g (λi=>oo (g.e i).cl (A i)) (wQ (AL g))=X:=hX.symm;rw[hX2]at s3 t1 t2 t3 t4;refine enter Tryz.func9 rfl Tryz.ntmps9 rfl ?_;refine jr ?_;refine jh (lx (new:=[.slice aE g.n cE,.slice aD g.ds.length cD]) rfl rfl hS ?_);intro b1 wz1 hS hBz1;refine J1 ?_;intro b2 wz2 hS hBz2;refine V1 ?_;replace hS:St w _ [(b2,38,xE),(b1,29,[.slice aE g.n cE,.slice aD g.ds.length cD])]:=hS;refine J1 ?_;refine jh (kf Tryz.call24 rfl (Nm _ _ g ev dv A av apv _ (hM.kb hS.kb) (λi hi=>(hA i hi).kb hS.kb) hh.ck) ?_);rintro r w3 ⟨rfl,hB3⟩;replace hS:=hS.kx hB3;refine V3 ?_;refine lH rfl (rfl) ?_;refine J1 ?_;refine jh (kf Tryz.call25 rfl (PT _ _ g ev dv A av apv _ (hM.kb hS.kb) (λi hi=>(hA i hi).kb hS.kb) hh.es oO hh.ok.lg) ?_);rintro r w4 ⟨bs,vL,vI,V,iv,rfl,hSy,hB4⟩;replace hS:=hS.kx hB4;refine J3 ?_;refine jh (kf Tryz.call27 rfl (PU FU 20 Tf 154 _ hSy oO hh.ok.lg hh.ok.ho hcq s1) ?_);rintro r w5 ⟨LO,hGx,hS5⟩;have hSy5:=hSy.kb hS5.kb;have hx:=hGx.sl (H:=[]) hS5 (kA);replace hS:=hS.kx hS5.kb;refine jh (kf Tryz.call26 rfl (M9 r X Tf _ hSy5 (by rw[hX];exact hx) oO t1 t2 hh.ok.lg t3 t4) ?_);rintro rs w6 ⟨LZ,hSe,hS6⟩;replace hS:=(hS.join hS6).perm ay;obtain⟨a1,l1,c1,a2,l2,c2,a3,l3,c3,a4,l4,c4,a5,l5,c5,a6,l6,c6,a7,l7,c7,a8,l8,c8,hrs⟩:=OE (hSe _ _ hS6);subst hrs;clear hS5 hGx hx hSy hSy5 hS6;refine J1 ?_;intro wz3 hS;refine J1 ?_;refine jt ?_;refine nG (k:=0) rfl rfl rfl wV hS rfl rfl ?_;exact⟨_,LZ,rfl,by rw[<-hX];exact hSe,hS.drop (show LZ.Sublist ([_,_]++LZ)from ao _ _)⟩
end
theorem CS {α:Type} {l:List α} {f:α->Bool} {i:Nat} (d:α) (hi:i<l.length) (h:(l.take i).any f=false):(f (l.getD i d)=false->(l.take (i+1)).any f=false)/\(f (l.getD i d)=true->l.any f=true):=by
 refine⟨λh1=> ?_,λh1=>dB.2 ⟨_,kO l i d hi,h1⟩⟩;rw[lT l i d hi,List.any_append,h,List.any_cons,h1];rfl
def T3 (c:Nat) (l:List n9):Bool:=l.any λp=>decide (p.c=(c:Int))
def Uq (c:Nat) (X:List (List n9)):Bool:=X.any (T3 c)
def FI (c:Nat) (A:List (List (List n9))):Bool:=A.any (Uq c)
theorem RX (q:Rat) (aC:Option Addr) (nC cC:Nat) (vA:Value) (A:List (List (List n9))) (av:List Value) (pv:List (List Value)) (c:Nat) (w:World) (hA:L8 w vA A av pv):
  mb Tryz.prog 39 #[Na q (.slice aC nC cC) vA,.int .i64 c] w λr w'=>r= .bool (!FI c A)/\Below w.heap.size w w':=by
 have hal:=hA.len;have ham:=hA.sl.maxLen;have hS:=St.init w;obtain⟨aA,cA,hvA,_⟩:=hA.sl.form;subst hvA;rw[hal];refine enter Tryz.func39 rfl Tryz.ntmps39 rfl ?_;refine jr ?_;refine jh (lx (new:=[.bool (ki q).neg,.string (ki q).num,.string (ki q).den,.slice aC nC cC,.slice aA A.length cA]) rfl rfl hS ?_);intro b2 wz1 hS hBz1;refine V1 ?_;replace hS:St w _ [(b2,51,[.bool (ki q).neg,.string (ki q).num,.string (ki q).den,.slice aC nC cC,.slice aA A.length cA])]:=hS;refine J4 ?_;refine jb ?_;refine kG (λρ w'=>FI c A=false/\St w w' [(b2,51,[.bool (ki q).neg,.string (ki q).num,.string (ki q).den,.slice aC nC cC,.slice aA A.length cA])]) ?_ ?_
 ·refine ja ?_;refine kF (σ:=Nat) (λi ρ w'=>i<=A.length/\(A.take i).any (Uq c)=false/\ρ 1=iB c/\ρ 12= .slice aA A.length cA/\ρ 13=iB A.length/\ρ 14=iB i/\St w w' [(b2,51,[.bool (ki q).neg,.string (ki q).num,.string (ki q).den,.slice aC nC cC,.slice aA A.length cA])]) (λi=>A.length-i) 0
   ⟨aw _,rfl,rfl,rfl,rfl,rfl,hS⟩ ?_
  clear hS;rintro i ρ w3 ⟨hi,hno,h1,h12,h13,h14,hS⟩;rw[<-hal]at h12;refine V1 ?_;by_cases hlt:i<A.length
  ·refine V1 ?_;obtain⟨t1,t2⟩:=CS [] hlt hno;have hM:=hA.m i hlt;obtain⟨X,hX⟩:=jz (A.getD i []);rw[<-hX]at hM t1 t2;have hxl:=hM.len;have hxm:=hM.sl.maxLen;obtain⟨aX,cX,hvX,_⟩:=hM.sl.form;have hvX2:=hvX;rw[hxl]at hvX2;rw[hvX2]at hM;refine jr ?_;refine jp (ks (i:=i) h12 h14 (hA.sl.kb hS.kb) oO dO E3 (jq (kC (v:= .agg #[.slice aX X.length cX]) (i:=i) undef rfl xi (hA.sl.kb hS.kb) oO rfl (by rw[hvX2];rfl) (.inl rfl) ?_)));refine J1 ?_;intro b6 wz2 hS hBz2;refine J1 ?_;intro wz3 hS;refine ja ?_;replace hS:St w _ [(b6,82,[.slice aX X.length cX]),(b2,51,[.bool (ki q).neg,.string (ki q).num,.string (ki q).den,.slice aC nC cC,.slice aA A.length cA])]:=hS;refine J4 ?_;refine jb ?_;refine kG (λρ w'=>Uq c X=false/\ρ 1=iB c/\ρ 12= .slice aA A.length cA/\ρ 13=iB A.length/\ρ 14=iB i/\St w w' [(b2,51,[.bool (ki q).neg,.string (ki q).num,.string (ki q).den,.slice aC nC cC,.slice aA A.length cA])]) ?_ ?_
   ·refine ja ?_;refine kF (σ:=Nat) (λt ρ w'=>t<=X.length/\(X.take t).any (T3 c)=false/\ρ 1=iB c/\ρ 12= .slice aA A.length cA/\ρ 13=iB A.length/\ρ 14=iB i/\ρ 19= .slice aX X.length cX/\ρ 20=iB X.length/\ρ 21=iB t/\St w w' [(b2,51,[.bool (ki q).neg,.string (ki q).num,.string (ki q).den,.slice aC nC cC,.slice aA A.length cA])]) (λt=>X.length-t) 0
     ⟨aw _,rfl,h1,by rw[hal]at h12;exact h12,h13,h14,rfl,rfl,rfl,hS.drop (ab _ _)⟩ ?_
    clear hS h1 h12 h13 h14;rintro t ρ w4 ⟨ht,hno2,h1,h12,h13,h14,h19,h20,h21,hS⟩;refine V1 ?_;by_cases htl:t<X.length
    ·refine V1 ?_;obtain⟨u1,u2⟩:=CS [] htl hno2;have hR:=hM.row t htl;obtain⟨l,hl⟩:=jz (X.getD t []);rw[<-hl]at hR u1 u2;have hlm:=hR.maxLen;obtain⟨aL,cL,hvL,_⟩:=hR.form;rw[hvL]at hR;refine jr ?_;refine jp (ks (i:=t) h19 h21 (hM.sl.kb hS.kb) oO dO yi (jq (kC (v:= .slice aL l.length cL) (i:=t) undef rfl y8 (hM.sl.kb hS.kb) oO rfl (by rw[hvL];rfl) (.inr rfl) ?_)));refine J4 ?_;refine jb ?_;refine kG (λρ w'=>T3 c l=false/\ρ 1=iB c/\ρ 12= .slice aA A.length cA/\ρ 13=iB A.length/\ρ 14=iB i/\ρ 19= .slice aX X.length cX/\ρ 20=iB X.length/\ρ 21=iB t/\St w w' [(b2,51,[.bool (ki q).neg,.string (ki q).num,.string (ki q).den,.slice aC nC cC,.slice aA A.length cA])]) ?_ ?_
     ·refine ja ?_;refine kF (σ:=Nat) (λj ρ w'=>j<=l.length/\(l.take j).any (λp=>decide (p.c=(c:Int)))=false/\ρ 1=iB c/\ρ 12= .slice aA A.length cA/\ρ 13=iB A.length/\ρ 14=iB i/\ρ 19= .slice aX X.length cX/\ρ 20=iB X.length/\ρ 21=iB t/\ρ 25= .slice aL l.length cL/\ρ 26=iB l.length/\ρ 27=iB j/\St w w' [(b2,51,[.bool (ki q).neg,.string (ki q).num,.string (ki q).den,.slice aC nC cC,.slice aA A.length cA])]) (λj=>l.length-j) 0
       ⟨aw _,rfl,h1,h12,h13,h14,h19,h20,h21,rfl,rfl,rfl,hS⟩ ?_
      clear hS h1 h12 h13 h14 h19 h20 h21;rintro j ρ w5 ⟨hj,hno3,h1,h12,h13,h14,h19,h20,h21,h25,h26,h27,hS⟩;refine V1 ?_;by_cases hjl:j<l.length
      ·refine V1 ?_;obtain⟨z1,z2⟩:=CS (f:=λp:n9=>decide (p.c=(c:Int))) uW hjl hno3;obtain⟨p,hp⟩:=jz (l.getD j uW);rw[<-hp]at z1 z2;refine jr ?_;refine jp (ks (i:=j) h25 h27 (hR.kb hS.kb) oO dO wC (jq (kC (i:=j) uW rfl wD (hR.kb hS.kb) dO rfl rfl (.inl rfl) ?_)));refine J1 ?_;intro b10 wz4 hS hBz4;refine J1 ?_;intro wz5 hS;refine ja ?_;rw[<-hp]at hS;replace hS:St w _ [(b10,85,nF p),(b2,51,[.bool (ki q).neg,.string (ki q).num,.string (ki q).den,.slice aC nC cC,.slice aA A.length cA])]:=hS;refine V4 ?_;by_cases hc:p.c=(c:Int)
       ·refine lu rfl (ai hc) ?_;refine J1 ?_;refine jt ?_;refine kJ rfl rfl ?_;have:FI c A=true:=t2 (u2 (z2 (ai hc)));exact⟨by rw[this];rfl,hS.kb⟩
       ·refine lH rfl (ae hc) ?_;refine V2 ?_;exact⟨j+1,_,rfl,⟨hjl,z1 (ae hc),jY,jY,jY,jY,jY,jY,jY,jY,jY,vi rfl oO,hS.drop (ab _ _)⟩,oO⟩
      ·refine J1 ?_;refine jt ?_;obtain rfl:j=l.length:=oO;rw[bO]at hno3;exact⟨_,rfl,hno3,h1,h12,h13,h14,h19,h20,h21,hS⟩
     clear hS h1 h12 h13 h14 h19 h20 h21;rintro ρ w5 ⟨hn3,h1,h12,h13,h14,h19,h20,h21,hS⟩;refine V2 ?_;exact⟨t+1,_,rfl,⟨htl,u1 hn3,jY,jY,jY,jY,jY,jY,vi rfl oO,hS⟩,oO⟩
    ·refine J1 ?_;refine jt ?_;obtain rfl:t=X.length:=oO;rw[bO]at hno2;exact⟨_,rfl,hno2,h1,h12,h13,h14,hS⟩
   clear hS h1 h12 h13 h14;rintro ρ w5 ⟨hn2,h1,h12,h13,h14,hS⟩;refine V2 ?_;exact⟨i+1,_,rfl,⟨hlt,t1 hn2,jY,jY,jY,vi rfl oO,hS⟩,oO⟩
  ·refine J1 ?_;refine jt ?_;obtain rfl:i=A.length:=oO;rw[bO]at hno;exact⟨_,rfl,hno,hS⟩
 clear hS;rintro ρ w3 ⟨hno,hS⟩;refine J1 ?_;refine jt ?_;refine kJ rfl rfl ?_;exact⟨by rw[hno];rfl,hS.kb⟩
structure SJ (w:World) (vD:Value) (ds:List tw) (dv:List Value):Prop where
 sl:Sl mr 4 w vD (kD ds.length λk=>((ds.getD k uh).W,dv.getD k undef))
 lg:∀k,k<ds.length->Sl nL 2 w (dv.getD k undef) (ds.getD k uh).legs
theorem SJ.kb {w w':World} {vD:Value} {ds:List tw} {dv:List Value} (h:SJ w vD ds dv) (hb:Below w.heap.size w w'):SJ w' vD ds dv:=⟨h.sl.kb hb,λk hk=>(h.lg k hk).kb hb⟩
def TU (p:Nat×Nat) (d:tw):Bool:=d.legs.any λq=>decide (q=p)
def GJ (p:Nat×Nat) (ds:List tw):Bool:=ds.any (TU p)
theorem Pn (aE:Option Addr) (nE cE:Nat) (vD:Value) (ds:List tw) (dv:List Value) (p:Nat×Nat) (w:World) (hD:SJ w vD ds dv):
  mb Tryz.prog 40 #[.agg #[.slice aE nE cE,vD],.int .i64 p.1,.int .i64 p.2] w λr w'=>r= .bool (GJ p ds)/\Below w.heap.size w w':=by
 have htl:=kj ds.length λk=>((ds.getD k uh).W,dv.getD k undef);have hdm:=hD.sl.maxLen;have hS:=St.init w;obtain⟨aD,cD,hvD,_⟩:=hD.sl.form;rw[htl]at hvD hdm;subst hvD;refine enter Tryz.func40 rfl Tryz.ntmps40 rfl ?_;refine jr ?_;refine jh (lx (new:=[.slice aE nE cE,.slice aD ds.length cD]) rfl rfl hS ?_);intro b3 wz1 hS hBz1;refine V1 ?_;replace hS:St w _ [(b3,29,[.slice aE nE cE,.slice aD ds.length cD])]:=hS;refine J4 ?_;refine jb ?_;refine kG (λρ w'=>GJ p ds=false/\St w w' [(b3,29,[.slice aE nE cE,.slice aD ds.length cD])]) ?_ ?_
 ·refine ja ?_;refine kF (σ:=Nat) (λi ρ w'=>i<=ds.length/\(ds.take i).any (TU p)=false/\ρ 1=iB p.1/\ρ 2=iB p.2/\ρ 12= .slice aD ds.length cD/\ρ 13=iB ds.length/\ρ 14=iB i/\St w w' [(b3,29,[.slice aE nE cE,.slice aD ds.length cD])]) (λi=>ds.length-i) 0
   ⟨aw _,rfl,rfl,rfl,rfl,rfl,rfl,hS⟩ ?_
  clear hS;rintro i ρ w3 ⟨hi,hno,h1,h2,h12,h13,h14,hS⟩;refine V1 ?_;by_cases hlt:i<ds.length
  ·refine V1 ?_;obtain⟨t1,t2⟩:=CS uh hlt hno;have hlg:=hD.lg i hlt;obtain⟨al,cl,hvl,_⟩:=hlg.form;have hel:(kD ds.length λk=>((ds.getD k uh).W,dv.getD k undef)).getD i Ch=((ds.getD i uh).W,.slice al (ds.getD i uh).legs.length cl):=by rw[kB _ _ hlt,hvl]
   rw[hvl]at hlg;obtain⟨d,hd⟩:=jz (ds.getD i uh);rw[<-hd]at hlg t1 t2 hel;have hlm:=hlg.maxLen;refine jr ?_;refine jp (ks (i:=i) h12 h14 (hD.sl.kb hS.kb) oO dO rH (jq (kC (v:=RQ d.W (.slice al d.legs.length cl)) (i:=i) Ch rfl tA (hD.sl.kb hS.kb) oO rfl (by rw[hel];rfl) (.inl rfl) ?_)));refine J1 ?_;intro b8 wz2 hS hBz2;refine J1 ?_;intro wz3 hS;refine ja ?_;replace hS:St w _ [(b8,64,mr (d.W,.slice al d.legs.length cl)),(b3,29,[.slice aE nE cE,.slice aD ds.length cD])]:=hS;refine J4 ?_;refine jb ?_;refine kG (λρ w'=>TU p d=false/\ρ 1=iB p.1/\ρ 2=iB p.2/\ρ 12= .slice aD ds.length cD/\ρ 13=iB ds.length/\ρ 14=iB i/\St w w' [(b3,29,[.slice aE nE cE,.slice aD ds.length cD])]) ?_ ?_
   ·refine ja ?_;refine kF (σ:=Nat) (λj ρ w'=>j<=d.legs.length/\(d.legs.take j).any (λq=>decide (q=p))=false/\ρ 1=iB p.1/\ρ 2=iB p.2/\ρ 12= .slice aD ds.length cD/\ρ 13=iB ds.length/\ρ 14=iB i/\ρ 19= .slice al d.legs.length cl/\ρ 20=iB d.legs.length/\ρ 21=iB j/\St w w' [(b3,29,[.slice aE nE cE,.slice aD ds.length cD])]) (λj=>d.legs.length-j) 0
     ⟨aw _,rfl,h1,h2,h12,h13,h14,rfl,rfl,rfl,hS.drop (ab _ _)⟩ ?_
    clear hS h1 h2 h12 h13 h14;rintro j ρ w4 ⟨hj,hno2,h1,h2,h12,h13,h14,h19,h20,h21,hS⟩;refine V1 ?_;by_cases hjl:j<d.legs.length
    ·refine V1 ?_;obtain⟨z1,z2⟩:=CS (f:=λq:Nat×Nat=>decide (q=p)) (0,0) hjl hno2;obtain⟨q,hq⟩:=jz (d.legs.getD j (0,0));rw[<-hq]at z1 z2;refine jr ?_;refine jp (ks (i:=j) h19 h21 (hlg.kb hS.kb) oO dO nV (jq (kC (i:=j) (0,0) rfl p8 (hlg.kb hS.kb) dO rfl rfl (.inl rfl) ?_)));refine J1 ?_;intro b10 wz4 hS hBz4;refine J1 ?_;intro wz5 hS;refine ja ?_;rw[<-hq]at hS;replace hS:St w _ [(b10,66,nL q),(b3,29,[.slice aE nE cE,.slice aD ds.length cD])]:=hS;by_cases e1:q.1=p.1
     ·by_cases e2:q.2=p.2
      ·refine J5 ?_;refine ko (kd 29 kR rfl dT) (lD rfl qE (lA (kd 29 kR rfl dT) (kP (k:=0) rfl mR hS rfl rfl rfl (.inr rfl) (ko (kd 29 kR rfl dT) (kw h2 (ko (kd 29 kR rfl dT) (qO rfl rfl (jp (kH (vb rfl dT) rfl ?_)))))))));refine J2 ?_;refine jt ?_;refine kJ rfl rfl ?_;have:GJ p ds=true:=t2 (z2 (ai (jP e1 e2)));exact⟨by rw[this];rfl,hS.kb⟩
      ·refine J5 ?_;refine ko (kd 29 kR rfl dT) (lD rfl qE (lA (kd 29 kR rfl dT) (kP (k:=0) rfl mR hS rfl rfl rfl (.inr rfl) (ko (kd 29 kR rfl dT) (kw h2 (ko (kd 29 kR rfl dT) (qO rfl rfl (jp (kH (vb rfl dT) rfl ?_)))))))));refine V3 ?_;exact⟨j+1,_,rfl,⟨hjl,z1 (ae (λh=>e2 (by rw[h]))),jY,jY,jY,jY,jY,jY,jY,vi rfl oO,hS.drop (ab _ _)⟩,oO⟩
     ·refine J5 ?_;refine kS (kg 29 kR rfl dF) (kS (kg 29 kR rfl dF) (kS (kg 29 kR rfl dF) (kS (kg 29 kR rfl dF) (jp (kH (vb rfl dF) rfl ?_)))));refine ja ?_;refine lH rfl (rfl) ?_;refine V2 ?_;exact⟨j+1,_,rfl,⟨hjl,z1 (ae (λh=>e1 (by rw[h]))),jY,jY,jY,jY,jY,jY,jY,vi rfl oO,hS.drop (ab _ _)⟩,oO⟩
    ·refine J1 ?_;refine jt ?_;obtain rfl:j=d.legs.length:=oO;rw[bO]at hno2;exact⟨_,rfl,hno2,h1,h2,h12,h13,h14,hS⟩
   clear hS h1 h2 h12 h13 h14;rintro ρ w5 ⟨hn2,h1,h2,h12,h13,h14,hS⟩;refine V2 ?_;exact⟨i+1,_,rfl,⟨hlt,t1 hn2,jY,jY,jY,jY,vi rfl oO,hS⟩,oO⟩
  ·refine J1 ?_;refine jt ?_;obtain rfl:i=ds.length:=oO;rw[bO]at hno;exact⟨_,rfl,hno,hS⟩
 clear hS;rintro ρ w3 ⟨hno,hS⟩;refine J1 ?_;refine jt ?_;refine kJ rfl rfl ?_;exact⟨by rw[hno];rfl,hS.kb⟩
theorem RL (k n:Nat) (w:World) (hk:k<=1000) (hn:n<=1000):
  mb Tryz.prog 14 #[.int .i64 k,.int .i64 n] w λr w'=>r= .int .i64 (if n=0 then 0 else k%n:Nat)/\Below w.heap.size w w':=by
 have hS:=St.init w;refine enter Tryz.func14 rfl Tryz.ntmps14 rfl ?_;refine V3 ?_;by_cases h:n=0
 ·refine J2 ?_;refine jt ?_;refine kJ rfl rfl ?_;exact⟨vi rfl (by rw[aj h];rfl),hS.kb⟩
 ·refine V1 ?_;have h1:0<=(k:Int)% (n:Int):=Int.emod_nonneg _ oO;have h2:(k:Int)% (n:Int)<n:=Int.emod_lt_of_pos _ oO;refine J2 ?_;refine jp (pF rfl rfl oO (dQ oO) ?_);refine J3 ?_;refine jp (pF rfl rfl oO (dQ oO) ?_);refine J1 ?_;refine jt ?_;refine kJ rfl rfl ?_;exact⟨vi rfl (by rw[ah h,Int.add_emod_right,Int.emod_emod];rfl),hS.kb⟩
def pC (x:Nat->Nat):List Value:=[.int .u16 (x 0),.int .u16 (x 1),.int .u16 (x 2)]
def zA (x:Nat->Nat):List Value:=[.int .u16 (x 0),.int .u16 (x 1),.int .u16 (x 2),.int .u16 (x 3)]
def Mz (b i:Nat):Nat:=b/2^(2*i)%4
def zL (p:Nat->Nat) (i:Nat):n9:=if p 2/2^i%2=1 then⟨(i:Int),true,((p 2/64%9:Nat):Int)⟩else⟨(i:Int),false,0⟩
def pw (A:List (List (List n9))) (p:Nat->Nat):Nat->Nat->List n9
 |0,_=>[]
 |i+1,t=>if Mz (p 1) i=t+1/\FI i A=false then pw A p i t++[zL p i]else pw A p i t
def SA (p:Nat->Nat):n9:=⟨-1,true,((p 0/96%7:Nat):Int)⟩
def xj (A:List (List (List n9))) (n:Nat) (p:Nat->Nat):List (List n9):=kD 3 λt=>if p 0/8%4=0/\t=p 0/32%3 then pw A p n t++[SA p]else pw A p n t
theorem WZ {m:Nat} (hm:m<2^63):qg .and .i64 (m:Int) 3=((m%4:Nat):Int):=by
 have:=Mh m 3 hm dD;rw[show m&&&3=m%4 from gN m 2]at this;exact this
theorem Wl {m:Nat} (hm:m<2^63):qg .and .i64 (m:Int) 1=((m%2:Nat):Int):=by
 have:=Mh m 1 hm dD;rw[show m&&&1=m%2 from gN m 1]at this;exact this
theorem s9 {m n:Nat} (h:m<65536):m/n<65536:=bZ (dx _ _) h
theorem yX (A:List (List (List n9))) (p:Nat->Nat):∀i t,(pw A p i t).length<=i
 |0,_=>aB _
 |i+1,t=>by
  have:=yX A p i t;unfold pw;split
  ·rw[ax];show _+1<=_;omega
  ·omega
theorem PR (i:Int):Tryz.prog.built 85 [(0,.int .i64 i)]=some #[.int .i64 i,.bool false,.bool false,.string ⟨#[]⟩,.string ⟨#[]⟩]:=by kernel_rfl
theorem My (i:Int) (b:Bool) (r:RR):Tryz.prog.built 85 [(0,.int .i64 i),(1,.bool b),(2,lC r)]=some #[.int .i64 i,.bool b,.bool r.neg,.string r.num,.string r.den]:=by kernel_rfl
theorem Ok (a:Option Addr) (n c:Nat):Tryz.prog.built 82 [(0,.slice a n c)]=some #[.slice a n c]:=by kernel_rfl
theorem Su {α:Type} {enc:α->List Value} {sz b n:Nat} {t:TypeId} {X:List α} (hu:∀x,(enc x).length=sz) (hx:X.length=n) (hm:n<=1000):Gl enc t sz (.slice (some ⟨b,0,none⟩) n n) X [(b,t,X.flatMap enc)]:=
 ⟨lO hu _,.inr ⟨b,n,[],by rw[hx],by rw[aK],oO,by unfold Go.maxLen;omega,by rw[aK,lO hu,hx]⟩⟩
theorem Fh {α:Type} {l:List α} {i:Nat} (d:α) (h:i<l.length):l[i]?=some (l.getD i d):=by rw[ak,aF h];rfl
theorem Pt (m n:Nat) (hm:m<65536):IntKind.u16.wrap ((m:Int).tdiv n)=((m/n:Nat):Int):=by
 rw[Kv];have:=s9 (n:=n) hm;generalize m/n=k at*;exact fV _ oO
theorem UR (i:Int):([.int .i64 i,.bool false,.bool false,.string ⟨#[]⟩,.string ⟨#[]⟩]:List Value)=nF ⟨i,false,0⟩:=by
 show _=_::_::ke (ki 0);rw[oD];rfl
theorem L8.one {w:World} {v:Value} {A:List (List (List n9))} {av:List Value} {pv:List (List Value)} (h:L8 w v A av pv):∀u∈av.flatMap se,u.oneCell'=true:=λu hu=>by
 rw[CQ]at hu;obtain⟨k,hk,e⟩:=dY hu;obtain⟨a,c,h1,_⟩:=(h.m k (by rw[<-h.len];exact hk)).sl.form;rw[ak,aF hk]at h1;have h2:u=_:=e.symm.trans h1;rw[h2];rfl
theorem Vo (A:List (List (List n9))) (p:Nat->Nat):mK nF 85 5 [kp,kp,kp] (kD 3 λt=>pw A p 0 t) [[],[],[]]:=by
 have h0:(kD 3 λt=>pw A p 0 t)=[[],[],[]]:=rfl;rw[h0];exact((mK.nil.snoc (Gl.nil _ _ _)).snoc (Gl.nil _ _ _)).snoc (Gl.nil _ _ _)
theorem NP (q:Rat) (aC:Option Addr) (n cC:Nat) (vA:Value) (A:List (List (List n9))) (av:List Value) (pv:List (List Value)) (p:Nat->Nat) (w:World) (hA:L8 w vA A av pv) (hn:n<=10) (hp:∀i,i<3->p i<65536) (ha:A.length<=10):
  mb Tryz.prog 21 #[Na q (.slice aC n cC) vA,.agg (pC p).toArray] w λr w'=>∃x vs LO D,Gl se 82 1 r (av++[x]) LO/\(∀wz wx,St wz wx D->rB nF 5 wx x (xj A n p) vs)/\St w w' (LO++D):=by
 have hal:=hA.len;have hp0:=hp 0 dD;have hp1:=hp 1 dD;have hp2:=hp 2 dD;have hS:=St.init w;obtain⟨aA,cA,hvA,_⟩:=hA.sl.form;subst hvA;refine enter Tryz.func21 rfl Tryz.ntmps21 rfl ?_;refine jr ?_;refine jh (lx (new:=[.bool (ki q).neg,.string (ki q).num,.string (ki q).den,.slice aC n cC,.slice aA av.length cA]) rfl rfl hS ?_);intro b2 wz1 hS hBz1;refine jh (lx (new:=pC p) rfl rfl hS ?_);intro b3 wz2 hS hBz2;refine V1 ?_;replace hS:St w _ [(b3,70,pC p),(b2,51,[.bool (ki q).neg,.string (ki q).num,.string (ki q).den,.slice aC n cC,.slice aA av.length cA])]:=hS;refine jr ?_;refine jh (mq (enc:=se) (n:=3) kp rfl rfl yi rfl oO oO oO oO hS ?_);intro bt wz3 hS hBz3;refine V1 ?_;replace hS:St w _ ([(bt,83,([kp,kp,kp]).flatMap se),(b3,70,pC p),(b2,51,[.bool (ki q).neg,.string (ki q).num,.string (ki q).den,.slice aC n cC,.slice aA av.length cA])]++([[],[],[]]:List (List lj)).flatten):=hS;refine jr ?_;refine jp (uu (n:=3) (i:=1) rfl rfl rfl dD Tryz.underlying70 pZ ?_);refine J7 ?_;refine jb ?_;refine kG (λρ w'=>(ρ 2=pB b2/\ρ 3=pB b3/\ρ 5= .slice (some ⟨bt,0,none⟩) 3 3)/\∃vs LL,mK nF 85 5 vs (kD 3 λt=>pw A p n t) LL/\St w w' ([(bt,83,(vs).flatMap se),(b3,70,pC p),(b2,51,[.bool (ki q).neg,.string (ki q).num,.string (ki q).den,.slice aC n cC,.slice aA av.length cA])]++LL.flatten)) ?_ ?_
 ·refine ja ?_;refine kF (σ:=Nat) (λi ρ w'=>i<=n/\(ρ 2=pB b2/\ρ 3=pB b3/\ρ 5= .slice (some ⟨bt,0,none⟩) 3 3)/\ρ 6=iB (p 1)/\ρ 17=iB n/\ρ 18=iB i/\∃vs LL,mK nF 85 5 vs (kD 3 λt=>pw A p i t) LL/\St w w' ([(bt,83,(vs).flatMap se),(b3,70,pC p),(b2,51,[.bool (ki q).neg,.string (ki q).num,.string (ki q).den,.slice aC n cC,.slice aA av.length cA])]++LL.flatten)) (λi=>n-i) 0
   ⟨aw _,⟨rfl,rfl,rfl⟩,rfl,rfl,rfl,_,_,Vo A p,hS⟩ ?_
  clear hS;rintro i ρ w3 ⟨hi,⟨h2,h3,h5⟩,h6,h17,h18,vs,LL,hR,hS⟩;have hvl:=hR.len;have hll:=hR.ln;rw[kj]at hvl hll;refine V1 ?_;by_cases hlt:i<n
  ·refine J5 ?_;refine jp (wF rfl rfl (ct _ oO) (jp (kT rfl Tryz.underlying94 ⟨_,Tryz.underlying3⟩ (r:=((2*i:Nat):Int)) (by exact lE _ ⟨oO,oO,oO⟩) (jp (qu rfl rfl oO (qN (p 1) (2*i) (by show _<=64;omega)) (jp (EZ rfl rfl (r:=((Mz (p 1) i:Nat):Int)) (by exact WZ (by have:=s9 (n:=2^(2*i)) hp1;omega)) ?_)))))));refine V1 ?_;obtain⟨g,hg⟩:=jz (Mz (p 1) i);rw[<-hg];by_cases hg0:g=0
   ·refine J3 ?_;refine kS (kg 29 kR rfl dT) (kS (kg 29 kR rfl dT) (kS (kg 29 kR rfl dT) (kS (kg 29 kR rfl dT) (jp (kH (vb rfl dT) rfl ?_)))));refine ja ?_;refine lu rfl (rfl) ?_;refine jt ?_;have e:(kD 3 λt=>pw A p (i+1) t)=kD 3 λt=>pw A p i t:=kN λt _=>by
     show(if _ then _ else _)=_;rw[ah (by rintro⟨h,_⟩;omega)]
    refine V2 ?_;exact⟨i+1,_,rfl,⟨hlt,⟨jY,jY,jY⟩,jY,jY,vi rfl oO,vs,LL,by rw[e];exact hR,hS⟩,oO⟩
   ·refine J3 ?_;refine lA (kd 29 kR rfl dF) (kP (k:=2) (v:=Na q (.slice aC n cC) (.slice aA av.length cA)) h2 ua hS rfl rfl rfl (.inl rfl) (ko (kd 29 kR rfl dF) (kw rfl (oZ (kd 29 kR rfl dF) (kf Tryz.call39 rfl (RX q aC n cC _ A av pv i _ (hA.kb hS.kb)) ?_)))));rintro r w4 ⟨rfl,hB4⟩;replace hS:=hS.kx hB4;refine ko (kd 29 kR rfl dF) (xb rfl (jp (kH (vb rfl dF) rfl ?_)));refine ja ?_;rw[Bool.not_not];cases hh:FI i A with
    |true=>
     refine lu rfl (rfl) ?_;refine jt ?_;have e:(kD 3 λt=>pw A p (i+1) t)=kD 3 λt=>pw A p i t:=kN λt _=>by
      show(if _ then _ else _)=_;rw[ah (by rintro⟨_,h⟩;rw[hh]at h;cases h)]
     refine V2 ?_;exact⟨i+1,_,rfl,⟨hlt,⟨jY,jY,jY⟩,jY,jY,vi rfl oO,vs,LL,by rw[e];exact hR,hS⟩,oO⟩
    |false=>
     refine lH rfl (rfl) ?_;refine ja ?_;obtain⟨t,ht⟩:∃t,g=t+1:=⟨g-1,oO⟩;have ht3:t<3:=by
      have:Mz (p 1) i<4:=bl _ dD;omega
     refine J1 ?_;refine jp (lr rfl (PR _) ?_);refine J1 ?_;intro bp wz4 hS hBz4;refine J1 ?_;intro wz5 hS;refine ja ?_;replace hS:St w _ ([(bp,85,nF ⟨i,false,0⟩),(bt,83,(vs).flatMap se),(b3,70,pC p),(b2,51,[.bool (ki q).neg,.string (ki q).num,.string (ki q).den,.slice aC n cC,.slice aA av.length cA])]++LL.flatten):=hS.cast (by rw[<-UR];rfl);refine jr ?_;refine jp (uu (n:=3) (i:=2) h3 rfl rfl dD Tryz.underlying70 pZ ?_);refine J3 ?_;refine jp (kT rfl Tryz.underlying94 ⟨_,Tryz.underlying3⟩ (r:=((i:Nat):Int)) (by exact lE _ ⟨rfl,oO,oO⟩) (jp (qu rfl rfl oO (qN (p 2) i (by show _<=64;omega)) (jp (EZ rfl rfl (r:=((p 2/2^i%2:Nat):Int)) (by exact Wl (by have:=s9 (n:=2^i) hp2;omega)) ?_)))));refine J1 ?_;refine jb ?_;refine kG (λρ w'=>(ρ 2=pB b2/\ρ 3=pB b3/\ρ 5= .slice (some ⟨bt,0,none⟩) 3 3)/\ρ 6=iB (p 1)/\ρ 8=iB g/\ρ 9=pB bp/\ρ 17=iB n/\ρ 18=iB i/\St w w' ([(bp,85,nF (zL p i)),(bt,83,(vs).flatMap se),(b3,70,pC p),(b2,51,[.bool (ki q).neg,.string (ki q).num,.string (ki q).den,.slice aC n cC,.slice aA av.length cA])]++LL.flatten)) ?_ ?_
     ·refine ja ?_;by_cases hb:p 2/2^i%2=1
      ·refine J2 ?_;refine jh (oX (k:=0) rfl rfl qB hS rfl dM rfl ?_);intro wz6 hS;refine ja ?_;have h9:p 2/64<65536:=s9 hp2;refine jr ?_;refine jp (uu (n:=3) (i:=2) h3 rfl rfl dD Tryz.underlying70 pZ ?_);refine J1 ?_;refine jp (qu rfl rfl oO (r:=((p 2/64:Nat):Int)) (by exact qN (k:= .u16) _ 6 dD) ?_);refine J1 ?_;refine jp (pF rfl rfl oO (r:=((p 2/64%9:Nat):Int)) (by exact o6 _ 9) (jh (kf Tryz.call38 rfl (zg ((p 2/64%9:Nat):Int) _ oO oO) ?_)));rintro r w5 ⟨rfl,hB5⟩;replace hS:=hS.kx hB5;refine J2 ?_;intro wz7 hS;refine ja ?_;refine⟨_,rfl,⟨jY,jY,jY⟩,jY,rfl,rfl,jY,jY,?_⟩;unfold zL;rw[aj hb];exact hS
      ·refine V1 ?_;refine⟨_,rfl,⟨jY,jY,jY⟩,jY,rfl,rfl,jY,jY,?_⟩;unfold zL;rw[ah hb];exact hS
     clear hS h2 h3 h5 h6 h17 h18;rintro ρ w6 ⟨⟨h2,h3,h5⟩,h6,h8,h9,h17,h18,hS⟩;rw[ht]at h8;have hLt:=Fh ([]:List lj) (show t<LL.length by omega);replace hS:=ns hS hLt;have hGt:=hR.g t (by rw[kj];exact ht3);have hXt:(kD 3 λt=>pw A p i t).getD t []=pw A p i t:=kB _ _ ht3;rw[hXt]at hGt;have hfl:=yX A p i t;obtain⟨x,hx⟩:=jz (zL p i);rw[<-hx]at hS;refine ja ?_;refine kK [jo 0,jo 1,jo 2,jo 3,jo 4,jo 5,jo 6,ju 7,ju 8,jv 9,jw 10,jo 11,jw 12] kR kR hS ?_;intro wz8 hS hBz8;refine J6 ?_;refine jl rfl (kM (i:=t) rfl rfl oO dO yi ?_);refine jm rfl (Ti (k:=1) (i:=t) (enc:=se) undef (λ_=>rfl) rfl y8 hS rfl (by first|omega|simp) dO rfl (.inr rfl) ?_);refine J1 ?_;refine jn rfl (np (vs:=[_]) rfl wC rfl dD dD dD (by simp[Value.cells,sA]) rfl hS ?_);intro b9 wz10 hS hBz10;refine⟨hBz10,?_⟩;refine jx rfl (mO [x] rfl rfl wC dD hGt hS rfl rfl sA (AE [x]) dL dL ?_);intro va11 La11 wa11 hGt hS hga11;obtain⟨aX,cX,hvX⟩:=hGt.len;subst hvX;refine jl rfl (kM (i:=t) rfl rfl oO dO yi ?_);refine jx rfl (Aa (k:=1) (i:=t) (enc:=se) (.slice aX (pw A p i t++[x]).length cX) (λ_=>rfl) rfl rfl y8 hS rfl (by simp) oO rfl rfl ?_);intro wz12 hS;refine ja ?_;replace hS:St w _ (([(bp,85,nF x),(bt,83,(vs.set t (.slice aX (pw A p i t++[x]).length cX)).flatMap se),(b3,70,pC p),(b2,51,[.bool (ki q).neg,.string (ki q).num,.string (ki q).den,.slice aC n cC,.slice aA av.length cA])]++(LL.set t []).flatten)++La11):=hS;have hS9:=(nJ (P:=[_,_,_,_]) (Ls:=LL) (k:=t) hS oO).drop (ab _ _);have hR2:=hR.DV (i:=t) (by rw[kj];exact ht3) hGt;have e:(kD 3 λt=>pw A p i t).set t (pw A p i t++[x])=kD 3 λt=>pw A p (i+1) t:=by
      rw[mZ];refine kN λj _=> ?_;show _=if _ then _ else _
      by_cases ej:j=t
      ·rw[aj ej,aj ⟨by rw[<-hg,ht,ej],hh⟩,hx,ej]
      ·rw[ah ej,ah (by rintro⟨h,_⟩;omega)]
     rw[e]at hR2;refine V2 ?_;exact⟨i+1,_,rfl,⟨hlt,⟨jY,jY,jY⟩,jY,jY,vi rfl oO,_,_,hR2,hS9⟩,oO⟩
  ·refine J1 ?_;refine jt ?_;obtain rfl:i=n:=oO;exact⟨_,rfl,⟨h2,h3,h5⟩,vs,LL,hR,hS⟩
 clear hS;rintro ρ w3 ⟨⟨h2,h3,h5⟩,vs,LL,hR,hS⟩;have hvl:=hR.len;have hll:=hR.ln;rw[kj]at hvl hll;have h8:p 0/8<65536:=s9 hp0;have h32:p 0/32<65536:=s9 hp0;have h96:p 0/96<65536:=s9 hp0;refine jr ?_;refine jp (uu (n:=3) (i:=0) h3 rfl rfl dD Tryz.underlying70 pZ ?_);refine J1 ?_;refine jp (sf rfl rfl oO (r:=((p 0/8:Nat):Int)) (by exact Pt _ 8 hp0) (jp (pF rfl rfl oO (r:=((p 0/8%4:Nat):Int)) (by exact o6 _ 4) ?_)));refine J1 ?_;refine jb ?_;refine kG (λρ w'=>(ρ 2=pB b2/\ρ 3=pB b3/\ρ 5= .slice (some ⟨bt,0,none⟩) 3 3)/\∃vs LL,mK nF 85 5 vs (xj A n p) LL/\St w w' ([(bt,83,(vs).flatMap se),(b3,70,pC p),(b2,51,[.bool (ki q).neg,.string (ki q).num,.string (ki q).den,.slice aC n cC,.slice aA av.length cA])]++LL.flatten)) ?_ ?_
 ·refine ja ?_;by_cases hr:p 0/8%4=0
  ·refine V1 ?_;obtain⟨t,ht⟩:=jz (p 0/32%3);have ht3:t<3:=by rw[ht];exact bl _ dD
   refine jr ?_;refine jp (uu (n:=3) (i:=0) h3 rfl rfl dD Tryz.underlying70 pZ ?_);refine J1 ?_;refine jp (sf rfl rfl oO (r:=((p 0/32:Nat):Int)) (by exact Pt _ 32 hp0) (jp (pF rfl rfl oO (r:=((p 0/32%3:Nat):Int)) (by exact o6 _ 3) ?_)));refine V2 ?_;rw[<-ht];have hLt:=Fh ([]:List lj) (show t<LL.length by omega);replace hS:=ns hS hLt;have hGt:=hR.g t (by rw[kj];exact ht3);have hXt:(kD 3 λt=>pw A p n t).getD t []=pw A p n t:=kB _ _ ht3;rw[hXt]at hGt;have hfl:=yX A p n t;refine ja ?_;refine kK [jo 0,jo 1,jo 2,jo 3,jo 4,ju 5,jo 6,ju 7,jo 8,jo 9,jo 10,jv 11,jo 12,jv 13,jw 14,jo 15,jw 16] kR kR hS ?_;intro wz13 hS hBz13;refine J4 ?_;refine jl rfl (kM (i:=t) rfl rfl oO dO yi ?_);refine jm rfl (Ti (k:=0) (i:=t) (enc:=se) undef (λ_=>rfl) rfl y8 hS rfl (by first|omega|simp) dO rfl (.inr rfl) ?_);refine jl rfl (uu (n:=3) (i:=0) h3 rfl rfl dD Tryz.underlying70 pZ ?_);refine J1 ?_;refine jl rfl (sf rfl rfl oO (r:=((p 0/96:Nat):Int)) (by exact Pt _ 96 hp0) ?_);refine J1 ?_;refine jl rfl (pF rfl rfl oO (r:=((p 0/96%7:Nat):Int)) (by exact o6 _ 7) (jn rfl (kf Tryz.call38 rfl (zg ((p 0/96%7:Nat):Int) _ oO oO) ?_)));rintro r w5 ⟨rfl,hB5⟩;refine⟨hB5,?_⟩;replace hS:=hS.kx hB5;obtain⟨x,hx⟩:=jz (SA p);have hxv:nF x=[.int .i64 (-1),.bool true,.bool (ki (((p 0/96%7:Nat):Int):Rat)).neg,.string (ki (((p 0/96%7:Nat):Int):Rat)).num,.string (ki (((p 0/96%7:Nat):Int):Rat)).den]:=by rw[hx];rfl
   refine jl rfl (lr rfl (My _ _ _) (jn rfl (np (vs:=[_]) rfl wC rfl dD dD dD (by simp[Value.cells]) rfl hS ?_)));intro b14 wz15 hS hBz15;refine⟨hBz15,?_⟩;rw[show([Value.agg #[.int .i64 (-1),.bool true,.bool (ki (((p 0/96%7:Nat):Int):Rat)).neg,.string (ki (((p 0/96%7:Nat):Int):Rat)).num,.string (ki (((p 0/96%7:Nat):Int):Rat)).den]]).flatMap (λv=>v.cells.toList)=[x].flatMap nF from(by rw[da,da,hxv];rfl)]at hS;refine jx rfl (mO [x] rfl rfl wC dD hGt hS rfl rfl sA (AE [x]) dL dL ?_);intro va16 La16 wa16 hGt hS hga16;obtain⟨aX,cX,hvX⟩:=hGt.len;subst hvX;refine jl rfl (kM (i:=t) rfl rfl oO dO yi ?_);refine jx rfl (Aa (k:=0) (i:=t) (enc:=se) (.slice aX (pw A p n t++[x]).length cX) (λ_=>rfl) rfl rfl y8 hS rfl (by simp) oO rfl rfl ?_);intro wz17 hS;refine ja ?_;replace hS:St w _ (([(bt,83,(vs.set t (.slice aX (pw A p n t++[x]).length cX)).flatMap se),(b3,70,pC p),(b2,51,[.bool (ki q).neg,.string (ki q).num,.string (ki q).den,.slice aC n cC,.slice aA av.length cA])]++(LL.set t []).flatten)++La16):=hS;have hS9:=nJ (P:=[_,_,_]) (Ls:=LL) (k:=t) hS oO;have hR2:=hR.DV (i:=t) (by rw[kj];exact ht3) hGt;have e:(kD 3 λt=>pw A p n t).set t (pw A p n t++[x])=xj A n p:=by
    rw[mZ];refine kN λj _=> ?_;by_cases ej:j=t
    ·rw[aj ej,aj ⟨hr,by rw[ej,ht]⟩,hx,ej]
    ·rw[ah ej,ah (λh=>ej (by rw[h.2,ht]))]
   rw[e]at hR2;exact⟨_,rfl,⟨jY,jY,jY⟩,_,_,hR2,hS9⟩
  ·refine V1 ?_;have e:(kD 3 λt=>pw A p n t)=xj A n p:=kN λt _=>by rw[ah (λh=>hr h.1)]
   rw[e]at hR;exact⟨_,rfl,⟨jY,jY,jY⟩,vs,LL,hR,hS⟩
 clear hS h2 h3 h5 hR hvl hll;clear vs LL;rintro ρ w6 ⟨⟨h2,h3,h5⟩,vs,LL,hR,hS⟩;have hvl:=hR.len;have hxl:(xj A n p).length=3:=kj _ _;rw[hxl]at hvl;refine J2 ?_;refine jh (Cg rfl rfl E3 dD hS (hA.sl.kb hS.kb) (λ_=>rfl) hA.one dL dL ?_);intro va18 La18 wa18 hGa hS hBa18;refine J1 ?_;refine jp (lr rfl (Ok _ _ _) (jh (np (vs:=[_]) rfl E3 rfl dD dD dD (by simp[Value.cells]) rfl hS ?_)));intro b19 wz20 hS hBz20;refine jh (mO [.slice (some ⟨bt,0,none⟩) 3 3] rfl rfl E3 dD hGa hS rfl rfl (λ_=>rfl) (DT _ rfl) dL dL ?_);intro va21 La21 wa21 hGa hS hga21;refine J1 ?_;refine jt ?_;refine kJ rfl rfl ?_;obtain⟨LO,hLO⟩:=jz La21;rw[<-hLO]at hGa hS;replace hS:St w _ (([(bt,83,vs.flatMap se),(b3,70,pC p),(b2,51,[.bool (ki q).neg,.string (ki q).num,.string (ki q).den,.slice aC n cC,.slice aA av.length cA])]++LL.flatten)++LO):=hS;have hGt:=Su (enc:=se) (b:=bt) (t:=83) (n:=3) (X:=vs) (λ_=>rfl) hvl dD;refine⟨.slice (some ⟨bt,0,none⟩) 3 3,vs,LO,[(bt,83,vs.flatMap se)]++LL.flatten,hGa,λwz wx hx=>hR.Lc hGt hx (Q:=[]) (hx.drop (ap _ _)) sA,?_⟩;have h9:(([(bt,83,vs.flatMap se)]++LL.flatten)++LO).Sublist (([(bt,83,vs.flatMap se),(b3,70,pC p),(b2,51,[.bool (ki q).neg,.string (ki q).num,.string (ki q).den,.slice aC n cC,.slice aA av.length cA])]++LL.flatten)++LO):=
  bk (bk (List.Sublist.cons_cons _ (gO _)) (bI _)) (bI _)
 exact(hS.drop h9).perm ay
structure QL where
 k:Nat
 ho:Int
 l:List (Nat×Nat)
def ry (ds:List tw) (d:Nat->Nat) (i:Nat) (x:qn) (c:Nat) (s:QL):QL:=
 if GJ (i,c) ds=true\/4<=s.l.length then s else if d 0/2^(s.k%16)%2=1/\(s.l=[]\/x.h=s.ho)then⟨s.k+1,x.h,s.l++[(i,c)]⟩else⟨s.k+1,s.ho,s.l⟩
def IG (ds:List tw) (d:Nat->Nat) (i:Nat) (cl:List qn):Nat->QL->QL
 |0,s=>s
 |c+1,s=>ry ds d i (cl.getD c nK) c (IG ds d i cl c s)
def JT (ds:List tw) (d:Nat->Nat) (cl:Nat->List qn):Nat->QL
 |0=>⟨0,0,[]⟩
 |i+1=>IG ds d i (cl i) (cl i).length (JT ds d cl i)
def R4 (ds:List tw) (d:Nat->Nat) (cl:Nat->List qn) (n:Nat):List (Nat×Nat):=if d 1%2=1 then(JT ds d cl n).l.reverse else(JT ds d cl n).l
theorem ON (ds:List tw) (d:Nat->Nat) (i:Nat) (x:qn) (c:Nat) (s:QL):(ry ds d i x c s).k<=s.k+1:=by
 unfold ry;split
 ·omega
 ·split<;>exact aB _
theorem NT (ds:List tw) (d:Nat->Nat) (i:Nat) (x:qn) (c:Nat) (s:QL) (h:s.l.length<=4):(ry ds d i x c s).l.length<=4:=by
 unfold ry;split
 ·exact h
 ·rename_i h1;split
  ·show(s.l++[_]).length<=4;rw[ax];show _+1<=4;have:=λh=>h1 (.inr h);omega
  ·exact h
theorem N9 (ds:List tw) (d:Nat->Nat) (i:Nat) (cl:List qn) (s:QL) (h:s.l.length<=4):∀c,(IG ds d i cl c s).k<=s.k+c/\(IG ds d i cl c s).l.length<=4
 |0=>⟨aB _,h⟩
 |c+1=>by
  obtain⟨h1,h2⟩:=N9 ds d i cl s h c;have:=ON ds d i (cl.getD c nK) c (IG ds d i cl c s);exact⟨by show(ry _ _ _ _ _ _).k<=_;omega,NT _ _ _ _ _ _ h2⟩
theorem KW (ds:List tw) (d:Nat->Nat) (cl:Nat->List qn) (n:Nat) (h:∀i,i<n->(cl i).length<=10):∀i,i<=n->(JT ds d cl i).k<=10*i/\(JT ds d cl i).l.length<=4
 |0,_=>⟨aB _,aw _⟩
 |i+1,hi=>by
  obtain⟨h1,h2⟩:=KW ds d cl n h i oO;obtain⟨h3,h4⟩:=N9 ds d i (cl i) _ h2 (cl i).length;have:=h i oO;exact⟨by show(IG _ _ _ _ _ _).k<=_;omega,h4⟩
def GN (l:List (Nat×Nat)) (i:Nat):List (Nat×Nat):=kD l.length λk=>if k<i\/l.length-1-k<i then l.getD (l.length-1-k) (0,0)else l.getD k (0,0)
theorem Gh (l:List (Nat×Nat)) (i:Nat):(GN l i).length=l.length:=kj _ _
theorem OS (l:List (Nat×Nat)):GN l 0=l:=by
 refine(kN λk hk=> ?_).trans (Ju l (0,0)).symm;rw[ah oO]
theorem R2 (l:List (Nat×Nat)) (i:Nat) (h:l.length<=2*i+1):GN l i=l.reverse:=by
 refine(kN (g:=λk=>l.reverse.getD k (0,0)) λk hk=> ?_).trans ?_
 ·have:l.reverse.getD k (0,0)=l.getD (l.length-1-k) (0,0):=by
   rw[ak,ak,gI hk]
  rw[this];by_cases e:k<i\/l.length-1-k<i
  ·rw[aj e]
  ·rw[ah e,show l.length-1-k=k by omega]
 ·have:=Ju l.reverse (0,0);rw[fF]at this;exact this.symm
theorem HM (l:List (Nat×Nat)) (i:Nat) (h:2*i+1<l.length):((GN l i).set i (l.getD (l.length-1-i) (0,0))).set (l.length-1-i) (l.getD i (0,0))=GN l (i+1):=by
 unfold GN;rw[mZ,mZ];refine kN λk hk=> ?_;by_cases e1:k=l.length-1-i
 ·rw[aj e1,aj oO,show l.length-1-k=i by omega]
 ·rw[ah e1];by_cases e2:k=i
  ·rw[aj e2,aj oO,e2]
  ·rw[ah e2];by_cases e:k<i\/l.length-1-k<i
   ·rw[aj e,aj oO]
   ·rw[ah e,ah oO]
theorem LH (l:List (Nat×Nat)) (i k:Nat) (hk:k<l.length) (h:¬(k<i\/l.length-1-k<i)):(GN l i).getD k (0,0)=l.getD k (0,0):=by
 unfold GN;rw[kB _ _ hk,ah h]
structure WI (w:World) (vE:Value) (n:Nat) (q:Nat->Rat) (ev:Nat->Value×Value) (cl:Nat->List qn):Prop where
 es:Sl kI 5 w vE (kD n λi=>(q i,ev i))
 cl:∀i,i<n->Sl lz 5 w (ev i).1 (cl i)
theorem EO (xs:List (Nat×Nat)):∀u∈xs.flatMap nL,u.oneCell'=true:=by
 intro u hu;rw[dK]at hu;obtain⟨x,_,h⟩:=hu;simp only[nL,bM,cG,fS]at h;rcases h with rfl|rfl<;>rfl
theorem SJ.one {w:World} {vD:Value} {ds:List tw} {dv:List Value} (h:SJ w vD ds dv):∀u∈(kD ds.length λk=>((ds.getD k uh).W,dv.getD k undef)).flatMap mr,u.oneCell'=true:=by
 intro u hu;rw[dK]at hu;obtain⟨x,hx,h2⟩:=hu;obtain⟨k,hk,rfl⟩:=tG hx;obtain⟨a,c,h3,_⟩:=(h.lg k hk).form;simp only[mr,ke,bY,ce,bM,cG,fS]at h2;rcases h2 with rfl|rfl|rfl|rfl
 ·rfl
 ·rfl
 ·rfl
 ·rw[h3];rfl
theorem De (W:Rat) (a:Option Addr) (n c:Nat):∀u∈[(W,Value.slice a n c)].flatMap mr,u.oneCell'=true:=by
 intro u hu;rw[da]at hu;simp only[mr,ke,bY,ce,bM,cG,fS]at hu;rcases hu with rfl|rfl|rfl|rfl<;>rfl
theorem Qt (r:RR):Tryz.prog.built 64 [(0,lC r)]=some #[.bool r.neg,.string r.num,.string r.den,kp]:=by kernel_rfl
theorem Hx (i c:Int):Tryz.prog.built 66 [(0,.int .i64 i),(1,.int .i64 c)]=some #[.int .i64 i,.int .i64 c]:=by kernel_rfl
theorem UH {vE vD:Value} {n:Nat} {q:Nat->Rat} {ev:Nat->Value×Value} {cl:Nat->List qn} {ds:List tw} {dv:List Value} (d:Nat->Nat) (w:World) (hE:WI w vE n q ev cl) (hD:SJ w vD ds dv) (hd:∀i,i<3->d i<65536) (hn:n<=10) (hc:∀i,i<n->(cl i).length<=10) (hds:ds.length<=10):
  mb Tryz.prog 22 #[.agg #[vE,vD],.agg (pC d).toArray] w λr w'=>∃vL LO D,Gl mr 64 4 r ((kD ds.length λk=>((ds.getD k uh).W,dv.getD k undef))++[(o9 (d 2),vL)]) LO/\(∀wz wx,St wz wx D->Sl nL 2 wx vL (R4 ds d cl n))/\St w w' (LO++D):=by
 have htn:=kj n λi=>(q i,ev i);have htd:=kj ds.length λk=>((ds.getD k uh).W,dv.getD k undef);have hd0:=hd 0 dD;have hd1:=hd 1 dD;have hd2:=hd 2 dD;have hS:=St.init w;obtain⟨aE,cE,hvE,_⟩:=hE.es.form;obtain⟨aD,cD,hvD,_⟩:=hD.sl.form;rw[htn]at hvE;rw[htd]at hvD;subst hvE hvD;refine enter Tryz.func22 rfl Tryz.ntmps22 rfl ?_;refine jr ?_;refine jh (lx (new:=[.slice aE n cE,.slice aD ds.length cD]) rfl rfl hS ?_);intro b2 wz1 hS hBz1;refine jh (lx (new:=pC d) rfl rfl hS ?_);intro b3 wz2 hS hBz2;refine V1 ?_;replace hS:St w _ [(b3,70,pC d),(b2,29,[.slice aE n cE,.slice aD ds.length cD])]:=hS;refine jr ?_;refine jp (uu (n:=3) (i:=2) rfl rfl rfl dD Tryz.underlying70 pZ ?_);refine J1 ?_;refine jh (kf Tryz.call20 rfl (x7 (d 2) _ hd2) ?_);rintro r w3 ⟨rfl,hB3⟩;replace hS:=hS.kx hB3;refine jp (lr rfl (Qt _) ?_);refine J1 ?_;intro b5 wz3 hS hBz3;refine J1 ?_;intro wz4 hS;refine ja ?_;replace hS:St w _ ([(b5,64,mr (o9 (d 2),kp)),(b3,70,pC d),(b2,29,[.slice aE n cE,.slice aD ds.length cD])]++[]):=hS;refine J6 ?_;refine jb ?_;refine kG (λρ w'=>(ρ 2=pB b2/\ρ 3=pB b3/\ρ 5=pB b5)/\∃vL LL,Gl nL 66 2 vL (JT ds d cl n).l LL/\St w w' ([(b5,64,mr (o9 (d 2),vL)),(b3,70,pC d),(b2,29,[.slice aE n cE,.slice aD ds.length cD])]++LL)) ?_ ?_
 ·refine ja ?_;refine kF (σ:=Nat) (λi ρ w'=>i<=n/\(ρ 2=pB b2/\ρ 3=pB b3/\ρ 5=pB b5)/\ρ 6=iB (JT ds d cl i).k/\ρ 7=iB (JT ds d cl i).ho/\ρ 20=iB n/\ρ 21=iB i/\∃vL LL,Gl nL 66 2 vL (JT ds d cl i).l LL/\St w w' ([(b5,64,mr (o9 (d 2),vL)),(b3,70,pC d),(b2,29,[.slice aE n cE,.slice aD ds.length cD])]++LL)) (λi=>n-i) 0
   ⟨aw _,⟨rfl,rfl,rfl⟩,rfl,rfl,rfl,rfl,kp,[],Gl.nil _ _ _,hS⟩ ?_
  clear hS;rintro i ρ w4 ⟨hi,⟨h2,h3,h5⟩,h6,h7,h20,h21,vL,LL,hG,hS⟩;refine V1 ?_;by_cases hlt:i<n
  ·refine V3 ?_;have hcl:=hE.cl i hlt;have hel:(kD n λi=>(q i,ev i)).getD i nZ=(q i,ev i):=kB _ _ hlt;obtain⟨a1,c1,hv1,_⟩:=hcl.form;rw[hv1]at hcl;have hel1:((kD n λi=>(q i,ev i)).getD i nZ).2.1= .slice a1 (cl i).length c1:=by rw[hel];exact hv1
   have hcn:=hc i hlt;obtain⟨hk1,hl1⟩:=KW ds d cl n hc i hi;obtain⟨s0,hs0⟩:=jz (JT ds d cl i);rw[<-hs0]at hk1 hl1 hG h6 h7;obtain⟨C,hC⟩:=jz (cl i);rw[<-hC]at hcl hcn hel1;have hsi:JT ds d cl (i+1)=IG ds d i C C.length s0:=by rw[hs0,hC];rfl
   refine J3 ?_;refine jp (ks (i:=i) rfl rfl (hE.es.kb hS.kb) oO dO nW ?_);refine jp (lU rfl (lG (hE.es.kb hS.kb) (λ_=>rfl) dD dO) mS ?_);refine jq (lV (v:= .slice a1 C.length c1) (i:=i) (off:=3) nZ rfl nY (hE.es.kb hS.kb) (λ_=>rfl) dD oO rfl (by rw[<-hel1];rfl) (.inr rfl) ?_);refine jp (ky rfl (hcl.kb hS.kb) ⟨_,Tryz.underlying48⟩ ?_);refine J1 ?_;refine jb ?_;refine kG (λρ w'=>(ρ 2=pB b2/\ρ 3=pB b3/\ρ 5=pB b5)/\ρ 6=iB (IG ds d i C C.length s0).k/\ρ 7=iB (IG ds d i C C.length s0).ho/\ρ 20=iB n/\ρ 21=iB i/\∃vL LL,Gl nL 66 2 vL (IG ds d i C C.length s0).l LL/\St w w' ([(b5,64,mr (o9 (d 2),vL)),(b3,70,pC d),(b2,29,[.slice aE n cE,.slice aD ds.length cD])]++LL)) ?_ ?_
   ·refine ja ?_;refine kF (σ:=Nat) (λc ρ w'=>c<=C.length/\(ρ 2=pB b2/\ρ 3=pB b3/\ρ 5=pB b5)/\ρ 6=iB (IG ds d i C c s0).k/\ρ 7=iB (IG ds d i C c s0).ho/\ρ 8=iB i/\ρ 20=iB n/\ρ 21=iB i/\ρ 29= .slice a1 C.length c1/\ρ 30=iB C.length/\ρ 31=iB c/\∃vL LL,Gl nL 66 2 vL (IG ds d i C c s0).l LL/\St w w' ([(b5,64,mr (o9 (d 2),vL)),(b3,70,pC d),(b2,29,[.slice aE n cE,.slice aD ds.length cD])]++LL)) (λc=>C.length-c) 0
     ⟨aw _,⟨h2,h3,h5⟩,h6,h7,rfl,h20,h21,rfl,rfl,rfl,vL,LL,hG,hS⟩ ?_
    clear hS h2 h3 h5 h6 h7 h20 h21 hG;clear vL LL;rintro c ρ w5 ⟨hcc,⟨h2,h3,h5⟩,h6,h7,h8,h20,h21,h29,h30,h31,vL,LL,hG,hS⟩;refine V1 ?_;by_cases hcl2:c<C.length
    ·refine J1 ?_;refine jb ?_;obtain⟨hk2,hl2⟩:=N9 ds d i C s0 hl1 c;obtain⟨s,hs⟩:=jz (IG ds d i C c s0);rw[<-hs]at hk2 hl2 hG h6 h7;have hsc:IG ds d i C (c+1) s0=ry ds d i (C.getD c nK) c s:=by rw[hs];rfl
     obtain⟨x,hx⟩:=jz (C.getD c nK);rw[<-hx]at hsc;refine kG (λρ w'=>(ρ 2=pB b2/\ρ 3=pB b3/\ρ 5=pB b5)/\ρ 6=iB (ry ds d i x c s).k/\ρ 7=iB (ry ds d i x c s).ho/\ρ 8=iB i/\ρ 20=iB n/\ρ 21=iB i/\ρ 29= .slice a1 C.length c1/\ρ 30=iB C.length/\ρ 31=iB c/\∃vL LL,Gl nL 66 2 vL (ry ds d i x c s).l LL/\St w w' ([(b5,64,mr (o9 (d 2),vL)),(b3,70,pC d),(b2,29,[.slice aE n cE,.slice aD ds.length cD])]++LL)) ?_ ?_
     ·refine J1 ?_;refine jp (ks (i:=c) h29 h31 (hcl.kb hS.kb) oO dO pG (jq (kC (i:=c) nK rfl rO (hcl.kb hS.kb) dO rfl rfl (.inl rfl) ?_)));refine J1 ?_;intro bc wz5 hS hBz5;refine J2 ?_;intro wz6 hS;refine ja ?_;rw[<-hx]at hS;replace hS:St w _ ([(bc,53,lz x),(b5,64,mr (o9 (d 2),vL)),(b3,70,pC d),(b2,29,[.slice aE n cE,.slice aD ds.length cD])]++LL):=hS;have hdr:([(b5,64,mr (o9 (d 2),vL)),(b3,70,pC d),(b2,29,[.slice aE n cE,.slice aD ds.length cD])]++LL).Sublist ([(bc,53,lz x),(b5,64,mr (o9 (d 2),vL)),(b3,70,pC d),(b2,29,[.slice aE n cE,.slice aD ds.length cD])]++LL):=ab _ _;obtain⟨aL,cL,hvL⟩:=hG.len;subst hvL;refine J3 ?_;refine jh (kf Tryz.call40 rfl (Pn aE n cE _ ds dv (i,c) _ (hD.kb hS.kb)) ?_);rintro r w6 ⟨rfl,hB6⟩;replace hS:=hS.kx hB6;cases hh:GJ (i,c) ds with
      |true=>
       refine J1 ?_;refine kS (kg 40 kR rfl rfl) (kS (kg 40 kR rfl rfl) (kS (kg 40 kR rfl rfl) (kS (kg 40 kR rfl rfl) (jp (kH (vb rfl rfl) rfl ?_)))));refine ja ?_;refine lu rfl (rfl) ?_;refine jt ?_;rw[show ry ds d i x c s=s from aj (.inl hh)];exact⟨_,rfl,⟨jY,jY,jY⟩,jY,jY,jY,jY,jY,jY,jY,jY,_,LL,hG,hS.drop hdr⟩
      |false=>
       refine J1 ?_;refine ko (kd 40 kR rfl rfl) (lD h5 pm (lA (kd 40 kR rfl rfl) (kP (k:=1) rfl pD hS rfl rfl rfl (.inr rfl) (ko (kd 40 kR rfl rfl) (oG rfl ⟨_,Tryz.underlying62⟩ (ko (kd 40 kR rfl rfl) (wA rfl rfl (jp (kH (vb rfl rfl) rfl ?_)))))))));refine ja ?_;by_cases h4:4<=s.l.length
       ·refine J1 ?_;refine jt ?_;rw[show ry ds d i x c s=s from aj (.inr h4)];exact⟨_,rfl,⟨jY,jY,jY⟩,jY,jY,jY,jY,jY,jY,jY,jY,_,LL,hG,hS.drop hdr⟩
       ·refine V1 ?_;have h16:s.k%16<16:=bl _ dD;refine jr ?_;refine jp (uu (n:=3) (i:=0) h3 rfl rfl dD Tryz.underlying70 pZ ?_);refine J3 ?_;refine jp (pF rfl rfl oO (r:=((s.k%16:Nat):Int)) (by exact o6 _ 16) (jp (kT rfl Tryz.underlying94 ⟨_,Tryz.underlying3⟩ (r:=((s.k%16:Nat):Int)) (by exact lE _ ⟨rfl,oO,oO⟩) (jp (qu rfl rfl oO (qN (d 0) (s.k%16) (by show _<=64;omega)) (jp (EZ rfl rfl (r:=((d 0/2^(s.k%16)%2:Nat):Int)) (by exact Wl (by have:=s9 (n:=2^(s.k%16)) hd0;omega)) ?_)))))));refine V5 ?_;have hne:¬(GJ (i,c) ds=true\/4<=s.l.length):=by rw[hh];rintro(h|h);cases h;exact h4 h
        have e0:ry ds d i x c s=if d 0/2^(s.k%16)%2=1/\(s.l=[]\/x.h=s.ho)then⟨s.k+1,x.h,s.l++[(i,c)]⟩else⟨s.k+1,s.ho,s.l⟩:=ah hne
        rw[e0];by_cases hw:d 0/2^(s.k%16)%2=1
        ·by_cases hl0:s.l=[]
         ·have hlz:s.l.length=0:=by rw[hl0];rfl
          refine J2 ?_;refine ko (kd 58 kR rfl dT) (lD h5 pm (lA (kd 58 kR rfl dT) (kP (k:=1) rfl pD hS rfl rfl rfl (.inr rfl) (ko (kd 58 kR rfl dT) (oG rfl ⟨_,Tryz.underlying62⟩ (ko (kd 58 kR rfl dT) (qO rfl rfl (ko (kd 58 kR rfl dT) (kw rfl (kS (kg 63 kR rfl dT) (kS (kg 63 kR rfl dT) (kS (kg 63 kR rfl dT) (kS (kg 63 kR rfl dT) (ko (kd 58 kR rfl dT) (kH (vb rfl dT) rfl (jp (kH (vb rfl dT) rfl ?_)))))))))))))))));refine ja ?_;refine lu rfl (rfl) ?_;refine ja ?_;rw[aj ⟨hw,.inl hl0⟩];refine J7 ?_;refine jp (lr rfl (Hx _ _) (jh (np (vs:=[_]) rfl nV rfl dD dD dD (by simp[Value.cells]) rfl hS ?_)));intro b7 wz8 hS hBz8;refine jh (mO [(i,c)] rfl rfl nV dD hG hS rfl rfl qC (EO [(i,c)]) dL dL ?_);intro va9 La9 wa9 hG hS hga9;obtain⟨aN,cN,hvN⟩:=hG.len;subst hvN;obtain⟨LN,hLN⟩:∃L,L=La9:=⟨_,rfl⟩;rw[<-hLN]at hG hS;refine J1 ?_;refine jh (oX (k:=1) rfl rfl pD hS rfl (by simp[qJ]) rfl ?_);intro wz10 hS;refine ja ?_;replace hS:St w _ ([(bc,53,lz x),(b5,64,mr (o9 (d 2),(.slice aN (s.l++[(i,c)]).length cN))),(b3,70,pC d),(b2,29,[.slice aE n cE,.slice aD ds.length cD])]++LN):=hS;exact⟨_,rfl,⟨jY,jY,jY⟩,vi rfl (by show((s.k:Nat):Int)+1=((s.k+1:Nat):Int);omega),rfl,jY,jY,jY,jY,jY,jY,_,LN,hG,hS.drop (ab _ _)⟩
         ·have hlz:s.l.length≠0:=λh=>hl0 (cB h);by_cases hho:x.h=s.ho
          ·refine J2 ?_;refine ko (kd 58 kR rfl dT) (lD h5 pm (lA (kd 58 kR rfl dT) (kP (k:=1) rfl pD hS rfl rfl rfl (.inr rfl) (ko (kd 58 kR rfl dT) (oG rfl ⟨_,Tryz.underlying62⟩ (ko (kd 58 kR rfl dT) (qO rfl rfl (ko (kd 58 kR rfl dT) (kw rfl (ko (kd 63 kR rfl dF) (lD rfl sK (lA (kd 63 kR rfl dF) (kP (k:=0) rfl mR hS rfl rfl rfl (.inr rfl) (ko (kd 63 kR rfl dF) (kw h7 (ko (kd 63 kR rfl dF) (qO rfl rfl (ko (kd 58 kR rfl dT) (kH (vb rfl dF) rfl (jp (kH (vb rfl dT) rfl ?_)))))))))))))))))))));refine ja ?_;refine lu rfl (ai hho) ?_;refine ja ?_;rw[aj ⟨hw,.inr hho⟩];refine J7 ?_;refine jp (lr rfl (Hx _ _) (jh (np (vs:=[_]) rfl nV rfl dD dD dD (by simp[Value.cells]) rfl hS ?_)));intro b11 wz12 hS hBz12;refine jh (mO [(i,c)] rfl rfl nV dD hG hS rfl rfl qC (EO [(i,c)]) dL dL ?_);intro va13 La13 wa13 hG hS hga13;obtain⟨aN,cN,hvN⟩:=hG.len;subst hvN;obtain⟨LN,hLN⟩:∃L,L=La13:=⟨_,rfl⟩;rw[<-hLN]at hG hS;refine J1 ?_;refine jh (oX (k:=1) rfl rfl pD hS rfl (by simp[qJ]) rfl ?_);intro wz14 hS;refine ja ?_;replace hS:St w _ ([(bc,53,lz x),(b5,64,mr (o9 (d 2),(.slice aN (s.l++[(i,c)]).length cN))),(b3,70,pC d),(b2,29,[.slice aE n cE,.slice aD ds.length cD])]++LN):=hS;exact⟨_,rfl,⟨jY,jY,jY⟩,vi rfl (by show((s.k:Nat):Int)+1=((s.k+1:Nat):Int);omega),rfl,jY,jY,jY,jY,jY,jY,_,LN,hG,hS.drop (ab _ _)⟩
          ·refine J2 ?_;refine ko (kd 58 kR rfl dT) (lD h5 pm (lA (kd 58 kR rfl dT) (kP (k:=1) rfl pD hS rfl rfl rfl (.inr rfl) (ko (kd 58 kR rfl dT) (oG rfl ⟨_,Tryz.underlying62⟩ (ko (kd 58 kR rfl dT) (qO rfl rfl (ko (kd 58 kR rfl dT) (kw rfl (ko (kd 63 kR rfl dF) (lD rfl sK (lA (kd 63 kR rfl dF) (kP (k:=0) rfl mR hS rfl rfl rfl (.inr rfl) (ko (kd 63 kR rfl dF) (kw h7 (ko (kd 63 kR rfl dF) (qO rfl rfl (ko (kd 58 kR rfl dT) (kH (vb rfl dF) rfl (jp (kH (vb rfl dT) rfl ?_)))))))))))))))))))));refine ja ?_;refine lH rfl (ae hho) ?_;refine ja ?_;rw[ah (by rintro⟨_,h|h⟩;exact hl0 h;exact hho h)];exact⟨_,rfl,⟨jY,jY,jY⟩,vi rfl (by show((s.k:Nat):Int)+1=((s.k+1:Nat):Int);omega),jY,jY,jY,jY,jY,jY,jY,_,LL,hG,hS.drop hdr⟩
        ·refine J2 ?_;refine kS (kg 58 kR rfl dF) (kS (kg 58 kR rfl dF) (kS (kg 58 kR rfl dF) (kS (kg 58 kR rfl dF) (kS (kg 58 kR rfl dF) (kS (qf 63 kR rfl) (kS (qf 63 kR rfl) (kS (qf 63 kR rfl) (kS (qf 63 kR rfl) (kS (kg 58 kR rfl dF) (jp (kH (vb rfl dF) rfl ?_)))))))))));refine ja ?_;refine lH rfl (rfl) ?_;refine ja ?_;rw[ah (λh=>hw h.1)];exact⟨_,rfl,⟨jY,jY,jY⟩,vi rfl (by show((s.k:Nat):Int)+1=((s.k+1:Nat):Int);omega),jY,jY,jY,jY,jY,jY,jY,_,LL,hG,hS.drop hdr⟩
     clear hS h2 h3 h5 h6 h7 h8 h20 h21 h29 h30 h31 hG;clear vL LL;rintro ρ w6 ⟨⟨h2,h3,h5⟩,h6,h7,h8,h20,h21,h29,h30,h31,vL,LL,hG,hS⟩;rw[<-hsc]at h6 h7 hG;refine V2 ?_;exact⟨c+1,_,rfl,⟨hcl2,⟨jY,jY,jY⟩,jY,jY,jY,jY,jY,jY,jY,vi rfl oO,vL,LL,hG,hS⟩,oO⟩
    ·refine J1 ?_;refine jt ?_;obtain rfl:c=C.length:=oO;exact⟨_,rfl,⟨h2,h3,h5⟩,h6,h7,h20,h21,vL,LL,hG,hS⟩
   clear hS h2 h3 h5 h6 h7 h20 h21 hG;clear vL LL;rintro ρ w6 ⟨⟨h2,h3,h5⟩,h6,h7,h20,h21,vL,LL,hG,hS⟩;rw[<-hsi]at h6 h7 hG;refine V2 ?_;exact⟨i+1,_,rfl,⟨hlt,⟨jY,jY,jY⟩,jY,jY,jY,vi rfl oO,vL,LL,hG,hS⟩,oO⟩
  ·refine J1 ?_;refine jt ?_;obtain rfl:i=n:=oO;exact⟨_,rfl,⟨h2,h3,h5⟩,vL,LL,hG,hS⟩
 clear hS;rintro ρ w4 ⟨⟨h2,h3,h5⟩,vL,LL,hG,hS⟩;obtain⟨hk9,hl9⟩:=KW ds d cl n hc n (aB _);obtain⟨l,hl⟩:=jz ((JT ds d cl n).l);have howl:R4 ds d cl n=if d 1%2=1 then l.reverse else l:=by rw[hl];rfl
 rw[<-hl]at hl9 hG;obtain⟨aL,cL,hvL⟩:=hG.len;subst hvL;refine jr ?_;refine jp (uu (n:=3) (i:=1) h3 rfl rfl dD Tryz.underlying70 pZ ?_);refine J1 ?_;refine jp (pF rfl rfl oO (r:=((d 1%2:Nat):Int)) (by exact o6 _ 2) ?_);refine J1 ?_;refine jb ?_;refine kG (λρ w'=>(ρ 2=pB b2/\ρ 3=pB b3/\ρ 5=pB b5)/\∃vL LL,Gl nL 66 2 vL (R4 ds d cl n) LL/\St w w' ([(b5,64,mr (o9 (d 2),vL)),(b3,70,pC d),(b2,29,[.slice aE n cE,.slice aD ds.length cD])]++LL)) ?_ ?_
 ·refine ja ?_;by_cases hr:d 1%2=1
  ·refine V1 ?_;rw[howl,aj hr];refine ja ?_;refine kK [jo 0,ju 1,jo 2,jo 3,jo 4,jo 5] kR kR hS ?_;intro wz15 hS hBz15;refine V6 ?_;refine kF (σ:=Nat) (λi ρ w'=>2*i<=l.length/\(ρ 2=pB b2/\ρ 3=pB b3/\ρ 5=pB b5)/\ρ 12=iB i/\ρ 13=iB ((l.length:Int)-1-i)/\∃LL,Gl nL 66 2 (.slice aL l.length cL) (GN l i) LL/\St w w' ([(b5,64,mr (o9 (d 2),(.slice aL l.length cL))),(b3,70,pC d),(b2,29,[.slice aE n cE,.slice aD ds.length cD])]++LL)) (λi=>l.length-i) 0
    ⟨aw _,⟨jY,jY,jY⟩,rfl,vi rfl oO,LL,by rw[OS];exact hG,hS⟩ ?_
   clear hS h2 h3 h5 hG;rintro i ρ w5 ⟨hi,⟨h2,h3,h5⟩,h12,h13,LL,hG,hS⟩;refine V3 ?_;by_cases hij:2*i+1<l.length
   ·refine V1 ?_;have hsl:=Gh l i;obtain⟨hX,⟨_,h0,_⟩|⟨bL,cap,spare,hv,hLL,h1,hc2,hc3⟩⟩:=hG
    ·omega
    rw[hsl]at hv h1;obtain⟨rfl,rfl⟩:aL=some ⟨bL,0,none⟩/\cL=cap:=by injection hv with e1 _ e2;exact⟨e1,e2⟩
    subst hLL;have g1:=LH l i i oO oO;have g2:=LH l i (l.length-1-i) oO oO;refine ja ?_;refine A0 20 [jo 0,ju 1,jo 2,jo 3,jv 4,jo 5,jo 6,ju 7,jo 8,jo 9,ju 10,jo 11,ju 12,jo 13,jo 14,ju 15,jo 16,jw 17,jo 18,jw 19] kR kR hS ?_;intro wz16 hS hBz16;refine kU (i:=0) (U':=[ju 1,jo 2,jo 3,jv 4,jo 5,jo 6,ju 7,jo 8,jo 9,ju 10,jo 11,ju 12,jo 13,jo 14,ju 15,jo 16,jw 17,jo 18,jw 19]) kR kR rfl rfl (lD h5 pm (pq (i:=1) (U':=[jo 2,jo 3,jv 4,jo 5,jo 6,ju 7,jo 8,jo 9,ju 10,jo 11,ju 12,jo 13,jo 14,ju 15,jo 16,jw 17,jo 18,jw 19]) kR kR rfl rfl (kP (k:=0) rfl pD hS rfl rfl rfl (.inr rfl) (kU (i:=2) (U':=[jo 3,jv 4,jo 5,jo 6,ju 7,jo 8,jo 9,ju 10,jo 11,ju 12,jo 13,jo 14,ju 15,jo 16,jw 17,jo 18,jw 19]) kR kR rfl rfl (kw h12 (kU (i:=3) (U':=[jv 4,jo 5,jo 6,ju 7,jo 8,jo 9,ju 10,jo 11,ju 12,jo 13,jo 14,ju 15,jo 16,jw 17,jo 18,jw 19]) kR kR rfl rfl (lD h5 pm (kU (i:=5) (U':=[jv 4,jo 6,ju 7,jo 8,jo 9,ju 10,jo 11,ju 12,jo 13,jo 14,ju 15,jo 16,jw 17,jo 18,jw 19]) kR kR rfl rfl (kw h13 (kU (i:=6) (U':=[jv 4,ju 7,jo 8,jo 9,ju 10,jo 11,ju 12,jo 13,jo 14,ju 15,jo 16,jw 17,jo 18,jw 19]) kR kR rfl rfl (lD h5 pm (pq (i:=7) (U':=[jv 4,jo 8,jo 9,ju 10,jo 11,ju 12,jo 13,jo 14,ju 15,jo 16,jw 17,jo 18,jw 19]) kR kR rfl rfl (kP (k:=0) rfl pD hS rfl rfl rfl (.inr rfl) (kU (i:=8) (U':=[jv 4,jo 9,ju 10,jo 11,ju 12,jo 13,jo 14,ju 15,jo 16,jw 17,jo 18,jw 19]) kR kR rfl rfl (kw h13 (kU (i:=9) (U':=[jv 4,ju 10,jo 11,ju 12,jo 13,jo 14,ju 15,jo 16,jw 17,jo 18,jw 19]) kR kR rfl rfl (kM (i:=(l.length-1-i)) rfl rfl oO dO nV ?_)))))))))))))))));refine pq (i:=10) (U':=[jv 4,jo 11,ju 12,jo 13,jo 14,ju 15,jo 16,jw 17,jo 18,jw 19]) kR kR rfl rfl (Df (k:=3) (i:=(l.length-1-i)) (enc:=nL) (0,0) (λ_=>rfl) rfl p8 hS rfl (by first|omega|simp) dO rfl (.inl rfl) ?_);refine kU (i:=11) (U':=[jv 4,ju 12,jo 13,jo 14,ju 15,jo 16,jw 17,jo 18,jw 19]) kR kR rfl rfl (lD h5 pm (pq (i:=12) (U':=[jv 4,jo 13,jo 14,ju 15,jo 16,jw 17,jo 18,jw 19]) kR kR rfl rfl (kP (k:=0) rfl pD hS rfl rfl rfl (.inr rfl) (kU (i:=13) (U':=[jv 4,jo 14,ju 15,jo 16,jw 17,jo 18,jw 19]) kR kR rfl rfl (kw h12 (kU (i:=14) (U':=[jv 4,ju 15,jo 16,jw 17,jo 18,jw 19]) kR kR rfl rfl (kM (i:=i) rfl rfl oO dO nV ?_)))))));refine pq (i:=15) (U':=[jv 4,jo 16,jw 17,jo 18,jw 19]) kR kR rfl rfl (Df (k:=3) (i:=i) (enc:=nL) (0,0) (λ_=>rfl) rfl p8 hS rfl (by first|omega|simp) dO rfl (.inl rfl) ?_);refine kU (i:=16) (U':=[jv 4,jw 17,jo 18,jw 19]) kR kR rfl rfl (kM (i:=i) rfl rfl oO dO nV ?_);refine qK (x:=jv 4) (y:=jw 17) (U':=[jw 17,jo 18,jw 19]) (U'':=[jv 4,jo 18,jw 19]) kR kR kR ?_ ?_
    ·refine kX rfl rfl (pE (kP (k:=0) rfl pD hS rfl rfl rfl (.inr rfl) ?_));refine⟨Below.refl _ _,?_⟩;refine li (x:=jw 17) (U':=[jo 18,jw 19]) kR kR ?_;refine lB rfl rfl (CA (k:=3) (i:=i) (enc:=nL) ((GN l i).getD (l.length-1-i) (0,0)) (λ_=>rfl) rfl rfl p8 hS rfl (by first|omega|simp) dO rfl rfl ?_);intro wz17 hS;refine kU (i:=18) (U':=[jw 19]) kR kR rfl rfl (kM (i:=(l.length-1-i)) rfl rfl oO dO nV (li (x:=jw 19) (U':=[]) kR kR ?_));refine lB rfl rfl (CA (k:=3) (i:=(l.length-1-i)) (enc:=nL) ((GN l i).getD i (0,0)) (λ_=>rfl) rfl rfl p8 hS rfl (by first|omega|simp) dO rfl rfl ?_);intro wz18 hS;refine nw ?_;refine ja ?_;rw[g1,g2,HM l i hij]at hS;have hls:=Gh l (i+1);refine V6 ?_;exact⟨i+1,_,rfl,⟨oO,⟨jY,jY,jY⟩,vi rfl oO,vi rfl oO,[(bL,66,(GN l (i+1)).flatMap nL++spare)],⟨by rw[hls,lO qC,hls],.inr ⟨bL,cL,spare,by rw[hls],rfl,by rw[hls];exact h1,hc2,by rw[<-hc3,ax,ax,lO qC,lO qC,hls,hsl]⟩⟩,hS⟩,oO⟩
    ·refine lB rfl rfl (CA (k:=3) (i:=i) (enc:=nL) ((GN l i).getD (l.length-1-i) (0,0)) (λ_=>rfl) rfl rfl p8 hS rfl (by first|omega|simp) dO rfl rfl ?_);intro wz19 hS;refine li (x:=jv 4) (U':=[jo 18,jw 19]) kR kR (kX rfl rfl (pE (kP (k:=0) rfl pD hS rfl rfl rfl (.inr rfl) ?_)));refine⟨Below.refl _ _,?_⟩;refine kU (i:=18) (U':=[jw 19]) kR kR rfl rfl (kM (i:=(l.length-1-i)) rfl rfl oO dO nV (li (x:=jw 19) (U':=[]) kR kR ?_));refine lB rfl rfl (CA (k:=3) (i:=(l.length-1-i)) (enc:=nL) ((GN l i).getD i (0,0)) (λ_=>rfl) rfl rfl p8 hS rfl (by first|omega|simp) dO rfl rfl ?_);intro wz20 hS;refine nw ?_;refine ja ?_;rw[g1,g2,HM l i hij]at hS;have hls:=Gh l (i+1);refine V6 ?_;exact⟨i+1,_,rfl,⟨oO,⟨jY,jY,jY⟩,vi rfl oO,vi rfl oO,[(bL,66,(GN l (i+1)).flatMap nL++spare)],⟨by rw[hls,lO qC,hls],.inr ⟨bL,cL,spare,by rw[hls],rfl,by rw[hls];exact h1,hc2,by rw[<-hc3,ax,ax,lO qC,lO qC,hls,hsl]⟩⟩,hS⟩,oO⟩
   ·refine J1 ?_;refine jt ?_;have e:=R2 l i oO;rw[e]at hG;exact⟨_,rfl,⟨h2,h3,h5⟩,_,LL,hG,hS⟩
  ·refine V1 ?_;rw[howl,ah hr];exact⟨_,rfl,⟨jY,jY,jY⟩,_,LL,hG,hS⟩
 clear hS h2 h3 h5 hG;rintro ρ w6 ⟨⟨h2,h3,h5⟩,vL,LL,hG,hS⟩;obtain⟨aN,cN,hvN⟩:=hG.len;obtain⟨lw,hlw⟩:=jz (R4 ds d cl n);rw[<-hlw]at hG hvN⊢;subst hvN;have hsl:∀wz wx,St wz wx LL->Sl nL 2 wx (.slice aN lw.length cN) lw:=λwz wx h=>hG.sl (H:=[]) h qC;refine ja ?_;refine A0 7 [jo 0,ju 1,jv 2,ju 3,jv 4,jw 5,jo 6] kR kR hS ?_;intro wz21 hS hBz21;refine kU (i:=0) (U':=[ju 1,jv 2,ju 3,jv 4,jw 5,jo 6]) kR kR rfl rfl (lD h2 vO (pq (i:=1) (U':=[jv 2,ju 3,jv 4,jw 5,jo 6]) kR kR rfl rfl (kP (k:=2) rfl qm hS rfl rfl rfl (.inr rfl) (pq (i:=3) (U':=[jv 2,jv 4,jw 5,jo 6]) kR kR rfl rfl (kP (k:=0) h5 tA hS rfl rfl rfl (.inl rfl) ?_)))));refine qK (x:=jv 2) (y:=jv 4) (U':=[jv 4,jw 5,jo 6]) (U'':=[jv 2,jw 5,jo 6]) kR kR kR ?_ ?_
 ·refine kX rfl rfl (Cg rfl rfl rH dD hS (hD.sl.kb hS.kb) qJ hD.one dL dL ?_);intro va22 La22 wa22 hGa hS hBa22;refine⟨hBa22,?_⟩;refine li (x:=jv 4) (U':=[jw 5,jo 6]) kR kR (kX rfl rfl (np (vs:=[_]) rfl rH rfl dD dD dD (by simp[Value.cells,qJ]) rfl hS ?_));intro bx wz23 hS hBz23;refine⟨hBz23,?_⟩;refine li (x:=jw 5) (U':=[jo 6]) kR kR (lB rfl rfl (mO [(o9 (d 2),.slice aN lw.length cN)] rfl rfl rH dD hGa hS rfl rfl qJ (De (o9 (d 2)) aN lw.length cN) dL dL ?_));intro va24 La24 wa24 hGa hS hga24;refine kU (i:=6) (U':=[]) kR kR rfl rfl (oN rfl (nw ?_));refine jt ?_;refine kJ rfl rfl ?_;have hS9:=hS.drop (show(LL++_).Sublist _ from bk (ao _ LL) (bI _));exact⟨.slice aN lw.length cN,_,LL,hGa,hsl,hS9.perm ay⟩
 ·refine kX rfl rfl (np (vs:=[_]) rfl rH rfl dD dD dD (by simp[Value.cells,qJ]) rfl hS ?_);intro bx wz25 hS hBz25;refine⟨hBz25,?_⟩;refine li (x:=jv 2) (U':=[jw 5,jo 6]) kR kR (kX rfl rfl (Cg rfl rfl rH dD hS (hD.sl.kb hS.kb) qJ hD.one dL dL ?_));intro va26 La26 wa26 hGa hS hBa26;refine⟨hBa26,?_⟩;refine li (x:=jw 5) (U':=[jo 6]) kR kR (lB rfl rfl (mO [(o9 (d 2),.slice aN lw.length cN)] rfl rfl rH dD hGa hS rfl rfl qJ (De (o9 (d 2)) aN lw.length cN) dL dL ?_));intro va27 La27 wa27 hGa hS hga27;refine kU (i:=6) (U':=[]) kR kR rfl rfl (oN rfl (nw ?_));refine jt ?_;refine kJ rfl rfl ?_;have hS9:=hS.drop (show(LL++_).Sublist _ from bk (ao _ LL) (bI _));exact⟨.slice aN lw.length cN,_,LL,hGa,hsl,hS9.perm ay⟩
end Go.Proofs.YtoeiejliehgopaaGreatDoor
