/-
  PROVED: for every input TopScale returns true, and each argument reads afterwards as it read before; the tables that its row lists read as the program's text lays them.
-/
import Derived.Test.YtoeiejliehgopaaGreatDoorSd13
import Derived.Test.YtoeiejliehgopaaGreatDoorCards
set_option maxRecDepth 20000
set_option maxHeartbeats 8000000
namespace Go.Proofs.YtoeiejliehgopaaGreatDoor
open Go Go.RowKit Go.Sx Go.ChangeShapes Go.WideShapes Go.ChangeAt
set_option maxRecDepth 100000 in
theorem Dx (os:Os) (started:os.Started) (H:Type) (enc:TypeId×Value->H):
  ReturnsInHanded {} Tryz.checked os 3 .any (λw args=>(Rows.topScaleSpec.pre enc Tryz.prog Tryz.f3 Rows.topScaleRow.domain false w args/\laidMetH Tryz.prog Rows.topScaleRow.laid w)/\sizedMet enc Tryz.prog Tryz.f3 (OpenSpec.ofChange Rows.topScaleSpec) false w args)
   (Rows.topScaleSpec.post enc Tryz.prog Tryz.f3 false true false false):=by
 refine returnsInHanded_of_change_and (C:=Tryz.checked) (X:=λw _=>laidMetH Tryz.prog Rows.topScaleRow.laid w) (λ_ _ _ hh h=>h.of_heap hh) R4 started kR Tryz.func3
  (ChangeSpec.witness_shaped (enc:=enc) (C:=Tryz.checked) (os:=os) (X:=λw _=>laidMetH Tryz.prog Rows.topScaleRow.laid w) false (World.laidAll Tryz.prog os Rows.topScaleRow.laid) #[.int .u8 0,.slice none 0 0,.slice none 0 0,.slice none 0 0,.slice none 0 0,.int .u16 0] 8 (World.laidAll_os _ _ _)
   (World.shaped_of_ZipB kR kR) kR kR kR
   (by rw[MakeChecks.laidMetH_plain _ _ _ kR];exact laidMet_laidAll _ kR kR)) ?_
 intro W base args ds gs before hval0 hW hc _ hL _;have hval:∀(j:Nat) t v,Tryz.f3.params[j]?=some t->args[j]?=some v->Value.okWide Tryz.prog W .any base t v:=hval0;have hW':=hW;obtain⟨p,q,hA0,hV,rfl,_,_⟩:=hW;have hA:DataW.TrodAll enc Tryz.prog W 0 (λ_=>true) true Tryz.f3.params.toList args.toList ds p:=hA0;rw[Tryz.params3]at hA hval;obtain⟨v0,r0,d0,e0,p0,q0,hq0,rfl,rfl,h0,hA1⟩:=trodAll_cons hA;obtain⟨v1,r1,d1,e1,p1,q1,rfl,rfl,rfl,h1,hA2⟩:=trodAll_cons hA1;obtain⟨v2,r2,d2,e2,p2,q2,rfl,rfl,rfl,h2,hA3⟩:=trodAll_cons hA2;obtain⟨v3,v4,v5,d3,d4,d5,p3,p4,p5,hq3,rfl,rfl,h3,h4,h5⟩:=trodAll_three (args:=r2.toArray) (by simpa using hA3);obtain rfl:r2=[v3,v4,v5]:=by simpa using bQ Array.toList hq3
 obtain rfl:args= #[v0,v1,v2,v3,v4,v5]:=by cases args;simp_all
 obtain⟨rfl,rfl⟩:=trodVars_none hV;obtain⟨x0,rfl,rfl,rfl,wx0⟩:=open_int Tryz.underlying5 (hval 0 5 v0 rfl rfl) h0;have hx0:=bounds_u8 wx0;obtain⟨b0,rfl⟩:∃b:Nat,x0=b:=⟨x0.toNat,oO⟩;obtain⟨a1,ha1,hab1⟩:=L3 Tryz.underlying22 Tryz.underlying25 kR (hval 1 22 v1 rfl rfl) h1;obtain⟨l2,hl2,hlb2⟩:=Ae Rv Tryz.underlying23 Tryz.underlying69 Tryz.underlying25 kR kR (hval 2 23 v2 rfl rfl) h2;obtain⟨l3,hl3,hlb3⟩:=Ae KU Tryz.underlying24 Tryz.underlying70 Tryz.underlying25 kR kR (hval 3 24 v3 rfl rfl) h3;obtain⟨l4,hl4,hlb4⟩:=Ae KU Tryz.underlying24 Tryz.underlying70 Tryz.underlying25 kR kR (hval 4 24 v4 rfl rfl) h4;obtain⟨x5,rfl,rfl,rfl,wx5⟩:=open_int Tryz.underlying25 (hval 5 25 v5 rfl rfl) h5;have hx5:=bounds_u16 wx5;obtain⟨b5,rfl⟩:∃b:Nat,x5=b:=⟨x5.toNat,oO⟩;refine(Hr b0 b5 v1 v2 v3 v4 a1 l2 l3 l4 W ha1 hl2 hl3 hl4 hab1 hlb2 hlb3 hlb4 oO).mono ?_;rintro v W' ⟨rfl,hB⟩;exact Pv (f:=Tryz.f3) (s:=Rows.topScaleSpec) laidOut hW' (λt ht=>by
  have hm:t∈[5,22,23,24,24,25]:=by rw[Tryz.params3]at ht;simpa using ht
  have hall:([5,22,23,24,24,25].all λt=>Tryz.prog.readableRec t&&decide (t<Tryz.prog.types.size))=true:=by kernel_rfl
  have h2:=cQ.1 hall t hm;rw[bl,fP]at h2;exact h2) rfl hB (trodAll_mk1 (shut_bool Tryz.underlying4 _)) rfl rfl
theorem yC:Rows.TopScaleSaid:=
 OpenClaim.holds_of_wide 3 Tryz.f3 rfl rfl rfl rfl rfl rfl rfl ⟨rfl,rfl,rfl,rfl,rfl⟩ rfl rfl rfl rfl rfl kR Tryz.func3 kR
  (gq kR) (by unfold Func.isWrapper;first|(rw[aj (by decide+kernel)];kernel_rfl)|(rw[ah (by decide+kernel)];exact⟨rfl,rfl⟩))
  (λos started H enc _=>Dx os started H enc)
theorem tscale_card:Rows.TopScaleCardSaid:=
 Claim7.holds_tied_plain_at .later [] [.data,.pinned] true (true,"3d5f1be4a81db646bbdcf0ea0f812e17d392a971610f8303a5bae2de420b2a51") false yC (λ_ h=>by cases h) kR (λ_ h=>by cases h) topScale_row_tie rfl ⟨rfl,rfl⟩ kR rfl
  (λf fn hf hfn=>by
   obtain rfl:f=3:=bN ((show Tryz.prog.funcNamed "insolvency/insolvencytop.TopScale" =some 3 by kernel_rfl).symm.trans hf)|>.symm;obtain rfl:fn=Tryz.f3:=(bN (Tryz.func3.symm.trans hfn)).symm;exact⟨by kernel_rfl,λj t ht=>by
    rw[Tryz.params3]at ht;have hm:t∈[5,22,23,24,24,25]:=by simpa using gE ht
    have hall:([5,22,23,24,24,25].all λu=> !Tryz.prog.wantsStandIn u)=true:=by kernel_rfl
    exact(show Tryz.prog.wantsStandIn t=false by simpa using cQ.1 hall t hm)⟩)
  kR
#print axioms yC
#print axioms tscale_card
end Go.Proofs.YtoeiejliehgopaaGreatDoor
