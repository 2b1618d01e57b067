/-
  PROVED: for every input TopUnion returns true, and each argument reads afterwards as it read before; the tables that its row lists read as the program's text lays them.
-/
import Derived.Test.YtoeiejliehgopaaGreatDoorUd13
import Derived.Test.YtoeiejliehgopaaGreatDoorCards
set_option maxRecDepth 20000
set_option maxHeartbeats 8000000
namespace Go.Proofs.YtoeiejliehgopaaGreatDoor
open Go Go.RowKit Go.Sx Go.ChangeShapes Go.WideShapes Go.ChangeAt
set_option maxRecDepth 100000 in
theorem DW (os:Os) (started:os.Started) (H:Type) (enc:TypeId×Value->H):
  ReturnsInHanded {} Tryz.checked os 6 .any (λw args=>(Rows.topUnionSpec.pre enc Tryz.prog Tryz.f6 Rows.topUnionRow.domain false w args/\laidMetH Tryz.prog Rows.topUnionRow.laid w)/\sizedMet enc Tryz.prog Tryz.f6 (OpenSpec.ofChange Rows.topUnionSpec) false w args)
   (Rows.topUnionSpec.post enc Tryz.prog Tryz.f6 false true false false):=by
 refine returnsInHanded_of_change_and (C:=Tryz.checked) (X:=λw _=>laidMetH Tryz.prog Rows.topUnionRow.laid w) (λ_ _ _ hh h=>h.of_heap hh) RT started kR Tryz.func6
  (ChangeSpec.witness_shaped (enc:=enc) (C:=Tryz.checked) (os:=os) (X:=λw _=>laidMetH Tryz.prog Rows.topUnionRow.laid w) false (World.laidAll Tryz.prog os Rows.topUnionRow.laid) #[.int .u8 0,.int .u8 0,.slice none 0 0,.slice none 0 0,.slice none 0 0,.slice none 0 0,.slice none 0 0,.slice none 0 0,.slice none 0 0] 8 (World.laidAll_os _ _ _)
   (World.shaped_of_ZipB kR kR) kR kR kR
   (by rw[MakeChecks.laidMetH_plain _ _ _ kR];exact laidMet_laidAll _ kR kR)) ?_
 intro W base args ds gs before hval0 hW hc _ hL _;have hval:∀(j:Nat) t v,Tryz.f6.params[j]?=some t->args[j]?=some v->Value.okWide Tryz.prog W .any base t v:=hval0;have hW':=hW;obtain⟨p,q,hA0,hV,rfl,_,_⟩:=hW;have hA:DataW.TrodAll enc Tryz.prog W 0 (λ_=>true) true Tryz.f6.params.toList args.toList ds p:=hA0;rw[Tryz.params6]at hA hval;obtain⟨v0,r0,d0,e0,p0,q0,hq0,rfl,rfl,h0,hA1⟩:=trodAll_cons hA;obtain⟨v1,r1,d1,e1,p1,q1,rfl,rfl,rfl,h1,hA2⟩:=trodAll_cons hA1;obtain⟨v2,r2,d2,e2,p2,q2,rfl,rfl,rfl,h2,hA3⟩:=trodAll_cons hA2;obtain⟨v3,r3,d3,e3,p3,q3,rfl,rfl,rfl,h3,hA4⟩:=trodAll_cons hA3;obtain⟨v4,r4,d4,e4,p4,q4,rfl,rfl,rfl,h4,hA5⟩:=trodAll_cons hA4;obtain⟨v5,r5,d5,e5,p5,q5,rfl,rfl,rfl,h5,hA6⟩:=trodAll_cons hA5;obtain⟨v6,v7,v8,d6,d7,d8,p6,p7,p8,hq6,rfl,rfl,h6,h7,h8⟩:=trodAll_three (args:=r5.toArray) (by simpa using hA6);obtain rfl:r5=[v6,v7,v8]:=by simpa using bI Array.toList hq6
 obtain rfl:args= #[v0,v1,v2,v3,v4,v5,v6,v7,v8]:=by cases args;simp_all
 obtain⟨rfl,rfl⟩:=trodVars_none hV;obtain⟨x0,rfl,rfl,rfl,wx0⟩:=open_int Tryz.underlying5 (hval 0 5 v0 rfl rfl) h0;have hx0:=bounds_u8 wx0;obtain⟨b0,rfl⟩:∃b:Nat,x0=b:=⟨x0.toNat,oO⟩;obtain⟨x1,rfl,rfl,rfl,wx1⟩:=open_int Tryz.underlying5 (hval 1 5 v1 rfl rfl) h1;have hx1:=bounds_u8 wx1;obtain⟨b1,rfl⟩:∃b:Nat,x1=b:=⟨x1.toNat,oO⟩;obtain⟨a2,ha2,hab2⟩:=D9 Tryz.underlying22 Tryz.underlying25 kR (hval 2 22 v2 rfl rfl) h2;obtain⟨a3,ha3,hab3⟩:=D9 Tryz.underlying22 Tryz.underlying25 kR (hval 3 22 v3 rfl rfl) h3;obtain⟨l4,hl4,hlb4⟩:=uM KJ Tryz.underlying23 Tryz.underlying69 Tryz.underlying25 kR kR (hval 4 23 v4 rfl rfl) h4;obtain⟨l5,hl5,hlb5⟩:=uM KJ Tryz.underlying23 Tryz.underlying69 Tryz.underlying25 kR kR (hval 5 23 v5 rfl rfl) h5;obtain⟨l6,hl6,hlb6⟩:=uM Ft Tryz.underlying24 Tryz.underlying70 Tryz.underlying25 kR kR (hval 6 24 v6 rfl rfl) h6;obtain⟨l7,hl7,hlb7⟩:=uM Ft Tryz.underlying24 Tryz.underlying70 Tryz.underlying25 kR kR (hval 7 24 v7 rfl rfl) h7;obtain⟨l8,hl8,hlb8⟩:=uM Ft Tryz.underlying24 Tryz.underlying70 Tryz.underlying25 kR kR (hval 8 24 v8 rfl rfl) h8;refine(Ij b0 b1 v2 v3 v4 v5 v6 v7 v8 a2 a3 l4 l5 l6 l7 l8 W ha2 ha3 hl4 hl5 hl6 hl7 hl8 hab2 hab3 hlb4 hlb5 hlb6 hlb7 hlb8).mono ?_;rintro v W' ⟨rfl,hB⟩;exact Qv (f:=Tryz.f6) (s:=Rows.topUnionSpec) laidOut hW' (λt ht=>by
  have hm:t∈[5,5,22,22,23,23,24,24,24]:=by rw[Tryz.params6]at ht;simpa using ht
  have hall:([5,5,22,22,23,23,24,24,24].all λt=>Tryz.prog.readableRec t&&decide (t<Tryz.prog.types.size))=true:=by kernel_rfl
  have h2:=cJ.1 hall t hm;rw[bj,fJ]at h2;exact h2) rfl hB (trodAll_mk1 (shut_bool Tryz.underlying4 _)) rfl rfl
theorem zl:Rows.TopUnionSaid:=
 OpenClaim.holds_of_wide 6 Tryz.f6 rfl rfl rfl rfl rfl rfl rfl ⟨rfl,rfl,rfl,rfl,rfl⟩ rfl rfl rfl rfl rfl kR Tryz.func6 kR
  (gl kR) (by unfold Func.isWrapper;first|(rw[aj (by decide+kernel)];kernel_rfl)|(rw[ah (by decide+kernel)];exact⟨rfl,rfl⟩))
  (λos started H enc _=>DW os started H enc)
theorem tunion_card:Rows.TopUnionCardSaid:=
 Claim7.holds_tied_plain_at .later [] [.data,.pinned] true (true,"3d5f1be4a81db646bbdcf0ea0f812e17d392a971610f8303a5bae2de420b2a51") false zl (λ_ h=>by cases h) kR (λ_ h=>by cases h) topUnion_row_tie rfl ⟨rfl,rfl⟩ kR rfl
  (λf fn hf hfn=>by
   obtain rfl:f=6:=bN ((show Tryz.prog.funcNamed "insolvency/insolvencytop.TopUnion" =some 6 by kernel_rfl).symm.trans hf)|>.symm;obtain rfl:fn=Tryz.f6:=(bN (Tryz.func6.symm.trans hfn)).symm;exact⟨by kernel_rfl,λj t ht=>by
    rw[Tryz.params6]at ht;have hm:t∈[5,5,22,22,23,23,24,24,24]:=by simpa using gD ht
    have hall:([5,5,22,22,23,23,24,24,24].all λu=> !Tryz.prog.wantsStandIn u)=true:=by kernel_rfl
    exact(show Tryz.prog.wantsStandIn t=false by simpa using cJ.1 hall t hm)⟩)
  kR
#print axioms zl
#print axioms tunion_card
end Go.Proofs.YtoeiejliehgopaaGreatDoor
