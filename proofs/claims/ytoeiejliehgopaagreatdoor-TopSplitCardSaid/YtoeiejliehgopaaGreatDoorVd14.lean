/-
  PROVED: for every input TopSplit returns true, and each argument reads afterwards as it read before; the tables that its row lists read as the program's text lays them.
-/
import Derived.Test.YtoeiejliehgopaaGreatDoorVd13
import Derived.Test.YtoeiejliehgopaaGreatDoorCards
set_option maxRecDepth 20000
set_option maxHeartbeats 8000000
namespace Go.Proofs.YtoeiejliehgopaaGreatDoor
open Go Go.RowKit Go.Sx Go.ChangeShapes Go.WideShapes Go.ChangeAt
set_option maxRecDepth 100000 in
theorem D9 (os:Os) (started:os.Started) (H:Type) (enc:TypeId×Value->H):
  ReturnsInHanded {} Tryz.checked os 5 .any (λw args=>(Rows.topSplitSpec.pre enc Tryz.prog Tryz.f5 Rows.topSplitRow.domain false w args/\laidMetH Tryz.prog Rows.topSplitRow.laid w)/\sizedMet enc Tryz.prog Tryz.f5 (OpenSpec.ofChange Rows.topSplitSpec) false w args)
   (Rows.topSplitSpec.post enc Tryz.prog Tryz.f5 false true false false):=by
 refine returnsInHanded_of_change_and (C:=Tryz.checked) (X:=λw _=>laidMetH Tryz.prog Rows.topSplitRow.laid w) (λ_ _ _ hh h=>h.of_heap hh) Ry started kR Tryz.func5
  (ChangeSpec.witness_shaped (enc:=enc) (C:=Tryz.checked) (os:=os) (X:=λw _=>laidMetH Tryz.prog Rows.topSplitRow.laid w) false (World.laidAll Tryz.prog os Rows.topSplitRow.laid) #[.int .u8 0,.slice none 0 0,.slice none 0 0,.slice none 0 0,.int .u8 0,.int .u8 0] 8 (World.laidAll_os _ _ _)
   (World.shaped_of_ZipB kR kR) kR kR kR
   (by rw[MakeChecks.laidMetH_plain _ _ _ kR];exact laidMet_laidAll _ kR kR)) ?_
 intro W base args ds gs before hval0 hW hc _ hL _;have hval:∀(j:Nat) t v,Tryz.f5.params[j]?=some t->args[j]?=some v->Value.okWide Tryz.prog W .any base t v:=hval0;have hW':=hW;obtain⟨p,q,hA0,hV,rfl,_,_⟩:=hW;have hA:DataW.TrodAll enc Tryz.prog W 0 (λ_=>true) true Tryz.f5.params.toList args.toList ds p:=hA0;rw[Tryz.params5]at hA hval;obtain⟨v0,r0,d0,e0,p0,q0,hq0,rfl,rfl,h0,hA1⟩:=trodAll_cons hA;obtain⟨v1,r1,d1,e1,p1,q1,rfl,rfl,rfl,h1,hA2⟩:=trodAll_cons hA1;obtain⟨v2,r2,d2,e2,p2,q2,rfl,rfl,rfl,h2,hA3⟩:=trodAll_cons hA2;obtain⟨v3,v4,v5,d3,d4,d5,p3,p4,p5,hq3,rfl,rfl,h3,h4,h5⟩:=trodAll_three (args:=r2.toArray) (by simpa using hA3);obtain rfl:r2=[v3,v4,v5]:=by simpa using bB Array.toList hq3
 obtain rfl:args= #[v0,v1,v2,v3,v4,v5]:=by cases args;simp_all
 obtain⟨rfl,rfl⟩:=trodVars_none hV;obtain⟨x0,rfl,rfl,rfl,wx0⟩:=open_int Tryz.underlying5 (hval 0 5 v0 rfl rfl) h0;have hx0:=bounds_u8 wx0;obtain⟨b0,rfl⟩:∃b:Nat,x0=b:=⟨x0.toNat,oO⟩;obtain⟨a1,ha1,hab1⟩:=MU Tryz.underlying22 Tryz.underlying25 kR (hval 1 22 v1 rfl rfl) h1;obtain⟨l2,hl2,hlb2⟩:=ET Se Tryz.underlying23 Tryz.underlying69 Tryz.underlying25 kR kR (hval 2 23 v2 rfl rfl) h2;obtain⟨l3,hl3,hlb3⟩:=ET Q9 Tryz.underlying24 Tryz.underlying70 Tryz.underlying25 kR kR (hval 3 24 v3 rfl rfl) h3;obtain⟨x4,rfl,rfl,rfl,wx4⟩:=open_int Tryz.underlying5 (hval 4 5 v4 rfl rfl) h4;have hx4:=bounds_u8 wx4;obtain⟨b4,rfl⟩:∃b:Nat,x4=b:=⟨x4.toNat,oO⟩;obtain⟨x5,rfl,rfl,rfl,wx5⟩:=open_int Tryz.underlying5 (hval 5 5 v5 rfl rfl) h5;have hx5:=bounds_u8 wx5;obtain⟨b5,rfl⟩:∃b:Nat,x5=b:=⟨x5.toNat,oO⟩;refine(Hi b0 b4 b5 v1 v2 v3 a1 l2 l3 W ha1 hl2 hl3 hab1 hlb2 hlb3 oO oO).mono ?_;rintro v W' ⟨rfl,hB⟩;exact O9 (f:=Tryz.f5) (s:=Rows.topSplitSpec) laidOut hW' (λt ht=>by
  have hm:t∈[5,22,23,24,5,5]:=by rw[Tryz.params5]at ht;simpa using ht
  have hall:([5,22,23,24,5,5].all λt=>Tryz.prog.readableRec t&&decide (t<Tryz.prog.types.size))=true:=by kernel_rfl
  have h2:=cO.1 hall t hm;rw[bf,fQ]at h2;exact h2) rfl hB (trodAll_mk1 (shut_bool Tryz.underlying4 _)) rfl rfl
theorem Af:Rows.TopSplitSaid:=
 OpenClaim.holds_of_wide 5 Tryz.f5 rfl rfl rfl rfl rfl rfl rfl ⟨rfl,rfl,rfl,rfl,rfl⟩ rfl rfl rfl rfl rfl kR Tryz.func5 kR
  (gB kR) (by unfold Func.isWrapper;first|(rw[aj (by decide+kernel)];kernel_rfl)|(rw[ah (by decide+kernel)];exact⟨rfl,rfl⟩))
  (λos started H enc _=>D9 os started H enc)
theorem tsplit_card:Rows.TopSplitCardSaid:=
 Claim7.holds_tied_plain_at .later [] [.data,.pinned] true (true,"3d5f1be4a81db646bbdcf0ea0f812e17d392a971610f8303a5bae2de420b2a51") false Af (λ_ h=>by cases h) kR (λ_ h=>by cases h) topSplit_row_tie rfl ⟨rfl,rfl⟩ kR rfl
  (λf fn hf hfn=>by
   obtain rfl:f=5:=bK ((show Tryz.prog.funcNamed "insolvency/insolvencytop.TopSplit" =some 5 by kernel_rfl).symm.trans hf)|>.symm;obtain rfl:fn=Tryz.f5:=(bK (Tryz.func5.symm.trans hfn)).symm;exact⟨by kernel_rfl,λj t ht=>by
    rw[Tryz.params5]at ht;have hm:t∈[5,22,23,24,5,5]:=by simpa using gK ht
    have hall:([5,22,23,24,5,5].all λu=> !Tryz.prog.wantsStandIn u)=true:=by kernel_rfl
    exact(show Tryz.prog.wantsStandIn t=false by simpa using cO.1 hall t hm)⟩)
  kR
#print axioms Af
#print axioms tsplit_card
end Go.Proofs.YtoeiejliehgopaaGreatDoor
