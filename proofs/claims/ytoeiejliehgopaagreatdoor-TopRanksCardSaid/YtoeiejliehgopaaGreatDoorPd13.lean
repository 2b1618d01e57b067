/-
  PROVED: for every input TopRanks returns true, and each argument reads afterwards as it read before; the tables that its row lists read as the program's text lays them.
-/
import Derived.Test.YtoeiejliehgopaaGreatDoorPd12
import Derived.Test.YtoeiejliehgopaaGreatDoorCards
set_option maxRecDepth 20000
set_option maxHeartbeats 8000000
namespace Go.Proofs.YtoeiejliehgopaaGreatDoor
open Go Go.RowKit Go.Sx Go.ChangeShapes Go.WideShapes Go.ChangeAt
set_option maxRecDepth 100000 in
theorem yd (os:Os) (started:os.Started) (H:Type) (enc:TypeId×Value->H):
  ReturnsInHanded {} Tryz.checked os 4 .any (λw args=>(Rows.topRanksSpec.pre enc Tryz.prog Tryz.f4 Rows.topRanksRow.domain false w args/\laidMetH Tryz.prog Rows.topRanksRow.laid w)/\sizedMet enc Tryz.prog Tryz.f4 (OpenSpec.ofChange Rows.topRanksSpec) false w args)
   (Rows.topRanksSpec.post enc Tryz.prog Tryz.f4 false true false false):=by
 refine returnsInHanded_of_change_and (C:=Tryz.checked) (X:=λw _=>laidMetH Tryz.prog Rows.topRanksRow.laid w) (λ_ _ _ hh h=>h.of_heap hh) KQ started kR Tryz.func4
  (ChangeSpec.witness_shaped (enc:=enc) (C:=Tryz.checked) (os:=os) (X:=λw _=>laidMetH Tryz.prog Rows.topRanksRow.laid w) false (World.laidAll Tryz.prog os Rows.topRanksRow.laid) #[.int .u8 0,.slice none 0 0,.slice none 0 0,.slice none 0 0,.slice none 0 0,.int .u8 0] 8 (World.laidAll_os _ _ _)
   (World.shaped_of_ZipB kR kR) kR kR kR
   (by rw[MakeChecks.laidMetH_plain _ _ _ kR];exact laidMet_laidAll _ kR kR)) ?_
 intro W base args ds gs before hval0 hW hc _ hL _;have hval:∀(j:Nat) t v,Tryz.f4.params[j]?=some t->args[j]?=some v->Value.okWide Tryz.prog W .any base t v:=hval0;have hW':=hW;obtain⟨p,q,hA0,hV,rfl,_,_⟩:=hW;have hA:DataW.TrodAll enc Tryz.prog W 0 (λ_=>true) true Tryz.f4.params.toList args.toList ds p:=hA0;rw[Tryz.params4]at hA hval;obtain⟨v0,r0,d0,e0,p0,q0,hq0,rfl,rfl,h0,hA1⟩:=trodAll_cons hA;obtain⟨v1,r1,d1,e1,p1,q1,rfl,rfl,rfl,h1,hA2⟩:=trodAll_cons hA1;obtain⟨v2,r2,d2,e2,p2,q2,rfl,rfl,rfl,h2,hA3⟩:=trodAll_cons hA2;obtain⟨v3,v4,v5,d3,d4,d5,p3,p4,p5,hq3,rfl,rfl,h3,h4,h5⟩:=trodAll_three (args:=r2.toArray) (by simpa using hA3);obtain rfl:r2=[v3,v4,v5]:=by simpa using congrArg Array.toList hq3
 obtain rfl:args= #[v0,v1,v2,v3,v4,v5]:=by cases args;simp_all
 obtain⟨rfl,rfl⟩:=trodVars_none hV;obtain⟨x0,rfl,rfl,rfl,wx0⟩:=open_int Tryz.underlying5 (hval 0 5 v0 rfl rfl) h0;have hx0:=bounds_u8 wx0;obtain⟨b0,rfl⟩:∃b:Nat,x0=b:=⟨x0.toNat,oO⟩;obtain⟨a1,ha1,hab1⟩:=Gv Tryz.underlying22 Tryz.underlying25 kR (hval 1 22 v1 rfl rfl) h1;obtain⟨l2,hl2,hlb2⟩:=tP Lm Tryz.underlying23 Tryz.underlying69 Tryz.underlying25 kR kR (hval 2 23 v2 rfl rfl) h2;obtain⟨l3,hl3,hlb3⟩:=tP FX Tryz.underlying24 Tryz.underlying70 Tryz.underlying25 kR kR (hval 3 24 v3 rfl rfl) h3;obtain⟨l4,hl4,hlb4⟩:=tP FX Tryz.underlying24 Tryz.underlying70 Tryz.underlying25 kR kR (hval 4 24 v4 rfl rfl) h4;obtain⟨x5,rfl,rfl,rfl,wx5⟩:=open_int Tryz.underlying5 (hval 5 5 v5 rfl rfl) h5;have hx5:=bounds_u8 wx5;obtain⟨b5,rfl⟩:∃b:Nat,x5=b:=⟨x5.toNat,oO⟩;refine(Bg b0 b5 v1 v2 v3 v4 a1 l2 l3 l4 W ha1 hl2 hl3 hl4 hab1 hlb2 hlb3 hlb4).mono ?_;rintro v W' ⟨rfl,hB⟩;exact Ib (f:=Tryz.f4) (s:=Rows.topRanksSpec) laidOut hW' (λt ht=>by
  have hm:t∈[5,22,23,24,24,5]:=by rw[Tryz.params4]at ht;simpa using ht
  have hall:([5,22,23,24,24,5].all λt=>Tryz.prog.readableRec t&&decide (t<Tryz.prog.types.size))=true:=by kernel_rfl
  have h2:=List.all_eq_true.1 hall t hm;rw[Bool.and_eq_true,decide_eq_true_eq]at h2;exact h2) rfl hB (trodAll_mk1 (shut_bool Tryz.underlying4 _)) rfl rfl
theorem st:Rows.TopRanksSaid:=
 OpenClaim.holds_of_wide 4 Tryz.f4 rfl rfl rfl rfl rfl rfl rfl ⟨rfl,rfl,rfl,rfl,rfl⟩ rfl rfl rfl rfl rfl kR Tryz.func4 kR
  (of_decide_eq_true kR) (by unfold Func.isWrapper;first|(rw[if_pos (by decide+kernel)];kernel_rfl)|(rw[if_neg (by decide+kernel)];exact⟨rfl,rfl⟩))
  (λos started H enc _=>yd os started H enc)
theorem tranks_card:Rows.TopRanksCardSaid:=
 Claim7.holds_tied_plain_at .later [] [.data,.pinned] true (true,"3d5f1be4a81db646bbdcf0ea0f812e17d392a971610f8303a5bae2de420b2a51") false st (λ_ h=>by cases h) kR (λ_ h=>by cases h) topRanks_row_tie rfl ⟨rfl,rfl⟩ kR rfl
  (λf fn hf hfn=>by
   obtain rfl:f=4:=Option.some.inj ((show Tryz.prog.funcNamed "insolvency/insolvencytop.TopRanks" =some 4 by kernel_rfl).symm.trans hf)|>.symm;obtain rfl:fn=Tryz.f4:=(Option.some.inj (Tryz.func4.symm.trans hfn)).symm;exact⟨by kernel_rfl,λj t ht=>by
    rw[Tryz.params4]at ht;have hm:t∈[5,22,23,24,24,5]:=by simpa using Array.mem_of_getElem? ht
    have hall:([5,22,23,24,24,5].all λu=> !Tryz.prog.wantsStandIn u)=true:=by kernel_rfl
    exact(show Tryz.prog.wantsStandIn t=false by simpa using List.all_eq_true.1 hall t hm)⟩)
  kR
#print axioms st
#print axioms tranks_card
end Go.Proofs.YtoeiejliehgopaaGreatDoor
