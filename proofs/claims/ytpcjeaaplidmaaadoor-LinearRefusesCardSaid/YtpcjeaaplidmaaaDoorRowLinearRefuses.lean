/- The law LinearRefuses holds of the program for every input: it returns true, and its arguments read afterwards as before; the variables that the row lists are tied to the program's text by the card. No condition beyond the row's own. -/
import Derived.Test.YtpcjeaaplidmaaaDoorLinRcQ
import Derived.Test.YtpcjeaaplidmaaaDoorGlOfQ
import Derived.Test.YtpcjeaaplidmaaaDoorCards
import Derived.Test.YtpcjeaaplidmaaaDoorTie
import Derived.WalkKit
import Derived.ProofKit
import Derived.LaidMore
import Derived.Stop.Joined
import Derived.Stop.LaidErr
import Derived.SevenTiedAt
namespace Go.Proofs.YtpcjeaaplidmaaaDoor
open Go Go.Ab
open Go.ChangeShapes Go.WideShapes Go.ChangeAt Go.RowKit
set_option linter.unusedVariables false
set_option linter.unusedSimpArgs false
namespace linearRefuses
theorem own : ownKnob Tryd.prog.godebug = none := by kernel_rfl
theorem laidOut : laidOutB Tryd.prog = true := by kernel_rfl
theorem read : ∀ t, t ∈ [3, 3, 39] → Tryd.prog.readableRec t = true ∧ t < Tryd.prog.types.size := by
  intro t ht
  simp only [List.mem_cons, List.not_mem_nil, or_false] at ht
  rcases ht with rfl | rfl | rfl <;> exact ⟨by kernel_rfl, of_decide_eq_true (by kernel_rfl)⟩
theorem okT : shOks E.tys 4 [3, 3, 39] = true := by kernel_rfl
theorem law (ps : List PV) (h : ShpA E.tys 4 [3, 3, 39] ps) : PCalls Tryd.prog 5 ps (.v (.bool true)) := by
  obtain ⟨c0, r0, rfl, h0, c1, r1, rfl, h1, c2, r2, rfl, h2, rfl⟩ := h
  simp only [Shp, ty3] at h0 h1
  obtain ⟨a0, rfl, b0⟩ := h0
  obtain ⟨a1, rfl, b1⟩ := h1
  simp only [Shp, ty39, shpF, ty3, ty25] at h2
  obtain ⟨_, _, rfl, ⟨a2, rfl, b2⟩, _, _, rfl, ⟨a3, rfl, b3⟩, _, _, rfl, ⟨a4, rfl, b4⟩, _, _, rfl, ⟨a5, rfl, b5⟩, rfl⟩ := h2
  exact c5 a0 a1 a2 a3 a4 a5 ⟨b3, b4, b5⟩

/-- The door's own heap meets the condition. -/
theorem doorMet (os : Os) (args : Array Value) : laidMetH Tryd.prog Rows.linearRefusesRow.laid ((World.doorLaid Tryd.prog 24 os).forCall (fun _ _ => 0) ⟨#[], args, []⟩).memory :=
  laidMetH_of_parts3 (fuel := 8) (laidMet_of_run' 8 (by kernel_rfl) (by kernel_rfl)) (by kernel_rfl) (by kernel_rfl)
set_option maxRecDepth 100000 in
theorem lifted (os : Os) (started : os.Started) (H : Type) (enc : TypeId × Value → H) :
    ReturnsInHanded {} Tryd.checked os 5 .any (fun w args => (Rows.linearRefusesSpec.pre enc Tryd.prog Tryd.f5 Rows.linearRefusesRow.domain false w args ∧ laidMetH Tryd.prog Rows.linearRefusesRow.laid w) ∧ sizedMet enc Tryd.prog Tryd.f5 (OpenSpec.ofChange Rows.linearRefusesSpec) false w args)
      (Rows.linearRefusesSpec.post enc Tryd.prog Tryd.f5 false true false false) := by
  refine returnsInHanded_laid_shaped (C := Tryd.checked) (X := fun w _ => laidMetH Tryd.prog Rows.linearRefusesRow.laid w) (fun _ _ _ hh h => h.of_heap hh) own started (by kernel_rfl) Tryd.func5
    (ChangeSpec.witness_shaped (enc := enc) (C := Tryd.checked) (os := os) (X := fun w _ => laidMetH Tryd.prog Rows.linearRefusesRow.laid w) false (World.doorLaid Tryd.prog 24 os) #[.int .i64 0, .int .i64 0, .agg #[.int .i64 0, .int .u64 0, .int .u64 0, .int .u64 0]] 8 rfl (World.shaped_of_RefB (by kernel_rfl) (by kernel_rfl)) (by kernel_rfl) (by kernel_rfl) (by kernel_rfl) (doorMet os _)) ?_
  intro W base args ds gs before hval0 hW hcnd hsz0 hL hSh _
  have hG : Glob.G (Zall W) W := gl_of hSh (by
    have h := hL
    rw [MakeChecks.laidMetH_plain _ _ _ (by kernel_rfl)] at h
    exact laidMet.tail (laidMet.tail h))
  have hval : ∀ (j : Nat) t v, Tryd.f5.params[j]? = some t → args[j]? = some v → Value.okWide Tryd.prog W .any base t v := hval0
  have hW' := hW
  obtain ⟨p, q, hA0, hV, rfl, hfz, hnd⟩ := hW
  have hA : DataW.TrodAll enc Tryd.prog W 0 (fun _ => true) true Tryd.f5.params.toList args.toList ds p := hA0
  obtain ⟨rfl, rfl⟩ := trodVars_none hV
  have hlt : ∀ x ∈ p, x.block < W.heap.size := fun x hx => hW'.lt x (by simpa using hx)
  have hsz : (DataW.weightsEach Tryd.prog (Tryd.f5.params.toList ++ []) (ds ++ [])).all (· ≤ reachBytes) = true := hsz0
  rw [Tryd.params5] at hA hval hsz
  rw [List.append_nil, List.append_nil] at hsz
  have hcalls := law_calls (enc := enc) (E := E) (d := 4) law okT hA (fun j t v g1 g2 => hval j t v (by simpa using g1) g2) (fun n hn => by simpa using List.all_eq_true.1 hsz n hn) hG
  have hD := hA
  refine hcalls.mono fun e W' ⟨he, bel⟩ => ?_
  subst he
  have hstay := args_stay (sp := fun b => decide (b < W.heap.size)) laidOut read hA bel hlt (fun x hx => by simpa using hlt x hx)
  clear hcalls hA hval hval0 hA0 hsz hsz0 hlt hfz hnd hL hSh hG
  obtain ⟨v0, vs0, d0, ds0, p0, q0, hargs0, rfl, rfl, h0, r0⟩ := trodAll_cons hD
  obtain ⟨v1, vs1, d1, ds1, p1, q1, hargs1, rfl, rfl, h1, r1⟩ := trodAll_cons r0
  obtain ⟨v2, vs2, d2, ds2, p2, q2, hargs2, rfl, rfl, h2, r2⟩ := trodAll_cons r1
  obtain ⟨hn, rfl, rfl⟩ := trodAll_nil r2
  exact ⟨_, rfl, _, _, _, [], _, [], hW', trodAll_mk1 (shut_bool Tryd.underlying4 _), hstay, rfl, bel.frame _, fun h => by cases h⟩
theorem over : Rows.linearRefusesRow.holds Tryd.pinned (OpenSpec.ofChange Rows.linearRefusesSpec) :=
  OpenClaim.holds_of_wide 5 Tryd.f5 rfl rfl rfl rfl rfl rfl rfl ⟨rfl, rfl, rfl, rfl, rfl⟩ rfl rfl rfl rfl rfl (by kernel_rfl) Tryd.func5 (by kernel_rfl)
    (of_decide_eq_true (by kernel_rfl)) (by unfold Func.isWrapper; first | (rw [if_pos (by decide +kernel)]; kernel_rfl) | (rw [if_neg (by decide +kernel)]; exact ⟨rfl, rfl⟩))
    (fun os started H enc _ => lifted os started H enc)
theorem cardOver : Claim7.holds Tryd.pinned (.plain (OpenSpec.ofChange Rows.linearRefusesSpec)) Rows.linearRefusesCard :=
  Claim7.holds_tied_plain_at .later [] [.data, .data, .data] true (true, "596f24ed1347350ad1716193ba0bdfaf0bf711b058444d45a9b12a8f403a1686") false
    over (fun _ h => by cases h) (by kernel_rfl) (fun _ h => by cases h) linearRefuses_row_tie rfl ⟨rfl, rfl⟩ (by kernel_rfl) rfl
    (fun f fn hf hfn => by
      obtain rfl : f = 5 := Option.some.inj ((show Tryd.prog.funcNamed "bedrock/bedrocklaw52.LinearRefuses" = some 5 by kernel_rfl).symm.trans hf) |>.symm
      obtain rfl : fn = Tryd.f5 := (Option.some.inj (Tryd.func5.symm.trans hfn)).symm
      exact ⟨by kernel_rfl, fun j t ht => by
        rw [Tryd.params5] at ht
        have hm : t ∈ [3, 3, 39] := by simpa using Array.mem_of_getElem? ht
        have hall : ([3, 3, 39].all fun u => !Tryd.prog.wantsStandIn u) = true := by kernel_rfl
        exact (show Tryd.prog.wantsStandIn t = false by simpa using List.all_eq_true.1 hall t hm)⟩)
    (by kernel_rfl)
end linearRefuses
theorem linearRefuses_holds : Rows.LinearRefusesCardSaid := linearRefuses.cardOver
end Go.Proofs.YtpcjeaaplidmaaaDoor
