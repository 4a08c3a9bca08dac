/- The law LinearCrash holds of the program for every input: it returns true, and its arguments read afterwards as before; the variables that the row lists are tied to the program's text by the card. No condition beyond the row's own. -/
import Derived.Test.YtpcjeaaplidmaaaGreatDoorLinN4Q
import Derived.Test.YtpcjeaaplidmaaaGreatDoorGlOfQ
import Derived.Test.YtpcjeaaplidmaaaGreatDoorCards
import Derived.Test.YtpcjeaaplidmaaaGreatDoorTie
import Derived.WalkKit
import Derived.ProofKit
import Derived.LaidMore
import Derived.Stop.Joined
import Derived.Stop.LaidErr
import Derived.SevenTiedAt
namespace Go.Proofs.YtpcjeaaplidmaaaGreatDoor
open Go Go.Ab
open Go.ChangeShapes Go.WideShapes Go.ChangeAt Go.RowKit
set_option linter.unusedVariables false
set_option linter.unusedSimpArgs false
namespace linearCrash
theorem own : ownKnob Tryz.prog.godebug = none := by kernel_rfl
theorem laidOut : laidOutB Tryz.prog = true := by kernel_rfl
theorem read : ∀ t, t ∈ [24, 50] → Tryz.prog.readableRec t = true ∧ t < Tryz.prog.types.size := by
  intro t ht
  simp only [List.mem_cons, List.not_mem_nil, or_false] at ht
  rcases ht with rfl | rfl <;> exact ⟨by kernel_rfl, of_decide_eq_true (by kernel_rfl)⟩
theorem okT : shOks E.tys 6 [24, 50] = true := by kernel_rfl
theorem law (ps : List PV) (h : ShpA E.tys 6 [24, 50] ps) : PCalls Tryz.prog 4 ps (.v (.bool true)) := by
  obtain ⟨c0, r0, rfl, h0, c1, r1, rfl, h1, rfl⟩ := h
  obtain ⟨kd, l, e0, _, hr⟩ := lot_of h0
  simp only [Shp, ty50, shpF, ty3, ty48] at h1
  obtain ⟨_, _, rfl, ⟨a1, rfl, b1⟩, _, _, rfl, ⟨a2, rfl, b2⟩, _, _, rfl, ⟨a3, rfl, b3⟩, _, _, rfl, ⟨a4, rfl, b4⟩, rfl⟩ := h1
  have g := l4 kd l a1 a2 a3 a4 hr ⟨b2, b3, b4⟩
  rw [← e0] at g
  exact g

/-- The door's own heap meets the condition. -/
theorem doorMet (os : Os) (args : Array Value) : laidMetH Tryz.prog Rows.linearCrashRow.laid ((World.doorLaid Tryz.prog 24 os).forCall (fun _ _ => 0) ⟨#[], args, []⟩).memory :=
  laidMetH_of_parts3 (fuel := 8) (laidMet_of_run' 8 (by kernel_rfl) (by kernel_rfl)) (by kernel_rfl) (by kernel_rfl)
set_option maxRecDepth 100000 in
theorem lifted (os : Os) (started : os.Started) (H : Type) (enc : TypeId × Value → H) :
    ReturnsInHanded {} Tryz.checked os 4 .any (fun w args => (Rows.linearCrashSpec.pre enc Tryz.prog Tryz.f4 Rows.linearCrashRow.domain false w args ∧ laidMetH Tryz.prog Rows.linearCrashRow.laid w) ∧ sizedMet enc Tryz.prog Tryz.f4 (OpenSpec.ofChange Rows.linearCrashSpec) false w args)
      (Rows.linearCrashSpec.post enc Tryz.prog Tryz.f4 false true false false) := by
  refine returnsInHanded_laid_shaped (C := Tryz.checked) (X := fun w _ => laidMetH Tryz.prog Rows.linearCrashRow.laid w) (fun _ _ _ hh h => h.of_heap hh) own started (by kernel_rfl) Tryz.func4
    (ChangeSpec.witness_shaped (enc := enc) (C := Tryz.checked) (os := os) (X := fun w _ => laidMetH Tryz.prog Rows.linearCrashRow.laid w) false (World.doorLaid Tryz.prog 24 os) #[.agg #[.int .i64 0, .slice none 0 0], .agg #[.int .i64 0, .int .u64 0, .int .u64 0, .int .u64 0]] 8 rfl (World.shaped_of_RefB (by kernel_rfl) (by kernel_rfl)) (by kernel_rfl) (by kernel_rfl) (by kernel_rfl) (doorMet os _)) ?_
  intro W base args ds gs before hval0 hW hcnd hsz0 hL hSh _
  have hG : Glob.G (Zall W) W := gl_of hSh (by
    have h := hL
    rw [MakeChecks.laidMetH_plain _ _ _ (by kernel_rfl)] at h
    exact laidMet.tail (laidMet.tail h))
  have hval : ∀ (j : Nat) t v, Tryz.f4.params[j]? = some t → args[j]? = some v → Value.okWide Tryz.prog W .any base t v := hval0
  have hW' := hW
  obtain ⟨p, q, hA0, hV, rfl, hfz, hnd⟩ := hW
  have hA : DataW.TrodAll enc Tryz.prog W 0 (fun _ => true) true Tryz.f4.params.toList args.toList ds p := hA0
  obtain ⟨rfl, rfl⟩ := trodVars_none hV
  have hlt : ∀ x ∈ p, x.block < W.heap.size := fun x hx => hW'.lt x (by simpa using hx)
  have hsz : (DataW.weightsEach Tryz.prog (Tryz.f4.params.toList ++ []) (ds ++ [])).all (· ≤ reachBytes) = true := hsz0
  rw [Tryz.params4] at hA hval hsz
  rw [List.append_nil, List.append_nil] at hsz
  have hcalls := law_calls (enc := enc) (E := E) (d := 6) law okT hA (fun j t v g1 g2 => hval j t v (by simpa using g1) g2) (fun n hn => by simpa using List.all_eq_true.1 hsz n hn) hG
  have hD := hA
  refine hcalls.mono fun e W' ⟨he, bel⟩ => ?_
  subst he
  have hstay := args_stay (sp := fun b => decide (b < W.heap.size)) laidOut read hA bel hlt (fun x hx => by simpa using hlt x hx)
  clear hcalls hA hval hval0 hA0 hsz hsz0 hlt hfz hnd hL hSh hG
  obtain ⟨v0, vs0, d0, ds0, p0, q0, hargs0, rfl, rfl, h0, r0⟩ := trodAll_cons hD
  obtain ⟨v1, vs1, d1, ds1, p1, q1, hargs1, rfl, rfl, h1, r1⟩ := trodAll_cons r0
  obtain ⟨hn, rfl, rfl⟩ := trodAll_nil r1
  exact ⟨_, rfl, _, _, _, [], _, [], hW', trodAll_mk1 (shut_bool Tryz.underlying4 _), hstay, rfl, bel.frame _, fun h => by cases h⟩
theorem over : Rows.linearCrashRow.holds Tryz.pinned (OpenSpec.ofChange Rows.linearCrashSpec) :=
  OpenClaim.holds_of_wide 4 Tryz.f4 rfl rfl rfl rfl rfl rfl rfl ⟨rfl, rfl, rfl, rfl, rfl⟩ rfl rfl rfl rfl rfl (by kernel_rfl) Tryz.func4 (by kernel_rfl)
    (of_decide_eq_true (by kernel_rfl)) (by unfold Func.isWrapper; first | (rw [if_pos (by decide +kernel)]; kernel_rfl) | (rw [if_neg (by decide +kernel)]; exact ⟨rfl, rfl⟩))
    (fun os started H enc _ => lifted os started H enc)
theorem cardOver : Claim7.holds Tryz.pinned (.plain (OpenSpec.ofChange Rows.linearCrashSpec)) Rows.linearCrashCard :=
  Claim7.holds_tied_plain_at .later [] [.data, .data, .data] true (true, "df5a42926168b90bc219c7360db85cd9715d5741df4d09d4f546c25b687e2454") false
    over (fun _ h => by cases h) (by kernel_rfl) (fun _ h => by cases h) linearCrash_row_tie rfl ⟨rfl, rfl⟩ (by kernel_rfl) rfl
    (fun f fn hf hfn => by
      obtain rfl : f = 4 := Option.some.inj ((show Tryz.prog.funcNamed "bedrock/bedrocklaw52.LinearCrash" = some 4 by kernel_rfl).symm.trans hf) |>.symm
      obtain rfl : fn = Tryz.f4 := (Option.some.inj (Tryz.func4.symm.trans hfn)).symm
      exact ⟨by kernel_rfl, fun j t ht => by
        rw [Tryz.params4] at ht
        have hm : t ∈ [24, 50] := by simpa using Array.mem_of_getElem? ht
        have hall : ([24, 50].all fun u => !Tryz.prog.wantsStandIn u) = true := by kernel_rfl
        exact (show Tryz.prog.wantsStandIn t = false by simpa using List.all_eq_true.1 hall t hm)⟩)
    (by kernel_rfl)
end linearCrash
theorem linearCrash_holds : Rows.LinearCrashCardSaid := linearCrash.cardOver
end Go.Proofs.YtpcjeaaplidmaaaGreatDoor
