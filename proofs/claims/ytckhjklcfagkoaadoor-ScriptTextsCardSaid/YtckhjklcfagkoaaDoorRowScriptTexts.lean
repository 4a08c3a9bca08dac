/- The law ScriptTexts holds of the program for every input: it returns true, and its arguments read afterwards as before; the variables that the row lists are tied to the program's text by the card. No condition beyond the row's own. -/
import Derived.Test.YtckhjklcfagkoaaDoorScQQ
import Derived.Test.YtckhjklcfagkoaaDoorGlOfQ
import Derived.Test.YtckhjklcfagkoaaDoorCards
import Derived.Test.YtckhjklcfagkoaaDoorTie
import Derived.WalkKit
import Derived.ProofKit
import Derived.LaidMore
import Derived.Stop.Joined
import Derived.Stop.LaidErr
import Derived.SevenTiedAt
import Derived.Lay
namespace Go.Proofs.YtckhjklcfagkoaaDoor
open Go Go.Ab
open Go.ChangeShapes Go.WideShapes Go.ChangeAt Go.RowKit
set_option linter.unusedVariables false
set_option linter.unusedSimpArgs false
namespace scriptTexts
theorem own : ownKnob Tryd.prog.godebug = none := by kernel_rfl
theorem laidOut : laidOutB Tryd.prog = true := by kernel_rfl
theorem read : ∀ t, t ∈ [25] → Tryd.prog.readableRec t = true ∧ t < Tryd.prog.types.size := by
  intro t ht
  simp only [List.mem_cons, List.not_mem_nil, or_false] at ht
  rcases ht with rfl <;> exact ⟨by kernel_rfl, of_decide_eq_true (by kernel_rfl)⟩
theorem okT : shOks E.tys 5 [25] = true := by kernel_rfl
theorem law (ps : List PV) (h : ShpA E.tys 5 [25] ps) : PCalls Tryd.prog 3 ps (.v (.bool true)) := by
  obtain ⟨c0, r0, rfl, h0, rfl⟩ := h
  obtain ⟨x, e0, R, hc⟩ := ev_of h0
  have g := c3 x R hc
  rw [← e0] at g
  exact g

set_option maxRecDepth 100000 in
theorem lifted (os : Os) (started : os.Started) (H : Type) (enc : TypeId × Value → H) :
    ReturnsInHanded {} Tryd.checked os 3 .any (fun w args => (Rows.scriptTextsSpec.pre enc Tryd.prog Tryd.f3 Rows.scriptTextsRow.domain false w args ∧ laidMetH Tryd.prog Rows.scriptTextsRow.laid w) ∧ sizedMet enc Tryd.prog Tryd.f3 (OpenSpec.ofChange Rows.scriptTextsSpec) false w args)
      (Rows.scriptTextsSpec.post enc Tryd.prog Tryd.f3 false true false false) := by
  refine returnsInHanded_laid_shaped (C := Tryd.checked) (X := fun w _ => laidMetH Tryd.prog Rows.scriptTextsRow.laid w) (fun _ _ _ hh h => h.of_heap hh) own started (by kernel_rfl) Tryd.func3
    (ChangeSpec.witness_shaped (enc := enc) (C := Tryd.checked) (os := os) (X := fun w _ => laidMetH Tryd.prog Rows.scriptTextsRow.laid w) false (World.laidAll Tryd.prog os Rows.scriptTextsRow.laid) #[.agg #[.int .i64 0, .int .i64 0, .int .u64 0, .int .u64 0, .int .u64 0, .int .i64 0, .int .i64 0, .slice none 0 0]] 8 (World.laidAll_os _ _ _) (World.shaped_of_ZipB (by kernel_rfl) (by kernel_rfl)) (by kernel_rfl) (by kernel_rfl) (by kernel_rfl) (by rw [MakeChecks.laidMetH_plain _ _ _ (by kernel_rfl)]; exact laidMet_laidAll _ (by kernel_rfl) (by kernel_rfl))) ?_
  intro W base args ds gs before hval0 hW hcnd hsz0 hL hSh _
  have hG : Glob.G (Zall W) W := gl_of hSh (by
    have h := hL
    rw [MakeChecks.laidMetH_plain _ _ _ (by kernel_rfl)] at h
    exact laidMet.tail (laidMet.tail h))
  have hval : ∀ (j : Nat) t v, Tryd.f3.params[j]? = some t → args[j]? = some v → Value.okWide Tryd.prog W .any base t v := hval0
  have hW' := hW
  obtain ⟨p, q, hA0, hV, rfl, hfz, hnd⟩ := hW
  have hA : DataW.TrodAll enc Tryd.prog W 0 (fun _ => true) true Tryd.f3.params.toList args.toList ds p := hA0
  obtain ⟨rfl, rfl⟩ := trodVars_none hV
  have hlt : ∀ x ∈ p, x.block < W.heap.size := fun x hx => hW'.lt x (by simpa using hx)
  have hsz : (DataW.weightsEach Tryd.prog (Tryd.f3.params.toList ++ []) (ds ++ [])).all (· ≤ reachBytes) = true := hsz0
  rw [Tryd.params3] at hA hval hsz
  rw [List.append_nil, List.append_nil] at hsz
  have hcalls := law_calls (enc := enc) (E := E) (d := 5) law okT hA (fun j t v g1 g2 => hval j t v (by simpa using g1) g2) (fun n hn => by simpa using List.all_eq_true.1 hsz n hn) hG
  have hD := hA
  refine hcalls.mono fun e W' ⟨he, bel⟩ => ?_
  subst he
  have hstay := args_stay (sp := fun b => decide (b < W.heap.size)) laidOut read hA bel hlt (fun x hx => by simpa using hlt x hx)
  clear hcalls hA hval hval0 hA0 hsz hsz0 hlt hfz hnd hL hSh hG
  obtain ⟨v0, vs0, d0, ds0, p0, q0, hargs0, rfl, rfl, h0, r0⟩ := trodAll_cons hD
  obtain ⟨hn, rfl, rfl⟩ := trodAll_nil r0
  exact ⟨_, rfl, _, _, _, [], _, [], hW', trodAll_mk1 (shut_bool Tryd.underlying4 _), hstay, rfl, bel.frame _, fun h => by cases h⟩
theorem over : Rows.scriptTextsRow.holds Tryd.pinned (OpenSpec.ofChange Rows.scriptTextsSpec) :=
  OpenClaim.holds_of_wide 3 Tryd.f3 rfl rfl rfl rfl rfl rfl rfl ⟨rfl, rfl, rfl, rfl, rfl⟩ rfl rfl rfl rfl rfl (by kernel_rfl) Tryd.func3 (by kernel_rfl)
    (of_decide_eq_true (by kernel_rfl)) (by unfold Func.isWrapper; first | (rw [if_pos (by decide +kernel)]; kernel_rfl) | (rw [if_neg (by decide +kernel)]; exact ⟨rfl, rfl⟩))
    (fun os started H enc _ => lifted os started H enc)
theorem cardOver : Claim7.holds Tryd.pinned (.plain (OpenSpec.ofChange Rows.scriptTextsSpec)) Rows.scriptTextsCard :=
  Claim7.holds_tied_plain_at .later [] [.data, .data, .data, .data, .sentinel, .sentinel, .pinned] true (true, "7123fb18ef0edb8a4f2814f3a6efd029090f35270197e9ba71df987632913e04") true
    over (fun _ h => by cases h) (by kernel_rfl) (fun _ h => by cases h) scriptTexts_row_tie rfl ⟨rfl, rfl⟩ (by kernel_rfl) rfl
    (fun f fn hf hfn => by
      obtain rfl : f = 3 := Option.some.inj ((show Tryd.prog.funcNamed "bedrock/bedrocklaw06.ScriptTexts" = some 3 by kernel_rfl).symm.trans hf) |>.symm
      obtain rfl : fn = Tryd.f3 := (Option.some.inj (Tryd.func3.symm.trans hfn)).symm
      exact ⟨by kernel_rfl, fun j t ht => by
        rw [Tryd.params3] at ht
        have hm : t ∈ [25] := by simpa using Array.mem_of_getElem? ht
        have hall : ([25].all fun u => !Tryd.prog.wantsStandIn u) = true := by kernel_rfl
        exact (show Tryd.prog.wantsStandIn t = false by simpa using List.all_eq_true.1 hall t hm)⟩)
    (by kernel_rfl)
end scriptTexts
theorem scriptTexts_holds : Rows.ScriptTextsCardSaid := scriptTexts.cardOver
end Go.Proofs.YtckhjklcfagkoaaDoor
