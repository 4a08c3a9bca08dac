/- The law TopLeaf holds of the program for every input: it returns true, and its arguments read afterwards as before. No condition. -/
import Derived.Test.YtegekpjkbedngaaGreatTlBQ
import Derived.Test.YtegekpjkbedngaaGreatRows
import Derived.WalkKit
import Derived.SizedLaws
set_option linter.unusedSectionVars false
namespace Go.Proofs.YtegekpjkbedngaaGreat
open Go Go.Ab
open Go.ChangeShapes Go.WideShapes Go.ChangeAt Go.RowKit
set_option linter.unusedVariables false
set_option linter.unusedSimpArgs false
namespace topLeafR
theorem own : ownKnob Tryz.prog.godebug = none := by kernel_rfl
theorem laidOut : laidOutB Tryz.prog = true := by kernel_rfl
theorem read : ∀ t, t ∈ [22, 5] → Tryz.prog.readableRec t = true ∧ t < Tryz.prog.types.size := by
  intro t ht
  simp only [List.mem_cons, List.not_mem_nil, or_false] at ht
  rcases ht with rfl | rfl <;> exact ⟨by kernel_rfl, of_decide_eq_true (by kernel_rfl)⟩
theorem okT : shOks E.tys 5 [22, 5] = true := by kernel_rfl
theorem law (ps : List PV) (h : ShpA E.tys 5 [22, 5] ps) : PCalls Tryz.prog 3 ps (.v (.bool true)) := by
  obtain ⟨c, r, rfl, h1, c2, r2, rfl, h2, rfl⟩ := h
  simp only [Shp, ty5, u5] at h2
  obtain ⟨x, rfl, hx⟩ := h2
  simp only [Shp, ty22, u22] at h1
  obtain ⟨es, rfl, hes, h4⟩ := h1
  obtain ⟨l, e, q0, hq⟩ := shp_list (f := eOp) (Q := RngO) (agg := true) (es := es) (fun c hc => by
    have := h4 c hc
    simp only [Shp, ty54, u54, shpF, ty4, u4, ty27, u27] at this
    obtain ⟨_, b, rfl, ⟨x, rfl⟩, _, b2, rfl, ⟨y, rfl, hy⟩, _, b3, rfl, ⟨z, rfl, hz⟩, rfl⟩ := this
    exact ⟨⟨x, y, z⟩, rfl, ⟨rng_u64 hy, rng_u64 hz⟩⟩)
  have g := topLeaf l hq x (rng_u8 hx)
  rw [← e] at g
  exact g
set_option maxRecDepth 100000 in
theorem lifted (os : Os) (started : os.Started) (H : Type) (enc : TypeId × Value → H) :
    ReturnsInHanded {} Tryz.checked os 3 .any (Rows.topLeafSpec.pre6 enc Tryz.prog Tryz.f3 Rows.topLeafRow.domain false) (Rows.topLeafSpec.post enc Tryz.prog Tryz.f3 false true false false) := by
  refine returnsInHanded_of_change_sized (C := Tryz.checked) own started (by kernel_rfl) Tryz.func3
    (ChangeSpec.witness6 (enc := enc) (C := Tryz.checked) false ⟨#[], #[.slice none 0 0, .int .u8 0], []⟩ 8 (by kernel_rfl) (by kernel_rfl) (by kernel_rfl) (by kernel_rfl)) ?_
  intro W base args ds gs before hval0 hW hcnd hsz0 _
  have hval : ∀ (j : Nat) t v, Tryz.f3.params[j]? = some t → args[j]? = some v → Value.okWide Tryz.prog W .any base t v := hval0
  have hW' := hW
  obtain ⟨p, q, hA0, hV, rfl, hfz, hnd⟩ := hW
  have hA : DataW.TrodAll enc Tryz.prog W 0 (fun _ => true) true Tryz.f3.params.toList args.toList ds p := hA0
  obtain ⟨rfl, rfl⟩ := trodVars_none hV
  have hlt : ∀ x ∈ p, x.block < W.heap.size := fun x hx => hW'.lt x (by simpa using hx)
  have hsz : (DataW.weightsEach Tryz.prog (Tryz.f3.params.toList ++ []) (ds ++ [])).all (· ≤ reachBytes) = true := hsz0
  rw [Tryz.params3] at hA hval hsz
  rw [List.append_nil, List.append_nil] at hsz
  have hcalls := law_calls (enc := enc) (E := E) (d := 5) law okT hA (fun j t v g1 g2 => hval j t v (by simpa using g1) g2) (fun n hn => by simpa using List.all_eq_true.1 hsz n hn) trivial
  have hD := hA
  refine hcalls.mono fun e W' ⟨he, bel⟩ => ?_
  subst he
  have hstay := args_stay (sp := fun b => decide (b < W.heap.size)) laidOut read hA bel hlt (fun x hx => by simpa using hlt x hx)
  clear hcalls hA hval hval0 hA0 hsz hsz0 hlt hfz hnd
  obtain ⟨v0, vs0, d0, ds0, p0, q0, hargs0, rfl, rfl, h0, r0⟩ := trodAll_cons hD
  obtain ⟨v1, vs1, d1, ds1, p1, q1, hargs1, rfl, rfl, h1, r1⟩ := trodAll_cons r0
  obtain ⟨hn, rfl, rfl⟩ := trodAll_nil r1
  exact ⟨_, rfl, _, _, _, [], _, [], hW', trodAll_mk1 (shut_bool Tryz.underlying4 _), hstay, rfl, bel.frame _, fun h => by cases h⟩
theorem over : Rows.topLeafRow.holds Tryz.pinned (OpenSpec.ofChange Rows.topLeafSpec) :=
  OpenClaim.holds_of_wide 3 Tryz.f3 rfl rfl rfl rfl rfl rfl rfl ⟨rfl, rfl, rfl, rfl, rfl⟩ rfl rfl rfl rfl rfl (by kernel_rfl) Tryz.func3 (by kernel_rfl)
    (of_decide_eq_true (by kernel_rfl)) (by unfold Func.isWrapper; first | (rw [if_pos (by decide +kernel)]; kernel_rfl) | (rw [if_neg (by decide +kernel)]; exact ⟨rfl, rfl⟩))
    (fun os started H enc _ => lifted os started H enc)
end topLeafR
theorem topLeaf_holds : Rows.TopLeafSaid := topLeafR.over
end Go.Proofs.YtegekpjkbedngaaGreat
