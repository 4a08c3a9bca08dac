/- The law TopPossible holds of the program for every input: it returns true, and its arguments read afterwards as before. No condition. -/
import Derived.Test.YtlldhofcdfejnaaTpLQ
import Derived.Test.YtlldhofcdfejnaaRows
import Derived.WalkKit
import Derived.SizedLaws
namespace Go.Proofs.Ytlldhofcdfejnaa
open Go Go.Ab
open Go.ChangeShapes Go.WideShapes Go.ChangeAt Go.RowKit
set_option linter.unusedVariables false
set_option linter.unusedSimpArgs false
namespace topPossible
theorem own : ownKnob Try.prog.godebug = none := by kernel_rfl
theorem laidOut : laidOutB Try.prog = true := by kernel_rfl
theorem read : ∀ t, t ∈ [22, 23, 23] → Try.prog.readableRec t = true ∧ t < Try.prog.types.size := by
  intro t ht
  simp only [List.mem_cons, List.not_mem_nil, or_false] at ht
  rcases ht with rfl | rfl | rfl <;> exact ⟨by kernel_rfl, of_decide_eq_true (by kernel_rfl)⟩
theorem okT : shOks E.tys 5 [22, 23, 23] = true := by kernel_rfl
theorem law (ps : List PV) (h : ShpA E.tys 5 [22, 23, 23] ps) : PCalls Try.prog 3 ps (.v (.bool true)) := by
  obtain ⟨c, r, rfl, h1, c2, r2, rfl, h2, c3, r3, rfl, h3, rfl⟩ := h
  simp only [Shp, ty23] at h2 h3
  obtain ⟨a, rfl, ha⟩ := h2
  obtain ⟨v, rfl, hv⟩ := h3
  simp only [Shp, ty22] at h1
  obtain ⟨es, rfl, hes, h4⟩ := h1
  obtain ⟨l, e, q0, hq⟩ := shp_list (f := eBS) (Q := RngB) (agg := true) (es := es) (fun c hc => by
    have := h4 c hc
    simp only [Shp, ty47, shpF, ty5, ty23] at this
    obtain ⟨_, b, rfl, ⟨x, rfl, hx⟩, _, b2, rfl, ⟨y, rfl, hy⟩, _, b3, rfl, ⟨z, rfl, hz⟩, _, b4, rfl, ⟨u, rfl, hu⟩, rfl⟩ := this
    exact ⟨⟨x, y, z, u⟩, rfl, ⟨rng_u8 hx, rng_u8 hy, rng_u8 hz, rng_u64 hu⟩⟩)
  have g := tPoss l (by simp only [reachBytes] at hes; omega) hq a v (rng_u64 ha) (rng_u64 hv)
  rw [← e] at g
  exact g
set_option maxRecDepth 100000 in
theorem lifted (os : Os) (started : os.Started) (H : Type) (enc : TypeId × Value → H) :
    ReturnsInHanded {} Try.checked os 3 .any (Rows.topPossibleSpec.pre6 enc Try.prog Try.f3 Rows.topPossibleRow.domain false) (Rows.topPossibleSpec.post enc Try.prog Try.f3 false true false false) := by
  refine returnsInHanded_of_change_sized (C := Try.checked) own started (by kernel_rfl) Try.func3
    (ChangeSpec.witness6 (enc := enc) (C := Try.checked) false ⟨#[], #[.slice none 0 0, .int .u64 0, .int .u64 0], []⟩ 8 (by kernel_rfl) (by kernel_rfl) (by kernel_rfl) (by kernel_rfl)) ?_
  intro W base args ds gs before hval0 hW hcnd hsz0 _
  have hval : ∀ (j : Nat) t v, Try.f3.params[j]? = some t → args[j]? = some v → Value.okWide Try.prog W .any base t v := hval0
  have hW' := hW
  obtain ⟨p, q, hA0, hV, rfl, hfz, hnd⟩ := hW
  have hA : DataW.TrodAll enc Try.prog W 0 (fun _ => true) true Try.f3.params.toList args.toList ds p := hA0
  obtain ⟨rfl, rfl⟩ := trodVars_none hV
  have hlt : ∀ x ∈ p, x.block < W.heap.size := fun x hx => hW'.lt x (by simpa using hx)
  have hsz : (DataW.weightsEach Try.prog (Try.f3.params.toList ++ []) (ds ++ [])).all (· ≤ reachBytes) = true := hsz0
  rw [Try.params3] at hA hval hsz
  rw [List.append_nil, List.append_nil] at hsz
  have hcalls := law_calls (enc := enc) (E := E) (d := 5) law okT hA (fun j t v g1 g2 => hval j t v (by simpa using g1) g2) (fun n hn => by simpa using List.all_eq_true.1 hsz n hn) trivial
  have hD := hA
  refine hcalls.mono fun e W' ⟨he, bel⟩ => ?_
  subst he
  have hstay := args_stay (sp := fun b => decide (b < W.heap.size)) laidOut read hA bel hlt (fun x hx => by simpa using hlt x hx)
  clear hcalls hA hval hval0 hA0 hsz hsz0 hlt hfz hnd
  obtain ⟨v0, vs0, d0, ds0, p0, q0, hargs0, rfl, rfl, h0, r0⟩ := trodAll_cons hD
  obtain ⟨v1, vs1, d1, ds1, p1, q1, hargs1, rfl, rfl, h1, r1⟩ := trodAll_cons r0
  obtain ⟨v2, vs2, d2, ds2, p2, q2, hargs2, rfl, rfl, h2, r2⟩ := trodAll_cons r1
  obtain ⟨hn, rfl, rfl⟩ := trodAll_nil r2
  exact ⟨_, rfl, _, _, _, [], _, [], hW', trodAll_mk1 (shut_bool Try.underlying4 _), hstay, rfl, bel.frame _, fun h => by cases h⟩
theorem over : Rows.topPossibleRow.holds Try.pinned (OpenSpec.ofChange Rows.topPossibleSpec) :=
  OpenClaim.holds_of_wide 3 Try.f3 rfl rfl rfl rfl rfl rfl rfl ⟨rfl, rfl, rfl, rfl, rfl⟩ rfl rfl rfl rfl rfl (by kernel_rfl) Try.func3 (by kernel_rfl)
    (of_decide_eq_true (by kernel_rfl)) (by unfold Func.isWrapper; first | (rw [if_pos (by decide +kernel)]; kernel_rfl) | (rw [if_neg (by decide +kernel)]; exact ⟨rfl, rfl⟩))
    (fun os started H enc _ => lifted os started H enc)
end topPossible
theorem topPossible_holds : Rows.TopPossibleSaid := topPossible.over
end Go.Proofs.Ytlldhofcdfejnaa
