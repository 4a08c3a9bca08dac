/- The law ImageCrashes holds of the program for every input: it returns true, and its arguments read afterwards as before; the variables that the row lists are tied to the program's text by the card. No condition beyond the row's own. -/
import Derived.Test.YtcnbngflehiphaaDoorDvTQ
import Derived.Test.YtcnbngflehiphaaDoorGlOfQ
import Derived.Test.YtcnbngflehiphaaDoorCards
import Derived.Test.YtcnbngflehiphaaDoorTie
import Derived.WalkKit
import Derived.ProofKit
import Derived.LaidMore
import Derived.Stop.Joined
import Derived.Stop.LaidErr
import Derived.SevenTiedAt
import Derived.Lay
namespace Go.Proofs.YtcnbngflehiphaaDoor
open Go Go.Ab
open Go.ChangeShapes Go.WideShapes Go.ChangeAt Go.RowKit
set_option linter.unusedVariables false
set_option linter.unusedSimpArgs false
namespace imageCrashes
theorem own : ownKnob Tryd.prog.godebug = none := by kernel_rfl
theorem laidOut : laidOutB Tryd.prog = true := by kernel_rfl
theorem read : ∀ t, t ∈ [22, 74, 22] → Tryd.prog.readableRec t = true ∧ t < Tryd.prog.types.size := by
  intro t ht
  simp only [List.mem_cons, List.not_mem_nil, or_false] at ht
  rcases ht with rfl | rfl | rfl <;> exact ⟨by kernel_rfl, of_decide_eq_true (by kernel_rfl)⟩
theorem okT : shOks E.tys 5 [22, 74, 22] = true := by kernel_rfl
theorem law (ps : List PV) (h : ShpA E.tys 5 [22, 74, 22] ps) : PCalls Tryd.prog 12 ps (.v (.bool true)) := by
  obtain ⟨c0, r0, rfl, h0, c1, r1, rfl, h1, c2, r2, rfl, h2, rfl⟩ := h
  simp only [Shp, ty22] at h0 h2
  obtain ⟨es0, rfl, _, g0⟩ := h0
  obtain ⟨es2, rfl, _, g2⟩ := h2
  have key : ∀ es : List (List PV), (∀ c, c ∈ es → Shp E.tys 4 5 c) → ∃ a : List UInt8, es.map (wrapP false) = a.map eB := fun es g => by
    obtain ⟨a, e, _, _⟩ := shp_list (f := eB) (Q := fun _ => True) (agg := false) (es := es) (fun c hc => by
      have := g c hc
      simp only [Shp, ty5] at this
      obtain ⟨x, rfl, hx⟩ := this
      have hr := rng_u8 hx
      refine ⟨UInt8.ofNat x.toNat, ?_, trivial⟩
      have e : ((UInt8.ofNat x.toNat).toNat : Int) = x := by simp; omega
      show PV.v (.int .u8 x) = PV.v (.int .u8 ((UInt8.ofNat x.toNat).toNat : Int))
      rw [e])
    exact ⟨a, e⟩
  obtain ⟨a0, e0⟩ := key es0 g0
  obtain ⟨a2, e2⟩ := key es2 g2
  simp only [Shp, ty74] at h1
  obtain ⟨es1, rfl, _, g1⟩ := h1
  obtain ⟨a1, e1, _, q1⟩ := shp_list (f := eSt) (Q := fun x => (0 ≤ x.1 ∧ x.1 ≤ 255) ∧ (0 ≤ x.2.1 ∧ x.2.1 ≤ 255) ∧ 0 ≤ x.2.2 ∧ x.2.2 ≤ 18446744073709551615) (agg := true) (es := es1) (fun c hc => by
    have := g1 c hc
    simp only [Shp, ty79, shpF, ty5, ty42] at this
    obtain ⟨_, _, rfl, ⟨x1, rfl, h1⟩, _, _, rfl, ⟨x2, rfl, h2⟩, _, _, rfl, ⟨x3, rfl, h3⟩, rfl⟩ := this
    exact ⟨(x1, x2, x3), rfl, rng_u8 h1, rng_u8 h2, rng_u64 h3⟩)
  have g := c12 a0 a1 q1 a2
  rw [← e0, ← e1, ← e2] at g
  exact g

set_option maxRecDepth 100000 in
theorem lifted (os : Os) (started : os.Started) (H : Type) (enc : TypeId × Value → H) :
    ReturnsInHanded {} Tryd.checked os 12 .any (fun w args => (Rows.imageCrashesSpec.pre enc Tryd.prog Tryd.f12 Rows.imageCrashesRow.domain false w args ∧ laidMetH Tryd.prog Rows.imageCrashesRow.laid w) ∧ sizedMet enc Tryd.prog Tryd.f12 (OpenSpec.ofChange Rows.imageCrashesSpec) false w args)
      (Rows.imageCrashesSpec.post enc Tryd.prog Tryd.f12 false true false false) := by
  refine returnsInHanded_laid_shaped (C := Tryd.checked) (X := fun w _ => laidMetH Tryd.prog Rows.imageCrashesRow.laid w) (fun _ _ _ hh h => h.of_heap hh) own started (by kernel_rfl) Tryd.func12
    (ChangeSpec.witness_shaped (enc := enc) (C := Tryd.checked) (os := os) (X := fun w _ => laidMetH Tryd.prog Rows.imageCrashesRow.laid w) false (World.laidAll Tryd.prog os Rows.imageCrashesRow.laid) #[.slice none 0 0, .slice none 0 0, .slice none 0 0] 8 (World.laidAll_os _ _ _) (World.shaped_of_ZipB (by kernel_rfl) (by kernel_rfl)) (by kernel_rfl) (by kernel_rfl) (by kernel_rfl) (by rw [MakeChecks.laidMetH_plain _ _ _ (by kernel_rfl)]; exact laidMet_laidAll _ (by kernel_rfl) (by kernel_rfl))) ?_
  intro W base args ds gs before hval0 hW hcnd hsz0 hL hSh _
  have hG : Glob.G (Zall W) W := gl_of hSh (by
    have h := hL
    rw [MakeChecks.laidMetH_plain _ _ _ (by kernel_rfl)] at h
    exact laidMet.tail (laidMet.tail h))
  have hval : ∀ (j : Nat) t v, Tryd.f12.params[j]? = some t → args[j]? = some v → Value.okWide Tryd.prog W .any base t v := hval0
  have hW' := hW
  obtain ⟨p, q, hA0, hV, rfl, hfz, hnd⟩ := hW
  have hA : DataW.TrodAll enc Tryd.prog W 0 (fun _ => true) true Tryd.f12.params.toList args.toList ds p := hA0
  obtain ⟨rfl, rfl⟩ := trodVars_none hV
  have hlt : ∀ x ∈ p, x.block < W.heap.size := fun x hx => hW'.lt x (by simpa using hx)
  have hsz : (DataW.weightsEach Tryd.prog (Tryd.f12.params.toList ++ []) (ds ++ [])).all (· ≤ reachBytes) = true := hsz0
  rw [Tryd.params12] at hA hval hsz
  rw [List.append_nil, List.append_nil] at hsz
  have hcalls := law_calls (enc := enc) (E := E) (d := 5) law okT hA (fun j t v g1 g2 => hval j t v (by simpa using g1) g2) (fun n hn => by simpa using List.all_eq_true.1 hsz n hn) hG
  have hD := hA
  refine hcalls.mono fun e W' ⟨he, bel⟩ => ?_
  subst he
  have hstay := args_stay (sp := fun b => decide (b < W.heap.size)) laidOut read hA bel hlt (fun x hx => by simpa using hlt x hx)
  clear hcalls hA hval hval0 hA0 hsz hsz0 hlt hfz hnd hL hSh hG
  obtain ⟨v0, vs0, d0, ds0, p0, q0, hargs0, rfl, rfl, h0, r0⟩ := trodAll_cons hD
  obtain ⟨v1, vs1, d1, ds1, p1, q1, hargs1, rfl, rfl, h1, r1⟩ := trodAll_cons r0
  obtain ⟨v2, vs2, d2, ds2, p2, q2, hargs2, rfl, rfl, h2, r2⟩ := trodAll_cons r1
  obtain ⟨hn, rfl, rfl⟩ := trodAll_nil r2
  exact ⟨_, rfl, _, _, _, [], _, [], hW', trodAll_mk1 (shut_bool Tryd.underlying4 _), hstay, rfl, bel.frame _, fun h => by cases h⟩
theorem over : Rows.imageCrashesRow.holds Tryd.pinned (OpenSpec.ofChange Rows.imageCrashesSpec) :=
  OpenClaim.holds_of_wide 12 Tryd.f12 rfl rfl rfl rfl rfl rfl rfl ⟨rfl, rfl, rfl, rfl, rfl⟩ rfl rfl rfl rfl rfl (by kernel_rfl) Tryd.func12 (by kernel_rfl)
    (of_decide_eq_true (by kernel_rfl)) (by unfold Func.isWrapper; first | (rw [if_pos (by decide +kernel)]; kernel_rfl) | (rw [if_neg (by decide +kernel)]; exact ⟨rfl, rfl⟩))
    (fun os started H enc _ => lifted os started H enc)
theorem cardOver : Claim7.holds Tryd.pinned (.plain (OpenSpec.ofChange Rows.imageCrashesSpec)) Rows.imageCrashesCard :=
  Claim7.holds_tied_plain_at .later [] [.data, .data, .data, .data, .pinned] true (true, "6e671ed213cacc2601b6d1daf84bb342209e4fc1c6cd15b1ed8c514d29f71f83") false
    over (fun _ h => by cases h) (by kernel_rfl) (fun _ h => by cases h) imageCrashes_row_tie rfl ⟨rfl, rfl⟩ (by kernel_rfl) rfl
    (fun f fn hf hfn => by
      obtain rfl : f = 12 := Option.some.inj ((show Tryd.prog.funcNamed "bedrock/bedrocklaw04.ImageCrashes" = some 12 by kernel_rfl).symm.trans hf) |>.symm
      obtain rfl : fn = Tryd.f12 := (Option.some.inj (Tryd.func12.symm.trans hfn)).symm
      exact ⟨by kernel_rfl, fun j t ht => by
        rw [Tryd.params12] at ht
        have hm : t ∈ [22, 74, 22] := by simpa using Array.mem_of_getElem? ht
        have hall : ([22, 74, 22].all fun u => !Tryd.prog.wantsStandIn u) = true := by kernel_rfl
        exact (show Tryd.prog.wantsStandIn t = false by simpa using List.all_eq_true.1 hall t hm)⟩)
    (by kernel_rfl)
end imageCrashes
theorem imageCrashes_holds : Rows.ImageCrashesCardSaid := imageCrashes.cardOver
end Go.Proofs.YtcnbngflehiphaaDoor
