/- Contracts of functions of this program, and the plain facts that they rest on. No conditions. -/
import Derived.Test.YtlkffmmgcoiniaaDoorD10
set_option linter.unusedSimpArgs false
set_option linter.unusedVariables false
namespace Go.Proofs.YtlkffmmgcoiniaaDoor
open Go Go.Ab
attribute [local irreducible] callK callF loopQ vstep vskip pickE hideP
set_option maxRecDepth 100000
/-! The reading of the arguments. -/
def RngF (f : F) : Prop := (0 ≤ f.ty ∧ f.ty < 256) ∧ (-9223372036854775808 ≤ f.cnt ∧ f.cnt ≤ 9223372036854775807)
theorem rng_i64 {n : Int} (h : IntKind.i64.min ≤ n ∧ n ≤ IntKind.i64.max) : -9223372036854775808 ≤ n ∧ n ≤ 9223372036854775807 := h
theorem rng_u64 {n : Int} (h : IntKind.u64.min ≤ n ∧ n ≤ IntKind.u64.max) : 0 ≤ n ∧ n ≤ 18446744073709551615 := h
theorem rng_u16 {n : Int} (h : IntKind.u16.min ≤ n ∧ n ≤ IntKind.u16.max) : 0 ≤ n ∧ n ≤ 65535 := h
theorem rng_u8 {n : Int} (h : IntKind.u8.min ≤ n ∧ n ≤ IntKind.u8.max) : 0 ≤ n ∧ n ≤ 255 := h
theorem str_bs (s : ByteArray) : s = bs s.data.toList := rfl
theorem fields_of {d : Nat} {es : List (List PV)} (g : ∀ c, c ∈ es → Shp E.tys (d + 2) 45 c) : ∃ l : List F, es.map (wrapP true) = l.map eF ∧ l.length = es.length ∧ ∀ f, f ∈ l → RngF f := by
  obtain ⟨l, e, e2, hq⟩ := shp_list (f := eF) (Q := RngF) (agg := true) (es := es) (fun c hc => by
    have := g c hc
    simp only [Shp, ty45, shpF, ty9, ty43, ty3] at this
    obtain ⟨_, _, rfl, ⟨x1, rfl, h1⟩, _, _, rfl, ⟨x2, rfl, h2⟩, _, _, rfl, ⟨x3, rfl, h3⟩, rfl⟩ := this
    have h2 := rng_u8 h2
    exact ⟨⟨x1.data.toList, x2, x3⟩, rfl, ⟨h2.1, by simp only []; omega⟩, rng_i64 h3⟩)
  exact ⟨l, e, e2, hq⟩
theorem x_of {d : Nat} {c : List PV} (h : Shp E.tys (d + 4) 24 c) : ∃ x : X, wrapP true c = eX x ∧ Rd x := by
  simp only [Shp, ty24, shpF, ty9, ty3, ty22] at h
  obtain ⟨_, _, rfl, ⟨s, rfl, h1⟩, _, _, rfl, ⟨v, rfl, h2⟩, _, _, rfl, ⟨es, rfl, h3, g⟩, rfl⟩ := h
  obtain ⟨l, e, e2, hq⟩ := fields_of g
  have hall : ∀ i, i < l.length → RngF (l.getD i default) := fun i hi => by
    rw [List.getD_eq_getElem?_getD, List.getElem?_eq_getElem hi]
    exact hq _ (List.getElem_mem hi)
  refine ⟨⟨s.data.toList, v, l⟩, ?_, ⟨?_, rng_i64 h2, fun i hi => (hall i hi).1, fun i hi => (hall i hi).2⟩⟩
  · show PV.agg _ = PV.agg _
    congr 1
    show [PV.v (.string s), PV.v (.int .i64 v), _] = [PV.v (.string (bs s.data.toList)), PV.v (.int .i64 v), PV.view 3 (l.map eF)]
    rw [← e]
    rfl
  · show l.length ≤ _
    rw [e2]
    have : reachBytes = 140737488351232 := rfl
    omega
end Go.Proofs.YtlkffmmgcoiniaaDoor
