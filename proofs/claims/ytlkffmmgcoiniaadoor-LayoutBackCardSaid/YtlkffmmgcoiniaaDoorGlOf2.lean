/- What the row's condition and the world's shape give: the facts on the package-level variables. No conditions. -/
import Derived.Test.YtlkffmmgcoiniaaDoorEnv2
import Derived.ProofKit
import Derived.Stop.LaidErr
namespace Go.Proofs.YtlkffmmgcoiniaaDoor
open Go Go.Ab
theorem cells_of_names {H : Type} {enc : TypeId × Value → H} {P : Program} {w : World} {base : Nat} {sp : Nat → Bool} {held : Bool} {fuel : Nat} {t e : TypeId} {n : Nat} {cs : List Value} {ss : List (List UInt8)} {p : List MemPlace}
    (ht : P.underlying t = some (.array n e)) (he : P.underlying e = some .string) (hce : P.cellsOf e = 1) (hct : P.cellsOf t = n)
    (h : DataW.trod enc P w base sp held fuel t cs = some (.agg (ss.map fun s => .lit (.string s)), p)) : cs = ss.map fun s => Value.string ⟨s.toArray⟩ := by
  cases fuel with
  | zero => simp [DataW.trod] at h
  | succ fuel =>
    simp only [DataW.trod, ht, hce, hct, Nat.mul_one] at h
    split at h
    · rename_i hl
      obtain ⟨xs, hm, hx⟩ := Option.map_eq_some_iff.1 h
      have hxs : xs.map (·.1) = ss.map fun s => (DataW.lit (.string s) : DataW H) := by
        have := congrArg Prod.fst hx
        simpa using this
      have hxl : xs.length = n := by simpa using Lib.mapM_length hm
      have hzl : ss.length = n := by
        have := congrArg List.length hxs
        simp at this
        omega
      apply List.ext_getElem?
      intro i
      by_cases hi : i < n
      · obtain ⟨b, hb, hf⟩ := Lib.mapM_at hm i i (by simp [hi])
        obtain ⟨z, hc, rfl, _⟩ := DataW.trod_string he hf
        have h1 : cs[i]? = some (.string z) := by
          have := congrArg (·[0]?) hc
          simpa [List.getElem?_take, List.getElem?_drop] using this
        have h2 : (xs.map (·.1))[i]? = some (DataW.lit (.string z.data.toList) : DataW H) := by simp [hb]
        rw [hxs] at h2
        simp only [List.getElem?_map, Option.map_eq_some_iff, DataW.lit.injEq, Lit.string.injEq] at h2
        obtain ⟨z', hz', rfl⟩ := h2
        simp [h1, hz']
      · rw [List.getElem?_eq_none (by omega), List.getElem?_eq_none (by simp; omega)]
    · cases h
theorem names_of_head {P : Program} {W : World} {name : String} {ss : List (List UInt8)} {rest : List (String × DataW Unit)} {g : Nat} {t e : TypeId} {n : Nat}
    (hg : P.globalNamed name = some g) (hty : (P.globals[g]?).map (·.type) = some t) (ht : P.underlying t = some (.array n e)) (he : P.underlying e = some .string) (hce : P.cellsOf e = 1) (hct : P.cellsOf t = n)
    (h : laidMet P ((name, .agg (ss.map fun s => .lit (.string s))) :: rest) W) : VarIs P W name (ss.map fun s => Value.string ⟨s.toArray⟩) := by
  obtain ⟨ps, ⟨g', t', cs, fuel, p, q, hg', ht', hvar, hd, _, _⟩, _⟩ := h
  obtain rfl := Option.some.inj (hg.symm.trans hg')
  obtain rfl := Option.some.inj (hty.symm.trans ht')
  unfold VarIs
  rw [hvar, ← cells_of_names ht he hce hct hd]
def widthZs : List Int := [0, 64, 64, 32, 16, 8, 1, 64]
/-- The facts on the package-level variables, out of the row's condition and the world's shape. -/
theorem gl_of {W : World} (hs : W.ShapedOpen Tryd.prog) {rest rest2 : List (String × DataW Unit)} (hl : laidMet Tryd.prog (("internal/strconv.uint64pow10", Lib.tabData .u64 Lib.pow10Tab) :: rest) W ∧
    laidMet Tryd.prog (("bedrock/layout.widths", Lib.tabData .i64 widthZs) :: ("bedrock/layout.typeNames", .agg (nameBs.map fun s => .lit (.string s))) :: rest2) W) : Glob.G (Zall W) W := by
  have h1 : Lib.TabIs Tryd.prog W "internal/strconv.uint64pow10" .u64 Lib.pow10Tab :=
    Lib.tabIs_of_head (g := 2) (t := 144) (e := 54) (n := 20) gn0 (by kernel_rfl) (by kernel_rfl) (by kernel_rfl) (by kernel_rfl) (by kernel_rfl) hl.1
  obtain ⟨m, h2⟩ := cell_of_shapedOpen_int (g := 5) (t := 3) (zero := #[.int .i64 0]) (k := .i64) hs (of_decide_eq_true (by kernel_rfl)) (by kernel_rfl) rfl (by kernel_rfl) (by kernel_rfl) (by kernel_rfl)
  have h3 : Lib.TabIs Tryd.prog W "bedrock/layout.widths" .i64 widthZs :=
    Lib.tabIs_of_head (g := 1) (t := 113) (e := 3) (n := 8) gnW (by kernel_rfl) (by kernel_rfl) (by kernel_rfl) (by kernel_rfl) (by kernel_rfl) hl.2
  have h4 : VarIs Tryd.prog W "bedrock/layout.typeNames" (nameBs.map fun s => Value.string ⟨s.toArray⟩) :=
    names_of_head (g := 0) (t := 109) (e := 9) (n := 8) gnN (by kernel_rfl) (by kernel_rfl) (by kernel_rfl) (by kernel_rfl) (by kernel_rfl) (laidMet.tail hl.2)
  have h3' : VarIs Tryd.prog W "bedrock/layout.widths" widthVs := h3
  exact ⟨⟨tabIs_lt gn0 h1, cell_lt h2⟩, h1, ⟨m, h2⟩, ⟨varIs_lt gnN h4, varIs_lt gnW h3'⟩, h3', h4⟩
end Go.Proofs.YtlkffmmgcoiniaaDoor
