/- What the row's condition and the world's shape give: the facts on the package-level variables. No conditions. -/
import Derived.Test.YtlkffmmgcoiniaaDoorEnv2
import Derived.ProofKit
import Derived.Stop.LaidErr
import Derived.Stop.Joined
namespace Go.Proofs.YtlkffmmgcoiniaaDoor
open Go Go.Ab
open Go.ChangeShapes Go.WideShapes Go.ChangeAt Go.RowKit
open Go.Extern.Stop Go.Stop Go.Extern
theorem cells_of_names {H : Type} {enc : TypeId × Value → H} {P : Program} {w : World} {base : Nat} {sp : Nat → Bool} {held : Bool} {fuel : Nat} {t e : TypeId} {n : Nat} {cs : List Value} {ss : List (List UInt8)} {p : List MemPlace}
    (ht : P.underlying t = some (.array n e)) (he : P.underlying e = some .string) (hce : P.cellsOf e = 1) (hct : P.cellsOf t = n)
    (h : DataW.trod enc P w base sp held fuel t cs = some (.agg (ss.map fun s => .lit (.string s)), p)) : cs = ss.map fun s => Value.string ⟨s.toArray⟩ := by
  cases fuel with
  | zero => simp [DataW.trod] at h
  | succ fuel =>
    simp only [DataW.trod, ht, hce, hct, Nat.mul_one] at h
    split at h
    · rename_i hl
      obtain ⟨xs, hm, hx⟩ := Option.map_eq_some_iff.1 h
      have hxs : xs.map (·.1) = ss.map fun s => (DataW.lit (.string s) : DataW H) := by
        have := congrArg Prod.fst hx
        simpa using this
      have hxl : xs.length = n := by simpa using Lib.mapM_length hm
      have hzl : ss.length = n := by
        have := congrArg List.length hxs
        simp at this
        omega
      apply List.ext_getElem?
      intro i
      by_cases hi : i < n
      · obtain ⟨b, hb, hf⟩ := Lib.mapM_at hm i i (by simp [hi])
        obtain ⟨z, hc, rfl, _⟩ := DataW.trod_string he hf
        have h1 : cs[i]? = some (.string z) := by
          have := congrArg (·[0]?) hc
          simpa [List.getElem?_take, List.getElem?_drop] using this
        have h2 : (xs.map (·.1))[i]? = some (DataW.lit (.string z.data.toList) : DataW H) := by simp [hb]
        rw [hxs] at h2
        simp only [List.getElem?_map, Option.map_eq_some_iff, DataW.lit.injEq, Lit.string.injEq] at h2
        obtain ⟨z', hz', rfl⟩ := h2
        simp [h1, hz']
      · rw [List.getElem?_eq_none (by omega), List.getElem?_eq_none (by simp; omega)]
    · cases h
theorem names_of_head {P : Program} {W : World} {name : String} {ss : List (List UInt8)} {rest : List (String × DataW Unit)} {g : Nat} {t e : TypeId} {n : Nat}
    (hg : P.globalNamed name = some g) (hty : (P.globals[g]?).map (·.type) = some t) (ht : P.underlying t = some (.array n e)) (he : P.underlying e = some .string) (hce : P.cellsOf e = 1) (hct : P.cellsOf t = n)
    (h : laidMet P ((name, .agg (ss.map fun s => .lit (.string s))) :: rest) W) : VarIs P W name (ss.map fun s => Value.string ⟨s.toArray⟩) := by
  obtain ⟨ps, ⟨g', t', cs, fuel, p, q, hg', ht', hvar, hd, _, _⟩, _⟩ := h
  obtain rfl := Option.some.inj (hg.symm.trans hg')
  obtain rfl := Option.some.inj (hty.symm.trans ht')
  unfold VarIs
  rw [hvar, ← cells_of_names ht he hce hct hd]
theorem gnES : Tryd.prog.globalNamed "strconv.ErrSyntax" = some 3 := by kernel_rfl
theorem gnER : Tryd.prog.globalNamed "strconv.ErrRange" = some 4 := by kernel_rfl
theorem starE : "*" ++ "errors.errorString" = "*errors.errorString" := by decide
theorem rowE (u : TypeId) (h : Tryd.prog.typeName? 3 u = some "*errors.errorString") : u = 161 :=
  typeName_ptr_named (nm := "errors.errorString") (by rw [starE]; kernel_rfl) (by kernel_rfl) (by decide) u (by rw [starE]; exact h)
theorem cell_of_var {P : Program} {W : World} {n : String} {g : Nat} {v : Value} (hg : P.globalNamed n = some g) (h : W.var? P n = some #[v]) : W.cell? ⟨g, 0, none⟩ = some v := by
  have := World.var?_cell hg h 0
  rw [this]; rfl
def widthZs : List Int := [0, 64, 64, 32, 16, 8, 1, 64]
/-- The facts on the package-level variables, out of the row's condition and the world's shape. -/
theorem gl_of {W : World} (hs : W.ShapedOpen Tryd.prog) {rest rest1 rest2 : List (String × DataW Unit)} {t1 t2 : List UInt8} (hl : laidMet Tryd.prog (("internal/strconv.uint64pow10", Lib.tabData .u64 Lib.pow10Tab) :: rest) W ∧
    laidMet Tryd.prog (("strconv.ErrRange", .iface "*errors.errorString" (.ptr (.agg [.lit (.string t1)]))) :: ("strconv.ErrSyntax", .iface "*errors.errorString" (.ptr (.agg [.lit (.string t2)]))) :: rest1) W ∧
    laidMet Tryd.prog (("bedrock/layout.widths", Lib.tabData .i64 widthZs) :: ("bedrock/layout.typeNames", .agg (nameBs.map fun s => .lit (.string s))) :: rest2) W) : Glob.G (Zall W) W := by
  have h1 : Lib.TabIs Tryd.prog W "internal/strconv.uint64pow10" .u64 Lib.pow10Tab :=
    Lib.tabIs_of_head (g := 2) (t := 144) (e := 54) (n := 20) gn0 (by kernel_rfl) (by kernel_rfl) (by kernel_rfl) (by kernel_rfl) (by kernel_rfl) hl.1
  obtain ⟨m, h2⟩ := cell_of_shapedOpen_int (g := 5) (t := 3) (zero := #[.int .i64 0]) (k := .i64) hs (of_decide_eq_true (by kernel_rfl)) (by kernel_rfl) rfl (by kernel_rfl) (by kernel_rfl) (by kernel_rfl)
  have h3 : Lib.TabIs Tryd.prog W "bedrock/layout.widths" .i64 widthZs :=
    Lib.tabIs_of_head (g := 1) (t := 113) (e := 3) (n := 8) gnW (by kernel_rfl) (by kernel_rfl) (by kernel_rfl) (by kernel_rfl) (by kernel_rfl) hl.2.2
  have h4 : VarIs Tryd.prog W "bedrock/layout.typeNames" (nameBs.map fun s => Value.string ⟨s.toArray⟩) :=
    names_of_head (g := 0) (t := 109) (e := 9) (n := 8) gnN (by kernel_rfl) (by kernel_rfl) (by kernel_rfl) (by kernel_rfl) (by kernel_rfl) (laidMet.tail hl.2.2)
  have h3' : VarIs Tryd.prog W "bedrock/layout.widths" widthVs := h3
  obtain ⟨_, _, hv1, _, _, _⟩ := laid_sentinel (g := 4) (ti := 105) (tp := 161) (te := 163) (ts := 9) hl.2.1 gnER (by kernel_rfl) Tryd.underlying105 rowE Tryd.underlying161 Tryd.underlying163 rfl rfl Tryd.underlying9 (by kernel_rfl) (by kernel_rfl)
  obtain ⟨_, _, hv2, _, _, _⟩ := laid_sentinel (g := 3) (ti := 105) (tp := 161) (te := 163) (ts := 9) (laidMet.tail hl.2.1) gnES (by kernel_rfl) Tryd.underlying105 rowE Tryd.underlying161 Tryd.underlying163 rfl rfl Tryd.underlying9 (by kernel_rfl) (by kernel_rfl)
  have c1 := cell_of_var gnER hv1
  have c2 := cell_of_var gnES hv2
  exact ⟨⟨⟨tabIs_lt gn0 h1, cell_lt h2⟩, ⟨cell_lt c2, cell_lt c1⟩, ⟨_, c2, .inr ⟨_, _, rfl⟩⟩, ⟨_, c1, .inr ⟨_, _, rfl⟩⟩⟩, h1, ⟨m, h2⟩, ⟨varIs_lt gnN h4, varIs_lt gnW h3'⟩, h3', h4⟩
end Go.Proofs.YtlkffmmgcoiniaaDoor
