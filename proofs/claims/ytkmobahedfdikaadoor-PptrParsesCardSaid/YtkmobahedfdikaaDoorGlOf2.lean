/- What the row's condition and the world's shape give: the facts on the package-level variables. No conditions. -/
import Derived.Test.YtkmobahedfdikaaDoorEnv2
import Derived.ProofKit
import Derived.Stop.LaidErr
import Derived.Stop.Joined
namespace Go.Proofs.YtkmobahedfdikaaDoor
open Go Go.Ab
open Go.ChangeShapes Go.WideShapes Go.ChangeAt Go.RowKit
open Go.Extern.Stop Go.Stop Go.Extern
theorem gnES : Tryd.prog.globalNamed "strconv.ErrSyntax" = some 2 := by kernel_rfl
theorem gnER : Tryd.prog.globalNamed "strconv.ErrRange" = some 3 := by kernel_rfl
theorem starE : "*" ++ "errors.errorString" = "*errors.errorString" := by decide
theorem rowE (u : TypeId) (h : Tryd.prog.typeName? 3 u = some "*errors.errorString") : u = 98 :=
  typeName_ptr_named (nm := "errors.errorString") (by rw [starE]; kernel_rfl) (by kernel_rfl) (by decide) u (by rw [starE]; exact h)
theorem cell_of_var {P : Program} {W : World} {n : String} {g : Nat} {v : Value} (hg : P.globalNamed n = some g) (h : W.var? P n = some #[v]) : W.cell? ⟨g, 0, none⟩ = some v := by
  have := World.var?_cell hg h 0
  rw [this]; rfl
/-- The facts on the package-level variables, out of the row's condition and the world's shape. -/
theorem gl_of {W : World} (hs : W.ShapedOpen Tryd.prog) {rest : List (String × DataW Unit)} {t1 t2 : List UInt8} (hl : laidMet Tryd.prog (("internal/strconv.uint64pow10", Lib.tabData .u64 Lib.pow10Tab) :: ("strconv.ErrRange", .iface "*errors.errorString" (.ptr (.agg [.lit (.string t1)]))) :: ("strconv.ErrSyntax", .iface "*errors.errorString" (.ptr (.agg [.lit (.string t2)]))) :: rest) W) : Glob.G (Zall W) W := by
  have h1 : Lib.TabIs Tryd.prog W "internal/strconv.uint64pow10" .u64 Lib.pow10Tab :=
    Lib.tabIs_of_head (g := 0) (t := 78) (e := 22) (n := 20) gn0 (by kernel_rfl) (by kernel_rfl) (by kernel_rfl) (by kernel_rfl) (by kernel_rfl) hl
  obtain ⟨m, h2⟩ := cell_of_shapedOpen_int (g := 1) (t := 3) (zero := #[.int .i64 0]) (k := .i64) hs (of_decide_eq_true (by kernel_rfl)) (by kernel_rfl) rfl (by kernel_rfl) (by kernel_rfl) (by kernel_rfl)
  obtain ⟨_, _, hv1, _, _, _⟩ := laid_sentinel (g := 3) (ti := 65) (tp := 98) (te := 100) (ts := 9) (laidMet.tail hl) gnER (by kernel_rfl) Tryd.underlying65 rowE Tryd.underlying98 Tryd.underlying100 rfl rfl Tryd.underlying9 (by kernel_rfl) (by kernel_rfl)
  obtain ⟨_, _, hv2, _, _, _⟩ := laid_sentinel (g := 2) (ti := 65) (tp := 98) (te := 100) (ts := 9) (laidMet.tail (laidMet.tail hl)) gnES (by kernel_rfl) Tryd.underlying65 rowE Tryd.underlying98 Tryd.underlying100 rfl rfl Tryd.underlying9 (by kernel_rfl) (by kernel_rfl)
  have c1 := cell_of_var gnER hv1
  have c2 := cell_of_var gnES hv2
  exact ⟨⟨⟨tabIs_lt gn0 h1, cell_lt h2⟩, ⟨cell_lt c2, cell_lt c1⟩, ⟨_, c2, .inr ⟨_, _, rfl⟩⟩, ⟨_, c1, .inr ⟨_, _, rfl⟩⟩⟩, h1, m, h2⟩
end Go.Proofs.YtkmobahedfdikaaDoor
