/- What the row's condition and the world's shape give: the fact on the package-level variables. No conditions. -/
import Derived.Test.YtckhjklcfagkoaaGreatDoorEnv2
import Derived.ProofKit
namespace Go.Proofs.YtckhjklcfagkoaaGreatDoor
open Go Go.Ab
theorem gl_of {W : World} (hs : W.ShapedOpen Tryz.prog) {rest : List (String × DataW Unit)} (hl : laidMet Tryz.prog (("internal/strconv.uint64pow10", Lib.tabData .u64 Lib.pow10Tab) :: rest) W) : Glob.G (Zall W) W := by
 have h1 : Lib.TabIs Tryz.prog W "internal/strconv.uint64pow10" .u64 Lib.pow10Tab :=
  Lib.tabIs_of_head (g := 1) (t := 202) (e := 32) (n := 20) gn0 (by kernel_rfl) (by kernel_rfl) (by kernel_rfl) (by kernel_rfl) (by kernel_rfl) hl
 obtain ⟨m, h2⟩ := cell_of_shapedOpen_int (g := 0) (t := 3) (zero := #[.int .i64 0]) (k := .i64) hs (of_decide_eq_true (by kernel_rfl)) (by kernel_rfl) rfl (by kernel_rfl) (by kernel_rfl) (by kernel_rfl)
 exact ⟨⟨tabIs_lt gn0 h1, cell_lt h2⟩, h1, m, h2⟩
end Go.Proofs.YtckhjklcfagkoaaGreatDoor
