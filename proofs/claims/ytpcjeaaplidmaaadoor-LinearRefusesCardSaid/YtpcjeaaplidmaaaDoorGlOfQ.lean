/- What the row's condition and the world's shape give: the fact on the package-level variables. No conditions. -/
import Derived.Test.YtpcjeaaplidmaaaDoorEnv2
import Derived.ProofKit
namespace Go.Proofs.YtpcjeaaplidmaaaDoor
open Go Go.Ab
theorem gl_of {W : World} (hs : W.ShapedOpen Tryd.prog) {rest : List (String × DataW Unit)} (hl : laidMet Tryd.prog (("internal/strconv.uint64pow10", Lib.tabData .u64 Lib.pow10Tab) :: rest) W) : Glob.G (Zall W) W := by
 have h1 : Lib.TabIs Tryd.prog W "internal/strconv.uint64pow10" .u64 Lib.pow10Tab :=
  Lib.tabIs_of_head (g := 0) (t := 169) (e := 25) (n := 20) gn0 (by kernel_rfl) (by kernel_rfl) (by kernel_rfl) (by kernel_rfl) (by kernel_rfl) hl
 exact ⟨⟨tabIs_lt gn0 h1, tabIs_lt gn0 h1⟩, h1⟩
end Go.Proofs.YtpcjeaaplidmaaaDoor