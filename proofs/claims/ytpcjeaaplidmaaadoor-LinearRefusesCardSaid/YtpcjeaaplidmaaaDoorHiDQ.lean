/- Contracts of functions of this program, and the plain facts that they rest on. No conditions. -/
import Derived.Test.YtpcjeaaplidmaaaDoorHiCQ
set_option linter.unusedSimpArgs false
set_option linter.unusedVariables false
namespace Go.Proofs.YtpcjeaaplidmaaaDoor.Hi
open Go Go.Ab
attribute [local irreducible] callK callF loopQ vstep vskip pickE hideP
attribute [local go_sem] eC rC eE hc hP hW oW oP sR oH newC
theorem wr8 (x : Int) : IntKind.u8.wrap x = x % 256 := IntKind.wrap_u8 x
structure S where
 kd : Int
 th : Int
 call : Int
 k : Int
 key : Int
 val : Int
 old : Int
 rv : Int
 ok : Bool
 code : Int
instance : Inhabited S := ⟨⟨0, 0, 0, 0, 0, 0, 0, 0, false, 0⟩⟩
def eS (s : S) : PV := .agg [.v (.int .i64 s.kd), .v (.int .i64 s.th), .v (.int .i64 s.call), .v (.int .i64 s.k), .v (.int .u64 s.key), .v (.int .u64 s.val), .v (.int .u64 s.old), .v (.int .u64 s.rv), .v (.bool s.ok), .v (.int .i64 s.code)]
def hX (x : H) : PV := hW x.cl x.ev.length x.era
attribute [local go_sem] eS hX
def kdM (kd : Int) : Int := (kd.tmod 4 + 4).tmod 4
theorem w8b (k : Int) : IntKind.i64.wrap (k % 256) = k % 256 := i64w (by omega) (by omega)
abbrev gc (x : H) (i : Nat) : C := x.cl.getD i default
def EachI (n era : Int) (c : C) : Prop := (0 ≤ c.th ∧ c.th < 8) ∧ (1 ≤ c.k ∧ c.k ≤ 9) ∧ (0 ≤ c.bg ∧ c.bg < n) ∧ (c.en = -1 ∨ (c.bg < c.en ∧ c.en < n)) ∧ (0 ≤ c.era ∧ c.era ≤ era)
def OrdI (c d : C) : Prop := c.bg < d.bg ∧ c.era ≤ d.era ∧ (c.th = d.th → c.era < d.era ∨ (0 ≤ c.en ∧ c.en < d.bg))
def EvI (x : H) (a : Nat) : Prop :=
 (∃ i, i < x.cl.length ∧ x.ev.getD a default = (1, (i : Int)) ∧ (gc x i).bg = a ∧ ∀ j, j < x.cl.length → (j ≠ i → (gc x j).bg ≠ a) ∧ (gc x j).en ≠ a) ∨
 (∃ i, i < x.cl.length ∧ x.ev.getD a default = (2, (i : Int)) ∧ (gc x i).en = a ∧ ∀ j, j < x.cl.length → (gc x j).bg ≠ a ∧ (j ≠ i → (gc x j).en ≠ a)) ∨
 (x.ev.getD a default = (3, 0) ∧ ∀ j, j < x.cl.length → (gc x j).bg ≠ a ∧ (gc x j).en ≠ a)
structure Inv (x : H) : Prop where
 b : ∀ t : Int, 0 ≤ t → t < 8 → x.b t.toNat = busyM x.cl x.era t
 each : ∀ i, i < x.cl.length → EachI x.ev.length x.era (gc x i)
 ord : ∀ i k, i < k → k < x.cl.length → OrdI (gc x i) (gc x k)
 evs : ∀ a, a < x.ev.length → EvI x a
 era : 0 ≤ x.era
def okI (x : H) (s : S) : Prop := 0 ≤ s.th ∧ s.th < 8 ∧ 1 ≤ s.k % 256 ∧ s.k % 256 ≤ 9 ∧ busyM x.cl x.era s.th = false
instance (x : H) (s : S) : Decidable (okI x s) := by unfold okI; exact inferInstance
def doH (x : H) (s : S) : H :=
 if kdM s.kd = 0 ∨ kdM s.kd = 1 then (if okI x s then invH x s.th (s.k % 256) s.key s.val s.old else x)
 else if kdM s.kd = 2 then (if pendM x.cl s.call ∧ (x.cl.getD s.call.toNat default).era = x.era then retH x s.call s.rv s.ok s.code else x)
 else crashH x
end Go.Proofs.YtpcjeaaplidmaaaDoor.Hi