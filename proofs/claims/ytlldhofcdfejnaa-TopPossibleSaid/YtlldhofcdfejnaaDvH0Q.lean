/- Contracts of functions of this program, and the plain facts that they rest on. No conditions. -/
import Derived.Test.YtlldhofcdfejnaaDvF0Q
set_option linter.unusedSimpArgs false
set_option linter.unusedVariables false
namespace Go.Proofs.Ytlldhofcdfejnaa
open Go Go.Ab
attribute [local irreducible] callK callF loopQ vstep vskip pickE hideP
set_option maxRecDepth 100000
attribute [local go_sem] deO peO cuO liO thO hiO noO
theorem fail_p (A : Dv) (k : Nat) (e : Int) : (A.fail k e).n = A.n ∧ (A.fail k e).per = A.per ∧ (A.fail k e).cur = A.cur ∧ (A.fail k e).hist = A.hist ∧ (A.fail k e).done = A.done ∧ (A.fail k e).note = A.note ∧ (A.fail k e).off = A.off := by
 unfold Dv.fail; split <;> exact ⟨rfl, rfl, rfl, rfl, rfl, rfl, rfl⟩
theorem cnt_p (A : Dv) (k : Nat) (v : Bool) : (A.cnt k v).n = A.n ∧ (A.cnt k v).per = A.per ∧ (A.cnt k v).cur = A.cur ∧ (A.cnt k v).hist = A.hist ∧ (A.cnt k v).done = A.done ∧ (A.cnt k v).note = A.note := by
 unfold Dv.cnt
 split
 ·obtain ⟨h1, h2, h3, h4, h5, h6, _⟩ := fail_p A k 3; exact ⟨h1, h2, h3, h4, h5, h6⟩
 ·split
  ·obtain ⟨h1, h2, h3, h4, h5, h6, _⟩ := fail_p A k 2; exact ⟨h1, h2, h3, h4, h5, h6⟩
  ·split
   ·split
    ·obtain ⟨h1, h2, h3, h4, h5, h6, _⟩ := fail_p { A with off := true } k 3; exact ⟨h1, h2, h3, h4, h5, h6⟩
    ·exact ⟨rfl, rfl, rfl, rfl, rfl, rfl⟩
   ·exact ⟨rfl, rfl, rfl, rfl, rfl, rfl⟩
theorem WF.cnt {A : Dv} (h : WF A) (k : Nat) (v : Bool) : WF (A.cnt k v) := by
 obtain ⟨e1, e2, e3, e4, e5, e6⟩ := cnt_p A k v
 exact ⟨by rw [e1]; exact h.n0, by rw [e1]; exact h.n6, by rw [e1, e2]; exact h.per, by rw [e1, e3]; exact h.cur, by rw [e4]; exact h.hist, by rw [e1, e4]; exact h.top, by rw [e4, e5]; exact h.len, h.jl⟩
theorem jk_cnt (A : Dv) (J : Nat → List (Int × Int)) (k r : Nat) (v : Bool) : jk (A.cnt k v) J r = jk A J r := by
 unfold jk; rw [(cnt_p A k v).2.2.2.1]
def Dv.store (A : Dv) (k : Nat) (o v : Int) : Dv := if A.cntB (A.isW o) = true then (A.cnt k (A.isW o)).put (o / 64).toNat o v else A.cnt k (A.isW o)
def jsto (A : Dv) (J : Nat → List (Int × Int)) (k : Nat) (o : Int) (g : Bool) : Nat → List (Int × Int) := if A.cntB (A.isW o) = true then jput (A.cnt k (A.isW o)) J (o / 64).toNat g else J
theorem isW_of {A : Dv} {o : Int} (h : A.isW o = true) (h0 : 0 ≤ o) : ((o / 64).toNat < A.n) ∧ o / 64 = ((o / 64).toNat : Int) ∧ o % 8 = 0 := by
 simp [Dv.isW] at h
 omega
theorem cntB_of {A : Dv} {v : Bool} (h : A.cntB v = true) : v = true := by
 simp [Dv.cntB] at h; exact h.2.1
end Go.Proofs.Ytlldhofcdfejnaa