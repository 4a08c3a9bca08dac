/- Contracts of functions of this program, and the plain facts that they rest on. No conditions. -/
import Derived.Test.YtlldhofcdfejnaaDvR0Q
import Derived.Test.YtlldhofcdfejnaaDvNQ
set_option linter.unusedSimpArgs false
set_option linter.unusedVariables false
namespace Go.Proofs.Ytlldhofcdfejnaa
open Go Go.Ab
attribute [local irreducible] callK callF loopQ vstep vskip pickE hideP
set_option maxRecDepth 100000
structure Inv (A : Dv) (J : Nat → List (Int × Int)) (N : Nat) : Prop where
 wf : WF A
 no : ∀ k, k < 8 → NoteOk A k
 jo : JOk A J
 bd : ∀ r, r < 6 → A.done r + (A.hist r).length ≤ N
theorem Inv.jl {A : Dv} {J : Nat → List (Int × Int)} {N : Nat} (h : Inv A J N) (hN : N ≤ 1000000000) (r : Nat) (hr : r < 6) : (jk A J r).length ≤ 1000000000 := by
 have h1 := h.jo r hr
 have h2 := h.bd r hr
 omega
theorem Inv.fresh (n : Nat) (ws : List Int) (h0 : 0 < n) (h6 : n ≤ 6) (hw : ws.length = 8 * n) : Inv (Dv.fresh n ws) J0 0 :=
 ⟨WF.fresh n ws h0 h6 hw, fun k _ x v hx => by simp [Dv.fresh] at hx, fun r _ => by rw [jk_fresh]; simp [Dv.fresh], fun r _ => by simp [Dv.fresh]⟩
theorem Inv.cnt {A : Dv} {J : Nat → List (Int × Int)} {N : Nat} (h : Inv A J N) (k : Nat) (v : Bool) : Inv (A.cnt k v) J N := by
 obtain ⟨e1, e2, e3, e4, e5, e6⟩ := cnt_p A k v
 refine ⟨h.wf.cnt k v, fun q hq => (h.no q hq).cnt k v, fun r hr => ?_, fun r hr => ?_⟩
 ·rw [jk_cnt, e5]; exact h.jo r hr
 ·rw [e4, e5]; exact h.bd r hr
theorem Inv.put {A : Dv} {J : Nat → List (Int × Int)} {N : Nat} (h : Inv A J N) (hN : N < 1000000000) {r : Nat} (hr : r < A.n) {o v : Int} (ho : o / 64 = r ∧ o % 8 = 0 ∧ 0 ≤ o) (hv : 0 ≤ v ∧ v ≤ 18446744073709551615) (g : Bool) : Inv (A.put r o v) (jput A J r g) (N + 1) := by
 have hw := h.wf
 have h6 := hw.n6
 have hb : ∀ i, i < 6 → A.done i + ((A.put r o v).hist i).length ≤ (N : Int) + 1 := by
  intro i hi
  have := h.bd i hi
  rw [put_hist]
  split
  ·rename_i e; rw [e] at this ⊢; rw [List.length_append]; simp only [List.length_cons, List.length_nil]; omega
  ·omega
 refine ⟨⟨hw.n0, hw.n6, hw.per, ?_, ?_, ?_, ?_, trivial⟩, ?_, ?_, ?_⟩
 ·show (A.cur.set (o / 8).toNat v).length = 8 * A.n; rw [List.length_set]; exact hw.cur
 ·intro i hi x hx
  rw [put_hist] at hx
  split at hx
  ·rename_i e
   rcases List.mem_append.1 hx with h1 | h1
   ·have := hw.hist r (by omega) x h1; rw [e]; exact this
   ·simp only [List.mem_singleton] at h1
    subst h1
    exact ⟨⟨by simp only; omega, ho.2.1, ho.2.2⟩, hv⟩
  ·exact hw.hist i hi x hx
 ·intro i h1 h2
  rw [put_hist, if_neg (by have : A.n ≤ i := h1; omega)]
  exact hw.top i h1 h2
 ·intro i hi
  have h1 := hb i hi
  have h2 := (hw.len i hi).1
  exact ⟨h2, by show A.done i + _ ≤ _; omega⟩
 ·intro k hk x w hx
  obtain ⟨i, h1, h2, h3, h4⟩ := h.no k hk x w hx
  refine ⟨i, h1, h2, h3, Int.le_trans h4 ?_⟩
  show A.done i + ((A.hist i).length : Int) ≤ A.done i + (((A.put r o v).hist i).length : Int)
  rw [put_hist]
  split
  ·rename_i e; rw [e, List.length_append]; simp only [List.length_cons, List.length_nil]; omega
  ·exact Int.le_refl _
 ·intro i hi
  rw [jk_put]
  have h1 := h.jo i hi
  have h2 := (hw.len i hi).1
  show _ ≤ A.done i
  split
  ·rename_i e; rw [e] at h1 h2 ⊢
   cases g
   ·simpa using h2
   ·exact h1
  ·exact h1
 ·intro i hi
  have := hb i hi
  show A.done i + _ ≤ _
  push_cast; exact this
theorem Inv.le {A : Dv} {J : Nat → List (Int × Int)} {N M : Nat} (h : Inv A J N) (hl : N ≤ M) : Inv A J M := ⟨h.wf, h.no, h.jo, fun r hr => by have := h.bd r hr; omega⟩
theorem Inv.store {A : Dv} {J : Nat → List (Int × Int)} {N : Nat} (h : Inv A J N) (hN : N < 1000000000) (k : Nat) {o v : Int} (ho : 0 ≤ o) (hv : 0 ≤ v ∧ v ≤ 18446744073709551615) (g : Bool) : Inv (A.store k o v) (jsto A J k o g) (N + 1) := by
 unfold Dv.store jsto
 split
 ·rename_i hc
  obtain ⟨h1, h2, h3⟩ := isW_of (cntB_of hc) ho
  exact (h.cnt k _).put hN (by rw [(cnt_p A k _).1]; exact h1) ⟨h2, h3, ho⟩ hv g
 ·exact (h.cnt k _).le (by omega)
theorem Inv.noted {A : Dv} {J : Nat → List (Int × Int)} {N : Nat} (h : Inv A J N) (k : Nat) {r : Nat} (hr : r < A.n) : Inv (A.noted k r) J N := by
 have hw := h.wf
 refine ⟨⟨hw.n0, hw.n6, hw.per, hw.cur, hw.hist, hw.top, hw.len, trivial⟩, ?_, h.jo, h.bd⟩
 intro q hq x v hx
 have hx : upd A.note k (updF (A.note k) (.int .i64 r) (some (A.done r + (A.hist r).length))) q x = some v := hx
 unfold upd at hx
 split at hx
 ·rename_i e
  unfold updF at hx
  split at hx
  ·rename_i e2
   simp only [Option.some.injEq] at hx
   subst hx
   have := (hw.len r (by have := hw.n6; omega)).1
   exact ⟨r, hr, e2, by omega, Int.le_refl _⟩
  ·rw [← e] at hx
   exact h.no q hq x v hx
 ·exact h.no q hq x v hx
theorem Inv.flush {A : Dv} {J : Nat → List (Int × Int)} {N : Nat} (h : Inv A J N) (k : Nat) {o : Int} (ho : 0 ≤ o) : Inv (A.flush k o) J N := by
 unfold Dv.flush
 split
 ·rename_i hc
  have hb := cntB_of hc
  simp [Dv.isB] at hb
  refine (h.cnt k _).noted k ?_
  rw [(cnt_p A k _).1]; omega
 ·exact h.cnt k _
open Classical in
theorem fencS_hd (B : Dv) (k : Nat) (S : Nat → Prop) (r : Nat) : (fencS B k S).hist r = (if S r then (B.hist r).drop (kF B k r) else B.hist r) ∧ (fencS B k S).done r = if S r then B.done r + kF B k r else B.done r := ⟨rfl, rfl⟩
theorem Inv.fence {A : Dv} {J J2 : Nat → List (Int × Int)} {N : Nat} (h : Inv A J N) (k : Nat) (hk : k < 8) (hj : JOk (A.fence k) J2) : Inv (A.fence k) J2 N := by
 unfold Dv.fence at hj ⊢
 split at hj
 ·rename_i hc
  rw [if_pos hc]
  have hB := h.cnt k true
  generalize A.cnt k true = B at *
  have hn := hB.no k hk
  have hw := wf_fencS hB.wf hn (fun _ => True)
  have hsum : ∀ r, r < 6 → (fencS B k fun _ => True).done r + ((fencS B k fun _ => True).hist r).length = B.done r + (B.hist r).length := by
   intro r hr
   have h1 := kF_le (r := r) hn (hB.wf.len r hr).1
   rw [(fencS_hd _ _ _ _).1, (fencS_hd _ _ _ _).2, if_pos trivial, if_pos trivial, List.length_drop]; omega
  refine ⟨⟨hw.n0, hw.n6, hw.per, hw.cur, hw.hist, hw.top, hw.len, trivial⟩, ?_, hj, fun r hr => ?_⟩
  ·intro q hq x v hx
   have hx : upd B.note k (fun _ => none) q x = some v := hx
   unfold upd at hx
   split at hx
   ·cases hx
   ·obtain ⟨i, h1, h2, h3, h4⟩ := hB.no q hq x v hx
    refine ⟨i, h1, h2, h3, Int.le_trans h4 ?_⟩
    exact Int.le_of_eq (hsum i (by have := hB.wf.n6; omega)).symm
  ·exact Int.le_trans (Int.le_of_eq (hsum r hr)) (hB.bd r hr)
 ·rename_i hc
  rw [if_neg hc]
  have hB := h.cnt k true
  exact ⟨hB.wf, hB.no, hj, hB.bd⟩
end Go.Proofs.Ytlldhofcdfejnaa