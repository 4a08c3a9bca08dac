/- Contracts of functions of this program, and the plain facts that they rest on. No conditions. -/
import Derived.Test.YtlkffmmgcoiniaaDoorD25b
set_option linter.unusedSimpArgs false
set_option linter.unusedVariables false
namespace Go.Proofs.YtlkffmmgcoiniaaDoor
open Go Go.Ab
attribute [local irreducible] callK callF loopQ vstep vskip pickE hideP
set_option maxRecDepth 100000
attribute [local go_sem] eF rF eS eP eX rX eQ eL eN eW
def nxS (s : Int) : Int := IntKind.u64.wrap (IntKind.u64.wrap (s * 6364136223846793005) + 1442695040888963407)
def elG (s : Int) : Int := s / 2 ^ (s / 288230376151711744).toNat
theorem nxS_ok (s : Int) : 0 ≤ nxS s ∧ nxS s < 18446744073709551616 := by unfold nxS; rw [wr64]; omega
theorem elG_ok {s : Int} (h : 0 ≤ s ∧ s < 18446744073709551616) : 0 ≤ elG s ∧ elG s < 18446744073709551616 := by
  unfold elG
  have hp : (0 : Int) < 2 ^ (s / 288230376151711744).toNat := by
    have := Nat.two_pow_pos (s / 288230376151711744).toNat
    have e : (2 : Int) ^ (s / 288230376151711744).toNat = ((2 ^ (s / 288230376151711744).toNat : Nat) : Int) := by push_cast; rfl
    omega
  exact ⟨Int.ediv_nonneg h.1 (by omega), Int.lt_of_le_of_lt (Int.ediv_le_self _ h.1) h.2⟩
def wsG (s : Int) (n k : Nat) : List Nat := (List.range k).map (fun j => (elG (nxS (sdI s j))).toNat) ++ List.replicate (n - k) 0
theorem wsG_len (s : Int) {n k : Nat} (h : k ≤ n) : (wsG s n k).length = n := by simp [wsG]; omega
theorem wsG_0 (s : Int) (n : Nat) : wsG s n 0 = List.replicate n 0 := by simp [wsG]
theorem wsG_set (s : Int) {n k : Nat} (h : k < n) : (wsG s n k).set k (elG (nxS (sdI s k))).toNat = wsG s n (k + 1) := by
  unfold wsG
  obtain ⟨m, hm⟩ : ∃ m, n - k = m + 1 := ⟨n - k - 1, by omega⟩
  rw [List.set_append_right _ _ (by simp), hm, List.replicate_succ, List.length_map, List.length_range, Nat.sub_self, List.set_cons_zero, List.range_succ, List.map_append, List.append_assoc, show n - (k + 1) = m by omega]
  rfl
theorem wsG_setE (s : Int) {n k : Nat} (h : k < n) : ((wsG s n k).map eW).set k (.v (.int .u64 (elG (nxS (sdI s k))))) = (wsG s n (k + 1)).map eW := by
  rw [← wsG_set s h, List.map_set]
  have := elG_ok (nxS_ok (sdI s k))
  show _ = ((wsG s n k).map eW).set k (.v (.int .u64 (((elG (nxS (sdI s k))).toNat : Nat) : Int)))
  rw [Int.toNat_of_nonneg this.1]
theorem wsG_setX (s : Int) {n k : Nat} (h : k < n) : ((wsG s n k).map eW).set k (.v (.int .u64 (nxS (sdI s k) / 2 ^ (nxS (sdI s k) / 288230376151711744).toNat))) = (wsG s n (k + 1)).map eW := wsG_setE s h
theorem wsG_u (s : Int) (n k : Nat) : U64 (wsG s n k) := by
  intro i
  unfold wsG
  rw [List.getD_eq_getElem?_getD, List.getElem?_append]
  split
  · rw [List.getElem?_map]
    cases h : (List.range k)[i]? with
    | none => exact (show (0 : Nat) < _ by decide)
    | some j => have := elG_ok (nxS_ok (sdI s j)); show (elG _).toNat < _; omega
  · rw [List.getElem?_replicate]; split <;> exact (show (0 : Nat) < _ by decide)
theorem convR_len (x y : X) (ws : List Nat) : (convR x y ws).1.length ≤ wordsM y := by
  unfold convR
  split
  · exact Nat.zero_le _
  · split
    · exact Nat.le_of_eq (cvF_ok x y ws _).1
    · exact Nat.zero_le _
theorem convR_okl {x y : X} {ws : List Nat} (h : (convR x y ws).2 = 0) (hl : ws.length = wordsM x) : (convR x y ws).1.length = wordsM y := by
  unfold convR at h ⊢
  rw [if_neg (by simpa using hl)] at h ⊢
  split
  · exact (cvF_ok x y ws _).1
  · rename_i h2; rw [if_neg h2] at h; exact absurd h h2
theorem u64_app {ws : List Nat} (h : U64 ws) : U64 (ws ++ [0]) := by
  intro i
  rw [List.getD_eq_getElem?_getD, List.getElem?_append]
  split
  · rw [← List.getD_eq_getElem?_getD]; exact h i
  · rename_i h1
    cases h2 : i - ws.length with
    | zero => exact (show (0 : Nat) < _ by decide)
    | succ n => exact (show (0 : Nat) < _ by decide)
theorem sdI_n (s : Int) (k : Nat) : sdI s (k + 1) = nxS (sdI s k) := rfl
theorem nxS_e (s : Int) : IntKind.u64.wrap (IntKind.u64.wrap (s * 6364136223846793005) + 1442695040888963407) = nxS s := rfl
attribute [local irreducible] slotAt posE wdE wordsM getB setB mskN plAt getR setR putE getE badV cvK cvF wN wsG sdI convR nxS
theorem c20w' {x : X} : PCalls Tryd.prog 20 [eL (laG x)] (.v (.int .i64 (wordsM x))) := by rw [← words_e]; exact c20 (laG x)
end Go.Proofs.YtlkffmmgcoiniaaDoor
