/- Contracts of functions of this program, and the plain facts that they rest on. No conditions. -/
import Derived.Test.YtlkffmmgcoiniaaDoorD20
set_option linter.unusedSimpArgs false
set_option linter.unusedVariables false
namespace Go.Proofs.YtlkffmmgcoiniaaDoor
open Go Go.Ab
attribute [local irreducible] callK callF loopQ vstep vskip pickE hideP
set_option maxRecDepth 100000
attribute [local go_sem] eF rF eS eP eX rX eQ eL eN eW
theorem r_frz {P : Program} {nb : Nat} {Q : Exit → ASt → Prop} {s : ASt} {c : Code} (keep : List Nat) (vs : Nat → List (Nat × AV)) (h : ∀ I, hdS nb s keep vs (fun _ => []) [] = I → wkAll nb s I (sgOf nb s I.t I.L) ∧ awp P nb c Q I) : awp P nb c Q s :=
  r_weak (wk_auto (h _ rfl).1) (h _ rfl).2
/-- An access. -/
structure Acc where
  nm : List UInt8
  i : Int
  v : Nat
  own : Int
def eA (a : Acc) : PV := .agg [.v (.string (bs a.nm)), .v (.int .i64 a.i), .v (.int .u64 a.v), .v (.int .u8 a.own)]
attribute [local go_sem] eA
/-- The seeds. -/
def sdI (s : Int) : Nat → Int
  | 0 => s
  | k + 1 => IntKind.u64.wrap (IntKind.u64.wrap (sdI s k * 6364136223846793005) + 1442695040888963407)
def elI (s : Int) : Int := IntKind.u64.wrap ((BitVec.ofInt IntKind.u64.bits s ^^^ BitVec.ofInt IntKind.u64.bits (s / 536870912)).toNat : Int)
theorem sdI_0 (s : Int) : sdI s 0 = s := rfl
theorem sdI_s (s : Int) (k : Nat) : sdI s (k + 1) = IntKind.u64.wrap (IntKind.u64.wrap (sdI s k * 6364136223846793005) + 1442695040888963407) := rfl
def wsT (s : Int) (n k : Nat) : List Nat := (List.range k).map (fun j => (elI (sdI s (j + 1))).toNat) ++ List.replicate (n - k) 0
theorem wsT_len (s : Int) {n k : Nat} (h : k ≤ n) : (wsT s n k).length = n := by simp [wsT]; omega
theorem elI_ok (s : Int) : 0 ≤ elI s ∧ elI s < 18446744073709551616 := by unfold elI; rw [wr64]; omega
theorem wsT_0 (s : Int) (n : Nat) : wsT s n 0 = List.replicate n 0 := by simp [wsT]
theorem map_rep (n : Nat) : (List.replicate n 0).map eW = List.replicate n (.v (.int .u64 0)) := by rw [List.map_replicate]; rfl
theorem wsT_set (s : Int) {n k : Nat} (h : k < n) : (wsT s n k).set k (elI (sdI s (k + 1))).toNat = wsT s n (k + 1) := by
  unfold wsT
  obtain ⟨m, hm⟩ : ∃ m, n - k = m + 1 := ⟨n - k - 1, by omega⟩
  rw [List.set_append_right _ _ (by simp), hm, List.replicate_succ, List.length_map, List.length_range, Nat.sub_self, List.set_cons_zero, List.range_succ, List.map_append, List.append_assoc, show n - (k + 1) = m by omega]
  rfl
theorem wsT_setE (s : Int) {n k : Nat} (h : k < n) : ((wsT s n k).map eW).set k (.v (.int .u64 (elI (sdI s (k + 1))))) = (wsT s n (k + 1)).map eW := by
  rw [← wsT_set s h, List.map_set]
  have := elI_ok (sdI s (k + 1))
  show _ = ((wsT s n k).map eW).set k (.v (.int .u64 (((elI (sdI s (k + 1))).toNat : Nat) : Int)))
  rw [Int.toNat_of_nonneg this.1]
theorem wsT_setX (s : Int) {n k : Nat} (h : k < n) : ((wsT s n k).map eW).set k (.v (.int .u64 (IntKind.u64.wrap ((BitVec.ofInt IntKind.u64.bits (IntKind.u64.wrap (IntKind.u64.wrap (sdI s k * 6364136223846793005) + 1442695040888963407)) ^^^ BitVec.ofInt IntKind.u64.bits (IntKind.u64.wrap (IntKind.u64.wrap (sdI s k * 6364136223846793005) + 1442695040888963407) / 536870912)).toNat : Int)))) = (wsT s n (k + 1)).map eW := wsT_setE s h
theorem wsT_u (s : Int) (n k : Nat) : U64 (wsT s n k) := by
  intro i
  unfold wsT
  rw [List.getD_eq_getElem?_getD, List.getElem?_append]
  split
  · rw [List.getElem?_map]
    cases h : (List.range k)[i]? with
    | none => exact (show (0 : Nat) < _ by decide)
    | some j => have := elI_ok (sdI s (j + 1)); show (elI _).toNat < _; omega
  · rw [List.getElem?_replicate]; split <;> exact (show (0 : Nat) < _ by decide)
theorem setR_len (x : X) (ws : List Nat) (nm : List UInt8) (i : Int) (v : Nat) : (setR x ws nm i v).1.length ≤ ws.length := by
  unfold setR
  split
  · exact Nat.zero_le _
  · split
    · exact Nat.zero_le _
    · split
      · exact Nat.zero_le _
      · split
        · exact Nat.zero_le _
        · simp
attribute [local irreducible] slotAt posE wdE wordsM getB setB mskN plAt wsT elI sdI getR setR
end Go.Proofs.YtlkffmmgcoiniaaDoor
