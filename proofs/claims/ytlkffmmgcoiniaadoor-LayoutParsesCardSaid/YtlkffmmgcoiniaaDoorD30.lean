/- Contracts of functions of this program, and the plain facts that they rest on. No conditions. -/
import Derived.Test.YtlkffmmgcoiniaaDoorD12
import Derived.Test.YtlkffmmgcoiniaaDoorD11
import Derived.Test.YtlkffmmgcoiniaaDoorShelfP2
import Derived.Lib.AtoiErrMem
set_option linter.unusedSimpArgs false
set_option linter.unusedVariables false
namespace Go.Proofs.YtlkffmmgcoiniaaDoor
open Go Go.Ab
attribute [local irreducible] callK callF loopQ vstep vskip pickE hideP
open Go.RowKit
set_option maxRecDepth 100000
theorem idx_hit (x : UInt8) : ∀ (a b : List UInt8), x ∉ a → Lib.index (a ++ x :: b) [x] = a.length
  | [], b, _ => by simp [Lib.index, List.isPrefixOf]
  | y :: a, b, h => by
    have h1 : x ≠ y := fun e => h (by simp [e])
    have h2 := idx_hit x a b (fun hm => h (List.mem_cons_of_mem _ hm))
    show Lib.index (y :: (a ++ x :: b)) [x] = _
    rw [Lib.index, if_neg (by simp [List.isPrefixOf, h1]), h2, if_neg (by simp <;> omega)]
    simp
theorem idx_miss (x : UInt8) : ∀ s : List UInt8, x ∉ s → Lib.index s [x] = -1
  | [], _ => by simp [Lib.index]
  | y :: s, h => by
    have h1 : x ≠ y := fun e => h (by simp [e])
    have h2 := idx_miss x s (fun hm => h (List.mem_cons_of_mem _ hm))
    rw [Lib.index, if_neg (by simp [List.isPrefixOf, h1]), h2, if_pos (by decide)]
theorem cut_hit (x : UInt8) (a b : List UInt8) (h : x ∉ a) : Lib.cut (a ++ x :: b) [x] = (a, b, true) := by
  unfold Lib.cut
  rw [idx_hit x a b h, if_pos (by omega)]
  simp
theorem cut_miss (x : UInt8) (s : List UInt8) (h : x ∉ s) : Lib.cut s [x] = (s, [], false) := by
  unfold Lib.cut
  rw [idx_miss x s h, if_neg (by decide)]
def joinL (x : UInt8) : List (List UInt8) → List UInt8
  | [] => []
  | [w] => w
  | w :: v :: ws => w ++ x :: joinL x (v :: ws)
theorem count_join (x : UInt8) : ∀ (ws : List (List UInt8)) (fuel : Nat), ws ≠ [] → (∀ w, w ∈ ws → x ∉ w) → (joinL x ws).length < fuel → Lib.countFrom [x] fuel (joinL x ws) = ws.length - 1
  | [], _, h, _, _ => absurd rfl h
  | [w], fuel + 1, _, h, _ => by
    rw [joinL, Lib.countFrom, idx_miss x w (h w (by simp)), if_pos (by decide)]; rfl
  | w :: v :: ws, fuel + 1, _, h, hf => by
    have ih := count_join x (v :: ws) fuel (by simp) (fun u hu => h u (List.mem_cons_of_mem _ hu)) (by simp only [joinL, List.length_append, List.length_cons] at hf ⊢; omega)
    rw [joinL, Lib.countFrom, idx_hit x w _ (h w (by simp)), if_neg (by simp <;> omega)]
    rw [show (w ++ x :: joinL x (v :: ws)).drop (((w.length : Int)).toNat + [x].length) = joinL x (v :: ws) by simp, ih]
    simp; omega
theorem split_join (x : UInt8) : ∀ (ws : List (List UInt8)), ws ≠ [] → (∀ w, w ∈ ws → x ∉ w) → Lib.splitK [x] 0 (ws.length - 1) (joinL x ws) = ws
  | [], h, _ => absurd rfl h
  | [w], _, _ => rfl
  | w :: v :: ws, _, h => by
    have ih := split_join x (v :: ws) (by simp) (fun u hu => h u (List.mem_cons_of_mem _ hu))
    show Lib.splitK [x] 0 ((ws.length + 1) + 1 - 1) _ = _
    rw [joinL, Nat.add_sub_cancel, Lib.splitK, idx_hit x w _ (h w (by simp)), if_neg (by simp <;> omega)]
    rw [show (w ++ x :: joinL x (v :: ws)).drop (((w.length : Int)).toNat + [x].length) = joinL x (v :: ws) by simp]
    rw [show (v :: ws).length - 1 = ws.length from rfl] at ih
    rw [ih]; simp
theorem splitB_join (x : UInt8) (ws : List (List UInt8)) (hne : ws ≠ []) (h : ∀ w, w ∈ ws → x ∉ w) : Lib.countB (bs (joinL x ws)) ⟨#[x]⟩ + 1 = ws.length ∧ Lib.splitB ⟨#[x]⟩ 0 (Lib.countB (bs (joinL x ws)) ⟨#[x]⟩) (bs (joinL x ws)) = ws.map bs := by
  have hc : Lib.countB (bs (joinL x ws)) ⟨#[x]⟩ = ws.length - 1 := count_join x ws _ hne h (Nat.lt_succ_self _)
  have hl : ws.length ≠ 0 := by simpa using hne
  rw [hc]
  refine ⟨by omega, ?_⟩
  have h1 := Lib.splitB_data ⟨#[x]⟩ 0 (ws.length - 1) (bs (joinL x ws))
  rw [show (ByteArray.mk #[x]).data.toList = [x] from rfl, show (bs (joinL x ws)).data.toList = joinL x ws from rfl, split_join x ws hne h] at h1
  have h2 := congrArg (List.map bs) h1
  rw [List.map_map] at h2
  rw [← h2]
  conv => lhs; rw [← List.map_id (Lib.splitB ⟨#[x]⟩ 0 (ws.length - 1) (bs (joinL x ws)))]
  refine List.map_congr_left fun b _ => ?_
  show b = ⟨b.data.toList.toArray⟩
  simp
/-- The words of a text. -/
def spl (x : UInt8) : List UInt8 → List (List UInt8)
  | [] => [[]]
  | c :: r => if c = x then [] :: spl x r else match spl x r with
    | [] => [[c]]
    | w :: ws => (c :: w) :: ws
theorem spl_ok (x : UInt8) : ∀ s, spl x s ≠ [] ∧ joinL x (spl x s) = s ∧ (∀ w, w ∈ spl x s → x ∉ w) ∧ (spl x s).length ≤ s.length + 1
  | [] => ⟨by simp [spl], rfl, by simp [spl], by simp [spl]⟩
  | c :: r => by
    obtain ⟨h1, h2, h3, h4⟩ := spl_ok x r
    rw [spl]
    by_cases hc : c = x
    · rw [if_pos hc]
      refine ⟨by simp, ?_, ?_, by simp only [List.length_cons]; omega⟩
      · obtain ⟨w, ws, hw⟩ : ∃ w ws, spl x r = w :: ws := by
          cases hs : spl x r with
          | nil => exact absurd hs h1
          | cons w ws => exact ⟨w, ws, rfl⟩
        rw [hw] at h2 ⊢
        rw [joinL, h2, hc]; rfl
      · intro w hw
        rcases List.mem_cons.1 hw with rfl | hw
        · simp
        · exact h3 w hw
    · rw [if_neg hc]
      cases hs : spl x r with
      | nil => exact absurd hs h1
      | cons w ws =>
        rw [hs] at h2 h3 h4
        refine ⟨by simp, ?_, ?_, by simp only [List.length_cons] at h4 ⊢; omega⟩
        · cases ws with
          | nil => rw [joinL] at h2 ⊢; rw [h2]
          | cons v ws => rw [joinL] at h2 ⊢; rw [← h2]; rfl
        · intro u hu
          rcases List.mem_cons.1 hu with rfl | hu
          · intro hm
            rcases List.mem_cons.1 hm with hm | hm
            · exact hc hm.symm
            · exact h3 w (by simp) hm
          · exact h3 u (List.mem_cons_of_mem _ hu)
/-! Numerals. -/
theorem parse_dec10 (u : Nat) : ∀ r, u ≤ 18446744073709551615 → Lib.parseUint10 0 (Lib.decDigits u ++ r) = Lib.parseUint10 u r := by
  induction u using Nat.strongRecOn with
  | _ u ih =>
    intro r hu
    by_cases h : u < 10
    · rw [Lib.decDigits, dif_pos h, List.singleton_append, Lib.parseUint10]
      have e : (UInt8.ofNat (48 + u)).toNat = 48 + u := by simp; omega
      rw [e, if_pos (by omega), if_neg (by omega), if_neg (by omega)]
      congr 1; omega
    · rw [Lib.decDigits, dif_neg h, List.append_assoc, ih (u / 10) (by omega) _ (by omega), List.singleton_append, Lib.parseUint10]
      have e : (UInt8.ofNat (48 + u % 10)).toNat = 48 + u % 10 := by simp; omega
      rw [e, if_pos (by omega), if_neg (by omega), if_neg (by omega)]
      congr 1; omega
theorem dec_ne (u : Nat) : Lib.decDigits u ≠ [] := fun h => by have := congrArg List.length h; rw [Lib.decDigits_length] at this; have := Lib.nDigits_pos u; simp at *; omega
theorem dec_digit (u : Nat) : ∀ c, c ∈ Lib.decDigits u → 48 ≤ c.toNat ∧ c.toNat ≤ 57 := by
  induction u using Nat.strongRecOn with
  | _ u ih =>
    intro c hc
    by_cases h : u < 10
    · rw [Lib.decDigits, dif_pos h] at hc
      simp at hc; subst hc; simp; omega
    · rw [Lib.decDigits, dif_neg h] at hc
      rcases List.mem_append.1 hc with hc | hc
      · exact ih (u / 10) (by omega) c hc
      · simp at hc; subst hc; simp; omega
theorem parseA {n : Int} (h : -9223372036854775808 ≤ n ∧ n ≤ 9223372036854775807) : Lib.atoiAll (numL n) = .ok n := by
  have key : ∀ u : Nat, u ≤ 18446744073709551615 → Lib.parseMag (Lib.decDigits u) = .ok u := fun u hu => by
    rw [Lib.parseMag, if_neg (dec_ne _)]
    have := parse_dec10 u [] hu
    rw [List.append_nil] at this
    rw [this]; rfl
  unfold numL Lib.itoa
  split
  · rename_i hn
    simp only [Lib.atoiAll]
    rw [if_pos (by right; rfl), key _ (by omega)]
    simp only
    rw [if_neg (by simp), if_neg (by omega), if_pos (by rfl)]
    congr 1; omega
  · rename_i hn
    have hd := dec_digit n.toNat
    have k := key n.toNat (by omega)
    cases hc : Lib.decDigits n.toNat with
    | nil => exact absurd hc (dec_ne _)
    | cons c r =>
      rw [hc] at hd k
      have := hd c (by simp)
      simp only [Lib.atoiAll]
      rw [if_neg (by omega), k]
      simp only
      rw [if_neg (by omega), if_neg (by omega), if_neg (by omega)]
      congr 1; omega
/-! The library's functions on strings. -/
theorem vals1 {Z : Nat → Prop} {w : World} {vals : List Value} {a : Value} (hv : Reps Z w [.v a] vals) : vals = [a] := by
  simp only [Reps, Rep] at hv
  obtain ⟨_, _, rfl, ⟨rfl, _⟩, rfl⟩ := hv
  rfl
theorem vals2 {Z : Nat → Prop} {w : World} {vals : List Value} {a b : Value} (hv : Reps Z w [.v a, .v b] vals) : vals = [a, b] := by
  simp only [Reps, Rep] at hv
  obtain ⟨_, _, rfl, ⟨rfl, _⟩, _, _, rfl, ⟨rfl, _⟩, rfl⟩ := hv
  rfl
theorem rep2 {Z : Nat → Prop} {w : World} {a b : Value} (ha : oneB a = true) (hb : oneB b = true) : Rep Z w (.tup [.v a, .v b]) (.tuple #[a, b]) := by
  simp only [Rep, Reps]; exact ⟨_, ⟨_, _, rfl, ⟨rfl, ha⟩, _, _, rfl, ⟨rfl, hb⟩, rfl⟩, rfl⟩
theorem c73 (s : List UInt8) (x : UInt8) (hl : s.length ≤ 100000000) {a b : List UInt8} {c : Bool} (hc : Lib.cut s [x] = (a, b, c)) : PCalls Tryd.prog 73 [.v (.string (bs s)), .v (.string ⟨#[x]⟩)] (.tup [.v (.string (bs a)), .v (.string (bs b)), .v (.bool c)]) := by
  refine pcalls_val ⟨_, rfl, rfl, by decide⟩ (u := .tuple #[.string (bs a), .string (bs b), .bool c]) (fun Z w => by simp only [Rep, Reps]; exact ⟨_, ⟨_, _, rfl, ⟨rfl, rfl⟩, _, _, rfl, ⟨rfl, rfl⟩, _, _, rfl, ⟨rfl, rfl⟩, rfl⟩, rfl⟩) fun Z w vals hz hv => ?_
  rw [vals2 hv]
  obtain ⟨m, hm⟩ := hz.gl.2.2.1
  have := Tryd.strings_Cut (bs s) ⟨#[x]⟩ m w (by rw [bs_size]; omega) hm
  rw [show (bs s).data.toList = s from rfl, show (ByteArray.mk #[x]).data.toList = [x] from rfl, hc] at this
  exact this.mono fun e w' ⟨he, n, hw⟩ => ⟨he, by rw [hw]; exact ⟨rfl, rfl, rfl, by simp, fun k hk => by simp⟩⟩
theorem c63 (s : List UInt8) (x : UInt8) : PCalls Tryd.prog 63 [.v (.string (bs s)), .v (.string ⟨#[x]⟩)] (.tup [.v (.string (bs (Lib.trimPrefix s [x]))), .v (.bool (Lib.hasPrefix s [x]))]) := by
  refine pcalls_val ⟨_, rfl, rfl, by decide⟩ (u := .tuple #[.string (bs (Lib.trimPrefix s [x])), .bool (Lib.hasPrefix s [x])]) (fun Z w => rep2 rfl rfl) fun Z w vals hz hv => ?_
  rw [vals2 hv]
  exact (Tryd.strings_CutPrefix (bs s) ⟨#[x]⟩ w).mono fun e w' ⟨he, hw⟩ => ⟨he, by rw [hw]; exact Below.refl _ _⟩
theorem c72 (s : List UInt8) (x : UInt8) (hl : s.length ≤ 100000000) : PCalls Tryd.prog 72 [.v (.string (bs s)), .v (.string ⟨#[x]⟩)] (.tup [.v (.string (bs (Lib.trimSuffix s [x]))), .v (.bool (Lib.hasSuffix s [x]))]) := by
  refine pcalls_val ⟨_, rfl, rfl, by decide⟩ (u := .tuple #[.string (bs (Lib.trimSuffix s [x])), .bool (Lib.hasSuffix s [x])]) (fun Z w => rep2 rfl rfl) fun Z w vals hz hv => ?_
  rw [vals2 hv]
  exact (Tryd.strings_CutSuffix (bs s) ⟨#[x]⟩ w (by rw [bs_size]; omega)).mono fun e w' ⟨he, hw⟩ => ⟨he, by rw [hw]; exact Below.refl _ _⟩
/-- An error of the library's, by its type. -/
def errP : PV := .ifc 140 (.eptr [] 0)
theorem err_end {Z : Nat → Prop} {w w' : World} {N : Nat} {v : Int} {cs : Array Value} {t : TypeId} {fr : Nat × Nat} (h1 : w.heap.size ≤ N) (h2 : w'.heap[N]? = some (.cells cs t fr)) :
    Rep (fun b => Z b ∨ (w.heap.size ≤ b ∧ b < w'.heap.size)) w' (.tup [.v (.int .i64 v), errP]) (.tuple #[.int .i64 v, .iface 140 (.pointer (some ⟨N, 0, none⟩))]) := by
  have hN : N < w'.heap.size := by
    rcases Nat.lt_or_ge N w'.heap.size with h | h
    · exact h
    · rw [Array.getElem?_eq_none h] at h2; cases h2
  simp only [Rep, Reps, errP]
  exact ⟨_, ⟨_, _, rfl, ⟨rfl, rfl⟩, _, _, rfl, ⟨_, ⟨[], N, 0, rfl, fun x hx => by simp at hx, rfl, .inr ⟨h1, hN⟩, fun i u hi => by simp at hi⟩, rfl⟩, rfl⟩, rfl⟩
theorem c64ok (l : List UInt8) (hl : l.length ≤ 1000000) (v : Int) (h : Lib.atoiAll l = .ok v) : PCalls Tryd.prog 64 [.v (.string (bs l))] (.tup [.v (.int .i64 v), .v .nilIface]) := by
  refine pcalls_val ⟨_, rfl, rfl, by decide⟩ (u := .tuple #[.int .i64 v, .nilIface]) (fun Z w => rep2 rfl rfl) fun Z w vals hz hv => ?_
  rw [vals1 hv]
  refine (Tryd.strconv_Atoi_ok (bs l) (by rw [bs_size]; omega) v h w).mono fun e w' ⟨he, hw⟩ => ⟨he, ?_⟩
  rcases hw with rfl | ⟨t, rfl⟩
  · exact Below.refl _ _
  · exact Lib.bytesWorld_below _ _ _
theorem at_bad {l : List UInt8} {u : Int} {g : Nat} (hg : ∀ (Z : Nat → Prop) (w : World), Gl Z w → CellI w g)
    (h : ∀ (ev : Value) (w : World), w.cell? ⟨g, 0, none⟩ = some ev → (ev = .nilIface ∨ ∃ te pe, ev = .iface te pe) → Calls Tryd.prog 64 #[.string (bs l)] w fun e w' => ∃ N, e = .returned (.tuple #[.int .i64 u, .iface 140 (.pointer (some ⟨N, 0, none⟩))]) ∧ w.heap.size ≤ N ∧ (∃ cs t fr, w'.heap[N]? = some (.cells cs t fr)) ∧ Below w.heap.size w w') :
    PCalls Tryd.prog 64 [.v (.string (bs l))] (.tup [.v (.int .i64 u), errP]) := by
  refine pcalls_new ⟨_, rfl, rfl, by decide⟩ fun Z w vals hz hv => ?_
  rw [vals1 hv]
  obtain ⟨ev, he, hev⟩ := hg Z w hz.gl
  exact (h ev w he hev).mono fun e w' ⟨N, h1, h2, ⟨cs, t, fr, h3⟩, h4⟩ => ⟨_, h1, h4, err_end h2 h3⟩
theorem c64bad (l : List UInt8) (hl : l.length ≤ 1000000) (h : ∀ v, Lib.atoiAll l ≠ .ok v) : ∃ v : Int, PCalls Tryd.prog 64 [.v (.string (bs l))] (.tup [.v (.int .i64 v), errP]) := by
  cases hp : Lib.atoiAll l with
  | ok u => exact absurd hp (h u)
  | range => exact ⟨_, at_bad (fun Z w h => h.1.2.2.2) fun ev w he hev => (Any.strconv_Atoi_range Tryd.laysC172 (bs l) (by rw [bs_size]; omega) hp ev w he hev).mono fun e w' ⟨N, h1, h2, h3, h4⟩ => ⟨N, h1, h2, ⟨_, _, _, h3⟩, h4⟩⟩
  | _ => exact ⟨_, at_bad (fun Z w h => h.1.2.2.1) fun ev w he hev => (Any.strconv_Atoi_syntax Tryd.laysC172 (bs l) (by rw [bs_size]; omega) hp ev w he hev).mono fun e w' ⟨N, h1, h2, h3, h4⟩ => ⟨N, h1, h2, ⟨_, _, _, h3⟩, h4⟩⟩
def eT (w : List UInt8) : PV := .v (.string (bs w))
theorem c62 (ws : List (List UInt8)) (hne : ws ≠ []) (h : ∀ w, w ∈ ws → (32 : UInt8) ∉ w) (hl : (joinL 32 ws).length ≤ 1000000) (hl2 : ws.length ≤ 1000001) : PCalls Tryd.prog 62 [.v (.string (bs (joinL 32 ws))), .v (.string ⟨#[32]⟩)] (.view 1 (ws.map eT)) := by
  refine pcalls_new ⟨_, rfl, rfl, by decide⟩ fun Z w vals hz hv => ?_
  rw [vals2 hv]
  obtain ⟨m, hm⟩ := hz.gl.2.2.1
  obtain ⟨k1, k2⟩ := splitB_join 32 ws hne h
  have := Tryd.strings_Split (bs (joinL 32 ws)) ⟨#[32]⟩ m w (by rw [bs_size]; omega) hm (by decide)
  rw [k1, k2] at this
  refine this.mono fun e w' ⟨he, hw⟩ => ⟨_, he, ?_, ?_⟩
  · rw [hw]; exact ⟨rfl, rfl, rfl, by simp, fun k hk => alloc_heap_old hk⟩
  · simp only [Rep]
    refine ⟨ws.map fun l => Value.string (bs l), some ⟨w.heap.size, 0, none⟩, ws.length, ?_, by simp, by decide, ?_, by simp [big]; omega, ?_⟩
    · have : ∀ l : List (List UInt8), Reps (fun b => Z b ∨ (w.heap.size ≤ b ∧ b < w'.heap.size)) w' (l.map eT) (l.map fun l => Value.string (bs l)) := by
        intro l
        induction l with
        | nil => rfl
        | cons y l ih => simp only [List.map_cons, Reps, eT, Rep]; exact ⟨_, _, rfl, ⟨rfl, rfl⟩, ih⟩
      exact this ws
    · intro x hx
      obtain ⟨l, _, rfl⟩ := List.mem_map.1 hx
      exact ⟨rfl, fun y hy => by simp [vcells, Value.cells] at hy; subst hy; rfl⟩
    · refine ⟨by simp, .inr ⟨rfl, .inr ⟨Nat.le_refl _, by rw [hw]; simp⟩, fun k u hk i v hi => ?_⟩⟩
      rw [List.getElem?_map] at hk
      cases hkw : ws[k]? with
      | none => simp [hkw] at hk
      | some y =>
        simp only [hkw, Option.map_some, Option.some.injEq] at hk
        subst hk
        cases i with
        | succ i => simp [vcells, Value.cells] at hi
        | zero =>
          simp [vcells, Value.cells] at hi
          subst hi
          rw [hw]
          simp only [World.cell?, Nat.mul_one, Nat.add_zero, Nat.zero_add]
          rw [alloc_heap_new]
          simp [hkw]
end Go.Proofs.YtlkffmmgcoiniaaDoor
