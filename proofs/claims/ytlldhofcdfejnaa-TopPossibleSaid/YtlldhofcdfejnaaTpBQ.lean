/- Contracts of functions of this program, and the plain facts that they rest on. No conditions. -/
import Derived.Test.YtlldhofcdfejnaaEnv2
import Derived.Test.YtlldhofcdfejnaaAc4
set_option linter.unusedSimpArgs false
set_option linter.unusedVariables false
namespace Go.Proofs.Ytlldhofcdfejnaa
open Go Go.Ab
attribute [local irreducible] callK callF loopQ vstep vskip pickE hideP
theorem wr64 (x : Int) : IntKind.u64.wrap x = x % 18446744073709551616 := IntKind.wrap_u64 x
theorem wr8 (x : Int) : IntKind.u8.wrap x = x % 256 := IntKind.wrap_u8 x
abbrev bs (l : List UInt8) : ByteArray := ⟨l.toArray⟩
theorem bs_size (l : List UInt8) : (ByteArray.mk l.toArray).size = l.length := by simp [ByteArray.size]
theorem bs_list (l : List UInt8) : (ByteArray.mk l.toArray).data.toList = l := rfl
theorem bs_inj {a b : List UInt8} : (ByteArray.mk a.toArray = ByteArray.mk b.toArray) ↔ a = b := by
 constructor
 ·intro h; have := congrArg (fun x => x.data.toList) h; simpa using this
 ·rintro rfl; rfl
theorem tdiv64 (a : Nat) : Int.tdiv (a : Int) 64 = ((a / 64 : Nat) : Int) := rfl
theorem tmod64 (a : Nat) : Int.tmod (a : Int) 64 = ((a % 64 : Nat) : Int) := rfl
theorem i64w {x : Int} (h0 : -9223372036854775808 ≤ x) (h1 : x ≤ 9223372036854775807) : IntKind.i64.wrap x = x := by rw [IntKind.wrap_i64]; omega
theorem toList_bs (l : List UInt8) : (ByteArray.mk l.toArray).toList = l := by rw [Lib.toList_data]
theorem ext_bs (l : List UInt8) (a b : Nat) : (ByteArray.mk l.toArray).extract a b = ByteArray.mk ((l.drop a).take (b - a)).toArray := by
 apply ByteArray.ext
 apply Array.ext'
 simp [List.extract_eq_take_drop]
theorem beq_dec (a b : List UInt8) : (a == b) = decide (a = b) := by by_cases h : a = b <;> simp [h]
attribute [go_sem] toList_bs ext_bs beq_dec tdiv64 tmod64 bs_size bs_list bs_inj allB_map toBs_map
def eI (l : List UInt8) : PV := .agg [.v (.string (bs l))]
attribute [local go_sem] eI
set_option maxRecDepth 100000 in
set_option maxHeartbeats 4000000 in
theorem c15 (l : List UInt8) (hl : l.length ≤ 9000000) : PCalls Try.prog 7 [eI l] (.v (.int .i64 ((l.length / 64 : Nat) : Int))) := by
 refine pcalls_of (E := E) (fn := Try.f7) 7 [.tmp 2] rfl rfl rfl rfl (by decide) rfl ?_
 repeat' (first
  | (with_reducible first | refine r_seq ?_ | refine r_block ?_ | refine fork_not ?_ | refine fork_and ?_ | refine fork_or ?_ | refine chk_ok (by kernel_rfl) ?_)
  | ((with_reducible first | refine fork_dec ?_ ?_ | refine fork_eq ?_ ?_ | refine fork_ne ?_ ?_ | refine fork_intro ?_ ?_) <;> intro h)
  | ((with_reducible show False); omega)
  | ((first | (with_reducible first | refine r_exit ?_ | refine r_skip ?_ | refine r_cond ?_ | refine r_region ?_ | refine r_ret ?_ | show VX _ _ _ _ _ _ _ | show vstep _ _ _ _ _ | show vskip _ _ _ | show withV _ _) | ((with_reducible show endA _ _ _ _ _ _ _); simp -implicitDefEqProofs only [endA]) | (with_reducible first | refine pick_viewG default (by first | omega | (simp only [LN]; omega)) (by first | omega | (simp only [LN]; omega)) ?_ | refine pick_own default (by first | omega | (simp only [LN]; omega)) ?_ | refine And.intro (by first | decide | omega | assumption | (simp only [LN]; omega)) ?_) | ((with_reducible show pickE _ _ _); first | refine pickE_intro _ ⟨by omega, by rfl⟩ ?_ | refine pickE_intro _ (by rfl) ?_) | fail); try simp -dsimp -implicitDefEqProofs (maxSteps := 1000000) (disch := first | omega | (simp only [LN]; omega)) only [go_sem])
  | fail)
 all_goals rfl
set_option maxRecDepth 100000 in
set_option maxHeartbeats 4000000 in
theorem c17 (l : List UInt8) (hl : l.length ≤ 9000000) : PCalls Try.prog 25 [eI l] (.view 1 (l.map eB)) := by
 refine pcalls_of (E := E) (fn := Try.f25) 6 [.tmp 2] rfl rfl rfl rfl (by decide) rfl ?_
 repeat' (first
  | (with_reducible first | refine r_seq ?_ | refine r_block ?_ | refine fork_not ?_ | refine fork_and ?_ | refine fork_or ?_ | refine chk_ok (by kernel_rfl) ?_)
  | ((with_reducible first | refine fork_dec ?_ ?_ | refine fork_eq ?_ ?_ | refine fork_ne ?_ ?_ | refine fork_intro ?_ ?_) <;> intro h)
  | ((with_reducible show False); omega)
  | ((first | (with_reducible first | refine r_exit ?_ | refine r_skip ?_ | refine r_cond ?_ | refine r_region ?_ | refine r_ret ?_ | show VX _ _ _ _ _ _ _ | show vstep _ _ _ _ _ | show vskip _ _ _ | show withV _ _) | ((with_reducible show endA _ _ _ _ _ _ _); simp -implicitDefEqProofs only [endA]) | (with_reducible first | refine pick_viewG default (by first | omega | (simp only [LN]; omega)) (by first | omega | (simp only [LN]; omega)) ?_ | refine pick_own default (by first | omega | (simp only [LN]; omega)) ?_ | refine And.intro (by first | decide | omega | assumption | (simp only [LN]; omega)) ?_) | ((with_reducible show pickE _ _ _); first | refine pickE_intro _ ⟨by omega, by rfl⟩ ?_ | refine pickE_intro _ (by rfl) ?_) | fail); try simp -dsimp -implicitDefEqProofs (maxSteps := 1000000) (disch := first | omega | (simp only [LN]; omega)) only [go_sem])
  | fail)
 all_goals rfl
def newM (l : List UInt8) : List UInt8 := if l.length % 64 = 0 ∧ l.length / 64 ≤ 4096 then l else []
def newE (l : List UInt8) : Int := if l.length % 64 ≠ 0 then 11 else if 4096 < l.length / 64 then 1 else 0
set_option maxRecDepth 100000 in
set_option maxHeartbeats 4000000 in
theorem c14 (l : List UInt8) : PCalls Try.prog 38 [.view 1 (l.map eB)] (.tup [eI (newM l), .v (.int .i64 (newE l))]) := by
 refine pcalls_facts ⟨_, rfl, rfl, by decide⟩ fun hf => ?_
 simp only [go_sem, big] at hf
 refine pcalls_of (E := E) (fn := Try.f38) 17 [.cell 2 30, .tmp 3] rfl rfl rfl rfl (by decide) rfl ?_
 repeat' (first
  | (with_reducible first | refine r_seq ?_ | refine r_block ?_ | refine fork_not ?_ | refine fork_and ?_ | refine fork_or ?_ | refine chk_ok (by kernel_rfl) ?_)
  | ((with_reducible first | refine fork_dec ?_ ?_ | refine fork_eq ?_ ?_ | refine fork_ne ?_ ?_ | refine fork_intro ?_ ?_) <;> intro h)
  | ((with_reducible show False); omega)
  | ((first | (with_reducible first | refine r_exit ?_ | refine r_skip ?_ | refine r_cond ?_ | refine r_region ?_ | refine r_ret ?_ | show VX _ _ _ _ _ _ _ | show vstep _ _ _ _ _ | show vskip _ _ _ | show withV _ _) | ((with_reducible show endA _ _ _ _ _ _ _); simp -implicitDefEqProofs only [endA]) | (with_reducible first | refine pick_viewG default (by first | omega | (simp only [LN]; omega)) (by first | omega | (simp only [LN]; omega)) ?_ | refine pick_own default (by first | omega | (simp only [LN]; omega)) ?_ | refine And.intro (by first | decide | omega | assumption | (simp only [LN]; omega)) ?_) | ((with_reducible show pickE _ _ _); first | refine pickE_intro _ ⟨by omega, by rfl⟩ ?_ | refine pickE_intro _ (by rfl) ?_) | fail); try simp -dsimp -implicitDefEqProofs (maxSteps := 1000000) (disch := first | omega | (simp only [LN]; omega)) only [go_sem])
  | fail)
 all_goals unfold newM newE
 ·rw [if_neg (by omega), if_pos (by omega)]; exact ⟨rfl, rfl⟩
 ·rw [if_neg (by omega), if_neg (by omega), if_pos (by omega)]; exact ⟨rfl, rfl⟩
 ·rw [if_pos (by omega), if_neg (by omega), if_neg (by omega)]; exact ⟨rfl, rfl⟩
set_option maxRecDepth 100000 in
set_option maxHeartbeats 4000000 in
theorem c21 (a b : List UInt8) : PCalls Try.prog 12 [eI a, eI b] (.v (.bool (decide (a = b)))) := by
 refine pcalls_of (E := E) (fn := Try.f12) 10 [.tmp 4] rfl rfl rfl rfl (by decide) rfl ?_
 repeat' (first
  | (with_reducible first | refine r_seq ?_ | refine r_block ?_ | refine fork_not ?_ | refine fork_and ?_ | refine fork_or ?_ | refine chk_ok (by kernel_rfl) ?_)
  | ((with_reducible first | refine fork_dec ?_ ?_ | refine fork_eq ?_ ?_ | refine fork_ne ?_ ?_ | refine fork_intro ?_ ?_) <;> intro h)
  | ((with_reducible show False); omega)
  | ((first | (with_reducible first | refine r_exit ?_ | refine r_skip ?_ | refine r_cond ?_ | refine r_region ?_ | refine r_ret ?_ | show VX _ _ _ _ _ _ _ | show vstep _ _ _ _ _ | show vskip _ _ _ | show withV _ _) | ((with_reducible show endA _ _ _ _ _ _ _); simp -implicitDefEqProofs only [endA]) | (with_reducible first | refine pick_viewG default (by first | omega | (simp only [LN]; omega)) (by first | omega | (simp only [LN]; omega)) ?_ | refine pick_own default (by first | omega | (simp only [LN]; omega)) ?_ | refine And.intro (by first | decide | omega | assumption | (simp only [LN]; omega)) ?_) | ((with_reducible show pickE _ _ _); first | refine pickE_intro _ ⟨by omega, by rfl⟩ ?_ | refine pickE_intro _ (by rfl) ?_) | fail); try simp -dsimp -implicitDefEqProofs (maxSteps := 1000000) (disch := first | omega | (simp only [LN]; omega)) only [go_sem])
  | fail)
 all_goals rfl
def checkM (l : List UInt8) (o : Int) : Int := if o % 8 ≠ 0 then 1 else if l.length ≤ o then 2 else 0
set_option maxRecDepth 100000 in
set_option maxHeartbeats 4000000 in
theorem c50 (l : List UInt8) (o : Int) (hl : l.length ≤ 9000000) (h0 : 0 ≤ o ∧ o ≤ 18446744073709551615) : PCalls Try.prog 24 [eI l, .v (.int .u64 o)] (.v (.int .i64 (checkM l o))) := by
 refine pcalls_of (E := E) (fn := Try.f24) 14 [.tmp 4] rfl rfl rfl rfl (by decide) rfl ?_
 repeat' (first
  | (with_reducible first | refine r_seq ?_ | refine r_block ?_ | refine fork_not ?_ | refine fork_and ?_ | refine fork_or ?_ | refine chk_ok (by kernel_rfl) ?_)
  | ((with_reducible first | refine fork_dec ?_ ?_ | refine fork_eq ?_ ?_ | refine fork_ne ?_ ?_ | refine fork_intro ?_ ?_) <;> intro h)
  | ((with_reducible show False); omega)
  | ((first | (with_reducible first | refine r_exit ?_ | refine r_skip ?_ | refine r_cond ?_ | refine r_region ?_ | refine r_ret ?_ | show VX _ _ _ _ _ _ _ | show vstep _ _ _ _ _ | show vskip _ _ _ | show withV _ _) | ((with_reducible show endA _ _ _ _ _ _ _); simp -implicitDefEqProofs only [endA]) | (with_reducible first | refine pick_viewG default (by first | omega | (simp only [LN]; omega)) (by first | omega | (simp only [LN]; omega)) ?_ | refine pick_own default (by first | omega | (simp only [LN]; omega)) ?_ | refine And.intro (by first | decide | omega | assumption | (simp only [LN]; omega)) ?_) | ((with_reducible show pickE _ _ _); first | refine pickE_intro _ ⟨by omega, by rfl⟩ ?_ | refine pickE_intro _ (by rfl) ?_) | fail); try simp -dsimp -implicitDefEqProofs (maxSteps := 1000000) (disch := first | omega | (simp only [LN]; omega)) only [go_sem])
  | fail)
 all_goals (simp only [Int.tmod_eq_emod_of_nonneg h0.1, wr64] at *; unfold checkM)
 ·rw [if_pos (by omega)]
 ·rw [if_neg (by omega), if_pos (by omega)]
 ·rw [if_neg (by omega), if_neg (by omega)]
def byteM (l : List UInt8) (o k : Nat) : Nat := (l.getD (o + k) 0).toNat
def wordU (l : List UInt8) (o : Nat) : Nat → Nat
 | 0 => 0
 | k + 1 => wordU l o k + byteM l o k * 256 ^ k
@[go_sem] theorem wordU_0 (l : List UInt8) (o : Nat) : ((wordU l o 0 : Nat) : Int) = 0 := rfl
theorem byteM_lt (l : List UInt8) (o k : Nat) : byteM l o k < 256 := by unfold byteM; exact UInt8.toNat_lt _
theorem wordU_lt (l : List UInt8) (o : Nat) : ∀ k, wordU l o k < 256 ^ k
 | 0 => by simp [wordU]
 | k + 1 => by
  have h1 := wordU_lt l o k
  have h2 := byteM_lt l o k
  have h3 : byteM l o k * 256 ^ k ≤ 255 * 256 ^ k := Nat.mul_le_mul_right _ (by omega)
  rw [wordU, Nat.pow_succ]; omega
theorem bor_add (a b : Int) (i : Nat) (ha0 : 0 ≤ a) (ha : a < 2 ^ i) (hb : 0 ≤ b) (hab : a + b * 2 ^ i < 18446744073709551616) :
  ((BitVec.ofInt 64 a ||| BitVec.ofInt 64 (b * 2 ^ i)).toNat : Int) = a + b * 2 ^ i := by
 obtain ⟨m, rfl⟩ := Int.eq_ofNat_of_zero_le ha0
 obtain ⟨n, rfl⟩ := Int.eq_ofNat_of_zero_le hb
 have e : ((n : Int) * 2 ^ i) = ((n * 2 ^ i : Nat) : Int) := by simp
 rw [e] at hab ⊢
 have hm : m < 2 ^ i := by exact_mod_cast ha
 have hs : m + n * 2 ^ i < 2 ^ 64 := by omega
 rw [BitVec.toNat_or, BitVec.ofInt_natCast, BitVec.ofInt_natCast, BitVec.toNat_ofNat, BitVec.toNat_ofNat, Nat.mod_eq_of_lt (by omega), Nat.mod_eq_of_lt (by omega)]
 have := Nat.shiftLeft_add_eq_or_of_lt hm n
 rw [Nat.shiftLeft_eq] at this
 rw [Nat.or_comm, ← this]
 push_cast; omega
theorem shift8 (k : Nat) (hk : k < 8) : min (IntKind.u64.wrap (8 * (k : Int))).toNat 64 = 8 * k := by rw [wr64]; omega
theorem pow8 (k : Nat) : (2 : Int) ^ (8 * k) = 256 ^ k := by rw [Int.pow_mul]; rfl
theorem pow8n (k : Nat) : (2 : Int) ^ (8 * k) = ((256 ^ k : Nat) : Int) := by rw [Int.pow_mul, Int.natCast_pow]; rfl
theorem word_core (a b q i : Nat) (hq : (2 : Int) ^ i = (q : Int)) (h1 : b < 256) (h2 : a < q) (h3 : a + b * q < 18446744073709551616) :
  IntKind.u64.wrap ((BitVec.ofInt 64 (a : Int) ||| BitVec.ofInt 64 (IntKind.u64.wrap (IntKind.u64.wrap (b : Int) * 2 ^ i))).toNat : Int) = ((a + b * q : Nat) : Int) := by
 have e1 : IntKind.u64.wrap (b : Int) = b := by rw [wr64]; omega
 have e2 : (b : Int) * 2 ^ i = ((b * q : Nat) : Int) := by rw [hq, Int.natCast_mul]
 have e3 : IntKind.u64.wrap ((b : Int) * 2 ^ i) = (b : Int) * 2 ^ i := by rw [e2, wr64]; omega
 have e4 := bor_add a b i (by omega) (by rw [hq]; omega) (by omega) (by rw [e2]; omega)
 rw [e1, e3, e4, e2, wr64]
 omega
theorem word_step (l : List UInt8) (o k : Nat) (hk : k < 8) : IntKind.u64.wrap ((BitVec.ofInt IntKind.u64.bits (wordU l o k : Int) ||| BitVec.ofInt IntKind.u64.bits (IntKind.u64.wrap (IntKind.u64.wrap (byteAt (bs l) (o + k)) * 2 ^ min (IntKind.u64.wrap (8 * (k : Int))).toNat 64))).toNat : Int) = ((wordU l o (k + 1) : Nat) : Int) := by
 have h3 := wordU_lt l o (k + 1)
 have h4 : (256 : Nat) ^ (k + 1) ≤ 256 ^ 8 := Nat.pow_le_pow_right (by decide) (by omega)
 have h5 : (256 : Nat) ^ 8 = 18446744073709551616 := by decide
 rw [shift8 k hk]
 exact word_core _ _ _ _ (pow8n k) (byteM_lt l o k) (wordU_lt l o k) (Nat.lt_of_lt_of_le h3 (h5 ▸ h4))
set_option maxRecDepth 100000 in
set_option maxHeartbeats 4000000 in
theorem c51 (l : List UInt8) (o : Nat) (hl : l.length ≤ 9000000) (ho : o + 8 ≤ l.length) : PCalls Try.prog 27 [eI l, .v (.int .i64 o)] (.v (.int .u64 (wordU l o 8))) := by
 refine pcalls_of (E := E) (fn := Try.f27) 25 [.tmp 4] rfl rfl rfl rfl (by decide) rfl ?_
 repeat' (first
  | (with_reducible first | refine r_seq ?_ | refine r_block ?_ | refine fork_not ?_ | refine fork_and ?_ | refine fork_or ?_ | refine chk_ok (by kernel_rfl) ?_)
  | ((with_reducible first | refine fork_dec ?_ ?_ | refine fork_eq ?_ ?_ | refine fork_ne ?_ ?_ | refine fork_intro ?_ ?_) <;> intro h)
  | ((with_reducible show False); omega)
  | ((first | (with_reducible first | refine r_exit ?_ | refine r_skip ?_ | refine r_cond ?_ | refine r_region ?_ | refine r_ret ?_ | show VX _ _ _ _ _ _ _ | show vstep _ _ _ _ _ | show vskip _ _ _ | show withV _ _) | ((with_reducible show endA _ _ _ _ _ _ _); simp -implicitDefEqProofs only [endA]) | (with_reducible first | refine pick_viewG default (by first | omega | (simp only [LN]; omega)) (by first | omega | (simp only [LN]; omega)) ?_ | refine pick_own default (by first | omega | (simp only [LN]; omega)) ?_ | refine And.intro (by first | decide | omega | assumption | (simp only [LN]; omega)) ?_) | ((with_reducible show pickE _ _ _); first | refine pickE_intro _ ⟨by omega, by rfl⟩ ?_ | refine pickE_intro _ (by rfl) ?_) | fail); try simp -dsimp -implicitDefEqProofs (maxSteps := 1000000) (disch := first | omega | (simp only [LN]; omega)) only [go_sem])
  | fail)
 refine r_loopA (α := Nat) [1, 2] (fun k b => [(7, aI k), (5, .p (.v (.int .u64 (wordU l o k))))]) (fun k b => []) (fun k => []) (fun k => k ≤ 8) (fun k => 8 - k) (0) ?h0_1 ?hs0_1 ?I_1 ?hI_1 ?round_1
 case hI_1 => intro x; (simp -dsimp -implicitDefEqProofs (maxSteps := 1000000) (disch := first | omega | (simp only [LN]; omega)) only [go_sem]) <;> exact rfl
 case hs0_1 => refine wk_auto ?_; (simp -dsimp -implicitDefEqProofs (maxSteps := 1000000) (disch := first | omega | (simp only [LN]; omega)) only [go_sem]) <;> (try omega)
 case h0_1 => exact Nat.zero_le _
 case round_1 =>
  rintro k h1
  repeat' (first
   | (with_reducible first | refine r_seq ?_ | refine r_block ?_ | refine fork_not ?_ | refine fork_and ?_ | refine fork_or ?_ | refine chk_ok (by kernel_rfl) ?_)
   | ((with_reducible first | refine fork_dec ?_ ?_ | refine fork_eq ?_ ?_ | refine fork_ne ?_ ?_ | refine fork_intro ?_ ?_) <;> intro h)
   | ((with_reducible show False); omega)
   | ((first | (with_reducible first | refine r_exit ?_ | refine r_skip ?_ | refine r_cond ?_ | refine r_region ?_ | refine r_ret ?_ | show VX _ _ _ _ _ _ _ | show vstep _ _ _ _ _ | show vskip _ _ _ | show withV _ _) | ((with_reducible show endA _ _ _ _ _ _ _); simp -implicitDefEqProofs only [endA]) | (with_reducible first | refine pick_viewG default (by first | omega | (simp only [LN]; omega)) (by first | omega | (simp only [LN]; omega)) ?_ | refine pick_own default (by first | omega | (simp only [LN]; omega)) ?_ | refine And.intro (by first | decide | omega | assumption | (simp only [LN]; omega)) ?_) | ((with_reducible show pickE _ _ _); first | refine pickE_intro _ ⟨by omega, by rfl⟩ ?_ | refine pickE_intro _ (by rfl) ?_) | fail); try simp -dsimp -implicitDefEqProofs (maxSteps := 1000000) (disch := first | omega | (simp only [LN]; omega)) only [go_sem])
   | fail)
  ·((refine loopQ_next (k + 1) ?_ ?_ ?_; (omega); (show _ < _; omega); (simp -dsimp -implicitDefEqProofs (maxSteps := 1000000) (disch := first | omega | (simp only [LN]; omega)) only [go_sem]; try trivial)); rw [word_step l o k (by omega)])
  ·rw [show k = 8 by omega]
def putM (l : List UInt8) (o : Nat) (v : Int) : Nat → List UInt8
 | 0 => l
 | k + 1 => (putM l o v k).set (o + k) (UInt8.ofNat (v / 256 ^ k % 256).toNat)
@[go_sem] theorem putM_0 (l : List UInt8) (o : Nat) (v : Int) : putM l o v 0 = l := rfl
@[go_sem] theorem putM_len (l : List UInt8) (o : Nat) (v : Int) : ∀ k, (putM l o v k).length = l.length
 | 0 => rfl
 | k + 1 => by rw [putM, List.length_set, putM_len l o v k]
theorem put_step (l : List UInt8) (o k : Nat) (v : Int) (hk : k < 8) : ((putM l o v k).map eB).set (o + k) (PV.v (.int .u8 (IntKind.u8.wrap (v / 2 ^ min (IntKind.u64.wrap (8 * (k : Int))).toNat 64)))) = (putM l o v (k + 1)).map eB := by
 rw [shift8 k hk, pow8, putM, List.map_set, wr8]
 congr 1
 show _ = eB _
 unfold eB
 congr 2
 have h0 : 0 ≤ v / 256 ^ k % 256 := Int.emod_nonneg _ (by decide)
 have h1 : v / 256 ^ k % 256 < 256 := Int.emod_lt_of_pos _ (by decide)
 generalize v / 256 ^ k % 256 = x at *
 simp; omega
set_option maxRecDepth 100000 in
set_option maxHeartbeats 4000000 in
theorem c52 (l : List UInt8) (o : Nat) (v : Int) (hl : l.length ≤ 9000000) (ho : o + 8 ≤ l.length) (hv : 0 ≤ v ∧ v ≤ 18446744073709551615) : ACalls Try.prog 26 [.sl 0 1 0 l.length, .p (.v (.int .i64 o)), .p (.v (.int .u64 v))] [.arr 1 (l.map eB)] (.p (.tup [])) [.arr 1 ((putM l o v 8).map eB)] := by
 refine acalls_of (E := E) (fn := Try.f26) 22 [] rfl rfl rfl rfl (by decide) rfl rfl ?_
 repeat' (first
  | (with_reducible first | refine r_seq ?_ | refine r_block ?_ | refine fork_not ?_ | refine fork_and ?_ | refine fork_or ?_ | refine chk_ok (by kernel_rfl) ?_)
  | ((with_reducible first | refine fork_dec ?_ ?_ | refine fork_eq ?_ ?_ | refine fork_ne ?_ ?_ | refine fork_intro ?_ ?_) <;> intro h)
  | ((with_reducible show False); omega)
  | ((first | (with_reducible first | refine r_exit ?_ | refine r_skip ?_ | refine r_cond ?_ | refine r_region ?_ | refine r_ret ?_ | show VX _ _ _ _ _ _ _ | show vstep _ _ _ _ _ | show vskip _ _ _ | show withV _ _) | ((with_reducible show endA _ _ _ _ _ _ _); simp -implicitDefEqProofs only [endA]) | (with_reducible first | refine pick_viewG default (by first | omega | (simp only [LN]; omega)) (by first | omega | (simp only [LN]; omega)) ?_ | refine pick_own default (by first | omega | (simp only [LN]; omega)) ?_ | refine And.intro (by first | decide | omega | assumption | (simp only [LN]; omega)) ?_) | ((with_reducible show pickE _ _ _); first | refine pickE_intro _ ⟨by omega, by rfl⟩ ?_ | refine pickE_intro _ (by rfl) ?_) | fail); try simp -dsimp -implicitDefEqProofs (maxSteps := 1000000) (disch := first | omega | (simp only [LN]; omega)) only [go_sem])
  | fail)
 refine r_loopA (α := Nat) [0, 1, 2] (fun k b => [(7, aI k)]) (fun k b => [(0, .arr 1 ((putM l o v k).map eB))]) (fun k => []) (fun k => k ≤ 8) (fun k => 8 - k) (0) ?h0_2 ?hs0_2 ?I_2 ?hI_2 ?round_2
 case hI_2 => intro x; (simp -dsimp -implicitDefEqProofs (maxSteps := 1000000) (disch := first | omega | (simp only [LN]; omega)) only [go_sem]) <;> exact rfl
 case hs0_2 => refine wk_auto ?_; (simp -dsimp -implicitDefEqProofs (maxSteps := 1000000) (disch := first | omega | (simp only [LN]; omega)) only [go_sem]) <;> (try omega)
 case h0_2 => exact Nat.zero_le _
 case round_2 =>
  rintro k h1
  repeat' (first
   | (with_reducible first | refine r_seq ?_ | refine r_block ?_ | refine fork_not ?_ | refine fork_and ?_ | refine fork_or ?_ | refine chk_ok (by kernel_rfl) ?_)
   | ((with_reducible first | refine fork_dec ?_ ?_ | refine fork_eq ?_ ?_ | refine fork_ne ?_ ?_ | refine fork_intro ?_ ?_) <;> intro h)
   | ((with_reducible show False); omega)
   | ((first | (with_reducible first | refine r_exit ?_ | refine r_skip ?_ | refine r_cond ?_ | refine r_region ?_ | refine r_ret ?_ | show VX _ _ _ _ _ _ _ | show vstep _ _ _ _ _ | show vskip _ _ _ | show withV _ _) | ((with_reducible show endA _ _ _ _ _ _ _); simp -implicitDefEqProofs only [endA]) | (with_reducible first | refine pick_viewG default (by first | omega | (simp only [LN, putM_len]; omega)) (by first | omega | (simp only [LN, putM_len]; omega)) ?_ | refine pick_own default (by first | omega | (simp only [LN, putM_len]; omega)) ?_ | refine And.intro (by first | decide | omega | assumption | (simp only [LN, putM_len]; omega)) ?_) | ((with_reducible show pickE _ _ _); first | refine pickE_intro _ ⟨by omega, by rfl⟩ ?_ | refine pickE_intro _ (by rfl) ?_) | fail); try simp -dsimp -implicitDefEqProofs (maxSteps := 1000000) (disch := first | omega | (simp only [LN, putM_len]; omega)) only [go_sem, putM_len])
   | fail)
  ·((refine loopQ_next (k + 1) ?_ ?_ ?_; (omega); (show _ < _; omega); (simp -dsimp -implicitDefEqProofs (maxSteps := 1000000) (disch := first | omega | (simp only [LN]; omega)) only [go_sem, put_step l o k v (by omega)]; try trivial)))
  ·rw [show k = 8 by omega]; simp
set_option maxRecDepth 100000 in
set_option maxHeartbeats 4000000 in
theorem a17 (l : List UInt8) (hl : l.length ≤ 9000000) : ACalls Try.prog 25 [.p (eI l)] [] (.sl 0 1 0 l.length) [.arr 1 (l.map eB)] := by
 refine acalls_of (E := E) (fn := Try.f25) 6 [.tmp 2] rfl rfl rfl rfl (by decide) rfl rfl ?_
 repeat' (first
  | (with_reducible first | refine r_seq ?_ | refine r_block ?_ | refine fork_not ?_ | refine fork_and ?_ | refine fork_or ?_ | refine chk_ok (by kernel_rfl) ?_)
  | ((with_reducible first | refine fork_dec ?_ ?_ | refine fork_eq ?_ ?_ | refine fork_ne ?_ ?_ | refine fork_intro ?_ ?_) <;> intro h)
  | ((with_reducible show False); omega)
  | ((first | (with_reducible first | refine r_exit ?_ | refine r_skip ?_ | refine r_cond ?_ | refine r_region ?_ | refine r_ret ?_ | show VX _ _ _ _ _ _ _ | show vstep _ _ _ _ _ | show vskip _ _ _ | show withV _ _) | ((with_reducible show endA _ _ _ _ _ _ _); simp -implicitDefEqProofs only [endA]) | (with_reducible first | refine pick_viewG default (by first | omega | (simp only [LN]; omega)) (by first | omega | (simp only [LN]; omega)) ?_ | refine pick_own default (by first | omega | (simp only [LN]; omega)) ?_ | refine And.intro (by first | decide | omega | assumption | (simp only [LN]; omega)) ?_) | ((with_reducible show pickE _ _ _); first | refine pickE_intro _ ⟨by omega, by rfl⟩ ?_ | refine pickE_intro _ (by rfl) ?_) | fail); try simp -dsimp -implicitDefEqProofs (maxSteps := 1000000) (disch := first | omega | (simp only [LN]; omega)) only [go_sem])
  | fail)
 all_goals first | (simp; done)
theorem check_0 {l : List UInt8} {o : Int} (hc : checkM l o = 0) : o < l.length ∧ o % 8 = 0 := by
 unfold checkM at hc
 split at hc
 ·omega
 ·split at hc <;> omega
def withM (l : List UInt8) (o v : Int) : List UInt8 := if checkM l o = 0 then putM l o.toNat v 8 else []
set_option maxRecDepth 100000 in
set_option maxHeartbeats 4000000 in
theorem c25 (l : List UInt8) (o v : Int) (hl : l.length ≤ 9000000) (h64 : l.length % 64 = 0) (h0 : 0 ≤ o ∧ o ≤ 18446744073709551615) (hv : 0 ≤ v ∧ v ≤ 18446744073709551615) : PCalls Try.prog 9 [eI l, .v (.int .u64 o), .v (.int .u64 v)] (.tup [eI (withM l o v), .v (.int .i64 (checkM l o))]) := by
 refine pcalls_of (E := E) (fn := Try.f9) 27 [.cell 6 30, .tmp 7] rfl rfl rfl rfl (by decide) rfl ?_
 by_cases hc : checkM l o = 0
 ·have hb : o < l.length ∧ o % 8 = 0 := check_0 hc
  have e1 : IntKind.i64.wrap o = (o.toNat : Int) := by rw [i64w (by omega) (by omega)]; omega
  repeat' (first
   | (with_reducible first | refine r_seq ?_ | refine r_block ?_ | refine fork_not ?_ | refine fork_and ?_ | refine fork_or ?_ | refine chk_ok (by kernel_rfl) ?_)
   | ((with_reducible first | refine fork_dec ?_ ?_ | refine fork_eq ?_ ?_ | refine fork_ne ?_ ?_ | refine fork_intro ?_ ?_) <;> intro h)
   | ((with_reducible show False); omega)
   | ((first | (with_reducible first | refine r_exit ?_ | refine r_skip ?_ | refine r_cond ?_ | refine r_region ?_ | refine r_ret ?_ | show VX _ _ _ _ _ _ _ | show vstep _ _ _ _ _ | show vskip _ _ _ | show withV _ _) | ((with_reducible show endA _ _ _ _ _ _ _); simp -implicitDefEqProofs only [endA]) | (with_reducible first | refine pick_viewG default (by first | omega | (simp only [LN, e1, hc]; omega)) (by first | omega | (simp only [LN, e1, hc]; omega)) ?_ | refine pick_own default (by first | omega | (simp only [LN, e1, hc]; omega)) ?_ | refine And.intro (by first | decide | omega | assumption | (simp only [LN, e1, hc]; omega)) ?_) | ((with_reducible apply callK_pure); (exact c50 l o hl h0)) | ((with_reducible apply callF_lend); (exact c50 l o hl h0); rfl) | ((with_reducible apply callF_go); (exact c50 l o hl h0)) | (with_reducible first | apply callK_lent | apply callF_lent | apply hideP_own) | ((with_reducible apply callA_go); (first | exact a17 l hl | exact c52 l o.toNat v hl (by omega) hv | fail)) | ((with_reducible show pickE _ _ _); first | refine pickE_intro _ ⟨by omega, by rfl⟩ ?_ | refine pickE_intro _ (by rfl) ?_) | fail); try simp -dsimp -implicitDefEqProofs (maxSteps := 1000000) (disch := first | omega | (simp only [LN, e1, hc]; omega)) only [go_sem, e1, hc])
   | fail)
  all_goals (rw [withM, if_pos hc, List.take_of_length_le (by rw [putM_len]; omega)])
 ·repeat' (first
   | (with_reducible first | refine r_seq ?_ | refine r_block ?_ | refine fork_not ?_ | refine fork_and ?_ | refine fork_or ?_ | refine chk_ok (by kernel_rfl) ?_)
   | ((with_reducible first | refine fork_dec ?_ ?_ | refine fork_eq ?_ ?_ | refine fork_ne ?_ ?_ | refine fork_intro ?_ ?_) <;> intro h)
   | ((with_reducible show False); omega)
   | ((first | (with_reducible first | refine r_exit ?_ | refine r_skip ?_ | refine r_cond ?_ | refine r_region ?_ | refine r_ret ?_ | show VX _ _ _ _ _ _ _ | show vstep _ _ _ _ _ | show vskip _ _ _ | show withV _ _) | ((with_reducible show endA _ _ _ _ _ _ _); simp -implicitDefEqProofs only [endA]) | (with_reducible first | refine pick_viewG default (by first | omega | (simp only [LN, hc]; omega)) (by first | omega | (simp only [LN, hc]; omega)) ?_ | refine pick_own default (by first | omega | (simp only [LN, hc]; omega)) ?_ | refine And.intro (by first | decide | omega | assumption | (simp only [LN, hc]; omega)) ?_) | ((with_reducible apply callK_pure); (exact c50 l o hl h0)) | ((with_reducible apply callF_lend); (exact c50 l o hl h0); rfl) | ((with_reducible apply callF_go); (exact c50 l o hl h0)) | ((with_reducible show pickE _ _ _); first | refine pickE_intro _ ⟨by omega, by rfl⟩ ?_ | refine pickE_intro _ (by rfl) ?_) | fail); try simp -dsimp -implicitDefEqProofs (maxSteps := 1000000) (disch := first | omega | (simp only [LN, hc]; omega)) only [go_sem, hc])
   | fail)
  all_goals first | (simp [withM, hc]; done)
def zerosM (n : Nat) : List UInt8 := List.replicate n 0
def resM (l : List UInt8) (n : Int) : List UInt8 := if n < 0 ∨ 4096 < n then [] else l.take (n * 64).toNat ++ zerosM ((n * 64).toNat - l.length)
theorem res_err {l : List UInt8} {n : Int} (h : n < 0 ∨ 4096 < n) : resM l n = [] := if_pos h
set_option maxRecDepth 100000 in
set_option maxHeartbeats 4000000 in
theorem c19 (l : List UInt8) (n : Int) (hl : l.length ≤ 9000000) (hn : -9223372036854775808 ≤ n ∧ n ≤ 9223372036854775807) : PCalls Try.prog 11 [eI l, .v (.int .i64 n)] (.tup [eI (resM l n), .v (.int .i64 (if n < 0 ∨ 4096 < n then 1 else 0))]) := by
 refine pcalls_of (E := E) (fn := Try.f11) 24 [.cell 4 30, .tmp 5] rfl rfl rfl rfl (by decide) rfl ?_
 repeat' (first
  | (with_reducible first | refine r_seq ?_ | refine r_block ?_ | refine fork_not ?_ | refine fork_and ?_ | refine fork_or ?_ | refine chk_ok (by kernel_rfl) ?_)
  | ((with_reducible first | refine fork_dec ?_ ?_ | refine fork_eq ?_ ?_ | refine fork_ne ?_ ?_ | refine fork_intro ?_ ?_) <;> intro h)
  | ((with_reducible show False); omega)
  | ((first | (with_reducible first | refine r_exit ?_ | refine r_skip ?_ | refine r_cond ?_ | refine r_region ?_ | refine r_ret ?_ | show VX _ _ _ _ _ _ _ | show vstep _ _ _ _ _ | show vskip _ _ _ | show withV _ _) | ((with_reducible show endA _ _ _ _ _ _ _); simp -implicitDefEqProofs only [endA]) | (with_reducible first | refine pick_viewG default (by first | omega | (simp only [LN, List.length_replicate, List.drop_replicate, allB_rep, allB_app, allB_map, toBs_app, toBs_rep, toBs_map, List.take_zero, List.nil_append, Bool.and_self]; omega)) (by first | omega | (simp only [LN, List.length_replicate, List.drop_replicate, allB_rep, allB_app, allB_map, toBs_app, toBs_rep, toBs_map, List.take_zero, List.nil_append, Bool.and_self]; omega)) ?_ | refine pick_own default (by first | omega | (simp only [LN, List.length_replicate, List.drop_replicate, allB_rep, allB_app, allB_map, toBs_app, toBs_rep, toBs_map, List.take_zero, List.nil_append, Bool.and_self]; omega)) ?_ | refine And.intro (by first | decide | omega | assumption | (simp only [LN, List.length_replicate, List.drop_replicate, allB_rep, allB_app, allB_map, toBs_app, toBs_rep, toBs_map, List.take_zero, List.nil_append, Bool.and_self]; omega)) ?_) | ((with_reducible show pickE _ _ _); first | refine pickE_intro _ ⟨by omega, by rfl⟩ ?_ | refine pickE_intro _ (by rfl) ?_) | fail); try simp -dsimp -implicitDefEqProofs (maxSteps := 1000000) (disch := first | omega | (simp only [LN, List.length_replicate, List.drop_replicate, allB_rep, allB_app, allB_map, toBs_app, toBs_rep, toBs_map, List.take_zero, List.nil_append, Bool.and_self]; omega)) only [go_sem, List.length_replicate, List.drop_replicate, allB_rep, allB_app, allB_map, toBs_app, toBs_rep, toBs_map, List.take_zero, List.nil_append, Bool.and_self])
  | fail)
 ·rw [res_err (.inl h), if_pos (.inl h)]; exact ⟨rfl, rfl⟩
 ·rw [res_err (.inr h), if_pos (.inr h)]; exact ⟨rfl, rfl⟩
 ·rw [resM, if_neg (by omega), if_neg (by omega), zerosM, show (n * 64).toNat - min l.length (n * 64).toNat = (n * 64).toNat - l.length by omega]; exact ⟨rfl, rfl⟩
set_option maxRecDepth 100000 in
set_option maxHeartbeats 4000000 in
theorem c24 (l : List UInt8) (o : Nat) (hl : l.length ≤ 9000000) (h64 : l.length % 64 = 0) (h0 : (o : Int) ≤ 18446744073709551615) : PCalls Try.prog 10 [eI l, .v (.int .u64 o)] (.tup [.v (.int .u64 (if checkM l o = 0 then wordU l o 8 else 0)), .v (.int .i64 (checkM l o))]) := by
 refine pcalls_of (E := E) (fn := Try.f10) 17 [.tmp 4, .tmp 5] rfl rfl rfl rfl (by decide) rfl ?_
 by_cases hc : checkM l o = 0
 ·have hb := check_0 hc
  have e1 : IntKind.i64.wrap (o : Int) = (o : Int) := i64w (by omega) (by omega)
  repeat' (first
   | (with_reducible first | refine r_seq ?_ | refine r_block ?_ | refine fork_not ?_ | refine fork_and ?_ | refine fork_or ?_ | refine chk_ok (by kernel_rfl) ?_)
   | ((with_reducible first | refine fork_dec ?_ ?_ | refine fork_eq ?_ ?_ | refine fork_ne ?_ ?_ | refine fork_intro ?_ ?_) <;> intro h)
   | ((with_reducible show False); omega)
   | ((first | (with_reducible first | refine r_exit ?_ | refine r_skip ?_ | refine r_cond ?_ | refine r_region ?_ | refine r_ret ?_ | show VX _ _ _ _ _ _ _ | show vstep _ _ _ _ _ | show vskip _ _ _ | show withV _ _) | ((with_reducible show endA _ _ _ _ _ _ _); simp -implicitDefEqProofs only [endA]) | (with_reducible first | refine pick_viewG default (by first | omega | (simp only [LN, e1, hc]; omega)) (by first | omega | (simp only [LN, e1, hc]; omega)) ?_ | refine pick_own default (by first | omega | (simp only [LN, e1, hc]; omega)) ?_ | refine And.intro (by first | decide | omega | assumption | (simp only [LN, e1, hc]; omega)) ?_) | ((with_reducible apply callK_pure); (first | exact c50 l o hl (by omega) | exact c51 l o hl (by omega) | fail)) | ((with_reducible apply callF_lend); (first | exact c50 l o hl (by omega) | exact c51 l o hl (by omega) | fail); rfl) | ((with_reducible apply callF_go); (first | exact c50 l o hl (by omega) | exact c51 l o hl (by omega) | fail)) | ((with_reducible show pickE _ _ _); first | refine pickE_intro _ ⟨by omega, by rfl⟩ ?_ | refine pickE_intro _ (by rfl) ?_) | fail); try simp -dsimp -implicitDefEqProofs (maxSteps := 1000000) (disch := first | omega | (simp only [LN, e1, hc]; omega)) only [go_sem, e1, hc])
   | fail)
  all_goals first | rfl | (simp [hc]; done)
 ·repeat' (first
   | (with_reducible first | refine r_seq ?_ | refine r_block ?_ | refine fork_not ?_ | refine fork_and ?_ | refine fork_or ?_ | refine chk_ok (by kernel_rfl) ?_)
   | ((with_reducible first | refine fork_dec ?_ ?_ | refine fork_eq ?_ ?_ | refine fork_ne ?_ ?_ | refine fork_intro ?_ ?_) <;> intro h)
   | ((with_reducible show False); omega)
   | ((first | (with_reducible first | refine r_exit ?_ | refine r_skip ?_ | refine r_cond ?_ | refine r_region ?_ | refine r_ret ?_ | show VX _ _ _ _ _ _ _ | show vstep _ _ _ _ _ | show vskip _ _ _ | show withV _ _) | ((with_reducible show endA _ _ _ _ _ _ _); simp -implicitDefEqProofs only [endA]) | (with_reducible first | refine pick_viewG default (by first | omega | (simp only [LN, hc]; omega)) (by first | omega | (simp only [LN, hc]; omega)) ?_ | refine pick_own default (by first | omega | (simp only [LN, hc]; omega)) ?_ | refine And.intro (by first | decide | omega | assumption | (simp only [LN, hc]; omega)) ?_) | ((with_reducible apply callK_pure); (exact c50 l o hl (by omega))) | ((with_reducible apply callF_lend); (exact c50 l o hl (by omega)); rfl) | ((with_reducible apply callF_go); (exact c50 l o hl (by omega))) | ((with_reducible show pickE _ _ _); first | refine pickE_intro _ ⟨by omega, by rfl⟩ ?_ | refine pickE_intro _ (by rfl) ?_) | fail); try simp -dsimp -implicitDefEqProofs (maxSteps := 1000000) (disch := first | omega | (simp only [LN, hc]; omega)) only [go_sem, hc])
   | fail)
  all_goals first | rfl | (simp [hc]; done)
end Go.Proofs.Ytlldhofcdfejnaa