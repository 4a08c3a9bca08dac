/- Contracts of functions of this program, and the plain facts that they rest on. No conditions. -/
import Derived.Test.YtcnbngflehiphaaDoorEnv2
import Derived.Test.YtcnbngflehiphaaDoorBldQ
set_option linter.unusedSimpArgs false
set_option linter.unusedVariables false
namespace Go.Proofs.YtcnbngflehiphaaDoor
open Go Go.Ab
attribute [local irreducible] callK callF loopQ vstep vskip pickE hideP
theorem wr64 (x : Int) : IntKind.u64.wrap x = x % 18446744073709551616 := IntKind.wrap_u64 x
theorem wr8 (x : Int) : IntKind.u8.wrap x = x % 256 := IntKind.wrap_u8 x
abbrev bs (l : List UInt8) : ByteArray := ⟨l.toArray⟩
theorem bs_size (l : List UInt8) : (ByteArray.mk l.toArray).size = l.length := by simp [ByteArray.size]
theorem bs_list (l : List UInt8) : (ByteArray.mk l.toArray).data.toList = l := rfl
theorem bs_inj {a b : List UInt8} : (ByteArray.mk a.toArray = ByteArray.mk b.toArray) ↔ a = b := by
 constructor
 ·intro h; have := congrArg (fun x => x.data.toList) h; simpa using this
 ·rintro rfl; rfl
theorem tdiv64 (a : Nat) : Int.tdiv (a : Int) 64 = ((a / 64 : Nat) : Int) := rfl
theorem tmod64 (a : Nat) : Int.tmod (a : Int) 64 = ((a % 64 : Nat) : Int) := rfl
theorem i64w {x : Int} (h0 : -9223372036854775808 ≤ x) (h1 : x ≤ 9223372036854775807) : IntKind.i64.wrap x = x := by rw [IntKind.wrap_i64]; omega
theorem toList_bs (l : List UInt8) : (ByteArray.mk l.toArray).toList = l := by rw [Lib.toList_data]
theorem ext_bs (l : List UInt8) (a b : Nat) : (ByteArray.mk l.toArray).extract a b = ByteArray.mk ((l.drop a).take (b - a)).toArray := by
 apply ByteArray.ext
 apply Array.ext'
 simp [List.extract_eq_take_drop]
theorem beq_dec (a b : List UInt8) : (a == b) = decide (a = b) := by by_cases h : a = b <;> simp [h]
attribute [go_sem] toList_bs ext_bs beq_dec tdiv64 tmod64 bs_size bs_list bs_inj allB_map toBs_map
def eI (l : List UInt8) : PV := .agg [.v (.string (bs l))]
attribute [local go_sem] eI
set_option maxRecDepth 100000 in
set_option maxHeartbeats 4000000 in
theorem c15 (l : List UInt8) (hl : l.length ≤ 9000000) : PCalls Tryd.prog 15 [eI l] (.v (.int .i64 ((l.length / 64 : Nat) : Int))) := by
 refine pcalls_of (E := E) (fn := Tryd.f15) 7 [.tmp 2] rfl rfl rfl rfl (by decide) rfl ?_
 repeat' (first
  | (with_reducible first | refine r_seq ?_ | refine r_block ?_ | refine fork_not ?_ | refine fork_and ?_ | refine fork_or ?_ | refine chk_ok (by kernel_rfl) ?_)
  | ((with_reducible first | refine fork_dec ?_ ?_ | refine fork_eq ?_ ?_ | refine fork_ne ?_ ?_ | refine fork_intro ?_ ?_) <;> intro h)
  | ((with_reducible show False); omega)
  | ((first | (with_reducible first | refine r_exit ?_ | refine r_skip ?_ | refine r_cond ?_ | refine r_region ?_ | refine r_ret ?_ | show VX _ _ _ _ _ _ _ | show vstep _ _ _ _ _ | show vskip _ _ _ | show withV _ _) | ((with_reducible show endA _ _ _ _ _ _ _); simp -implicitDefEqProofs only [endA]) | (with_reducible first | refine pick_viewG default (by first | omega | (simp only [LN]; omega)) (by first | omega | (simp only [LN]; omega)) ?_ | refine pick_own default (by first | omega | (simp only [LN]; omega)) ?_ | refine And.intro (by first | decide | omega | assumption | (simp only [LN]; omega)) ?_) | ((with_reducible show pickE _ _ _); first | refine pickE_intro _ ⟨by omega, by rfl⟩ ?_ | refine pickE_intro _ (by rfl) ?_) | fail); try simp -dsimp -implicitDefEqProofs (maxSteps := 1000000) (disch := first | omega | (simp only [LN]; omega)) only [go_sem])
  | fail)
 all_goals rfl
set_option maxRecDepth 100000 in
set_option maxHeartbeats 4000000 in
theorem c17 (l : List UInt8) (hl : l.length ≤ 9000000) : PCalls Tryd.prog 17 [eI l] (.view 1 (l.map eB)) := by
 refine pcalls_of (E := E) (fn := Tryd.f17) 6 [.tmp 2] rfl rfl rfl rfl (by decide) rfl ?_
 repeat' (first
  | (with_reducible first | refine r_seq ?_ | refine r_block ?_ | refine fork_not ?_ | refine fork_and ?_ | refine fork_or ?_ | refine chk_ok (by kernel_rfl) ?_)
  | ((with_reducible first | refine fork_dec ?_ ?_ | refine fork_eq ?_ ?_ | refine fork_ne ?_ ?_ | refine fork_intro ?_ ?_) <;> intro h)
  | ((with_reducible show False); omega)
  | ((first | (with_reducible first | refine r_exit ?_ | refine r_skip ?_ | refine r_cond ?_ | refine r_region ?_ | refine r_ret ?_ | show VX _ _ _ _ _ _ _ | show vstep _ _ _ _ _ | show vskip _ _ _ | show withV _ _) | ((with_reducible show endA _ _ _ _ _ _ _); simp -implicitDefEqProofs only [endA]) | (with_reducible first | refine pick_viewG default (by first | omega | (simp only [LN]; omega)) (by first | omega | (simp only [LN]; omega)) ?_ | refine pick_own default (by first | omega | (simp only [LN]; omega)) ?_ | refine And.intro (by first | decide | omega | assumption | (simp only [LN]; omega)) ?_) | ((with_reducible show pickE _ _ _); first | refine pickE_intro _ ⟨by omega, by rfl⟩ ?_ | refine pickE_intro _ (by rfl) ?_) | fail); try simp -dsimp -implicitDefEqProofs (maxSteps := 1000000) (disch := first | omega | (simp only [LN]; omega)) only [go_sem])
  | fail)
 all_goals rfl
def newM (l : List UInt8) : List UInt8 := if l.length % 64 = 0 ∧ l.length / 64 ≤ 4096 then l else []
def newE (l : List UInt8) : Int := if l.length % 64 ≠ 0 then 11 else if 4096 < l.length / 64 then 1 else 0
set_option maxRecDepth 100000 in
set_option maxHeartbeats 4000000 in
theorem c14 (l : List UInt8) : PCalls Tryd.prog 14 [.view 1 (l.map eB)] (.tup [eI (newM l), .v (.int .i64 (newE l))]) := by
 refine pcalls_facts ⟨_, rfl, rfl, by decide⟩ fun hf => ?_
 simp only [go_sem, big] at hf
 refine pcalls_of (E := E) (fn := Tryd.f14) 17 [.cell 2 25, .tmp 3] rfl rfl rfl rfl (by decide) rfl ?_
 repeat' (first
  | (with_reducible first | refine r_seq ?_ | refine r_block ?_ | refine fork_not ?_ | refine fork_and ?_ | refine fork_or ?_ | refine chk_ok (by kernel_rfl) ?_)
  | ((with_reducible first | refine fork_dec ?_ ?_ | refine fork_eq ?_ ?_ | refine fork_ne ?_ ?_ | refine fork_intro ?_ ?_) <;> intro h)
  | ((with_reducible show False); omega)
  | ((first | (with_reducible first | refine r_exit ?_ | refine r_skip ?_ | refine r_cond ?_ | refine r_region ?_ | refine r_ret ?_ | show VX _ _ _ _ _ _ _ | show vstep _ _ _ _ _ | show vskip _ _ _ | show withV _ _) | ((with_reducible show endA _ _ _ _ _ _ _); simp -implicitDefEqProofs only [endA]) | (with_reducible first | refine pick_viewG default (by first | omega | (simp only [LN]; omega)) (by first | omega | (simp only [LN]; omega)) ?_ | refine pick_own default (by first | omega | (simp only [LN]; omega)) ?_ | refine And.intro (by first | decide | omega | assumption | (simp only [LN]; omega)) ?_) | ((with_reducible show pickE _ _ _); first | refine pickE_intro _ ⟨by omega, by rfl⟩ ?_ | refine pickE_intro _ (by rfl) ?_) | fail); try simp -dsimp -implicitDefEqProofs (maxSteps := 1000000) (disch := first | omega | (simp only [LN]; omega)) only [go_sem])
  | fail)
 all_goals unfold newM newE
 ·rw [if_neg (by omega), if_pos (by omega)]; exact ⟨rfl, rfl⟩
 ·rw [if_neg (by omega), if_neg (by omega), if_pos (by omega)]; exact ⟨rfl, rfl⟩
 ·rw [if_pos (by omega), if_neg (by omega), if_neg (by omega)]; exact ⟨rfl, rfl⟩
set_option maxRecDepth 100000 in
set_option maxHeartbeats 4000000 in
theorem c16 (l p : List UInt8) (hl : l.length ≤ 9000000) : PCalls Tryd.prog 16 [eI l, .view 1 (p.map eB)] (.v (.bool (decide (l = p)))) := by
 refine pcalls_facts ⟨_, rfl, rfl, by decide⟩ fun hf => ?_
 simp only [go_sem, big] at hf
 refine pcalls_of (E := E) (fn := Tryd.f16) 21 [.tmp 4] rfl rfl rfl rfl (by decide) rfl ?_
 repeat' (first
  | (with_reducible first | refine r_seq ?_ | refine r_block ?_ | refine fork_not ?_ | refine fork_and ?_ | refine fork_or ?_ | refine chk_ok (by kernel_rfl) ?_)
  | ((with_reducible first | refine fork_dec ?_ ?_ | refine fork_eq ?_ ?_ | refine fork_ne ?_ ?_ | refine fork_intro ?_ ?_) <;> intro h)
  | ((with_reducible show False); omega)
  | ((first | (with_reducible first | refine r_exit ?_ | refine r_skip ?_ | refine r_cond ?_ | refine r_region ?_ | refine r_ret ?_ | show VX _ _ _ _ _ _ _ | show vstep _ _ _ _ _ | show vskip _ _ _ | show withV _ _) | ((with_reducible show endA _ _ _ _ _ _ _); simp -implicitDefEqProofs only [endA]) | (with_reducible first | refine pick_viewG default (by first | omega | (simp only [LN]; omega)) (by first | omega | (simp only [LN]; omega)) ?_ | refine pick_own default (by first | omega | (simp only [LN]; omega)) ?_ | refine And.intro (by first | decide | omega | assumption | (simp only [LN]; omega)) ?_) | ((with_reducible apply callK_pure); (first | exact c17 l hl | exact c15 l hl | fail)) | ((with_reducible apply callF_lend); (first | exact c17 l hl | exact c15 l hl | fail); rfl) | ((with_reducible apply callF_go); (first | exact c17 l hl | exact c15 l hl | fail)) | ((with_reducible show pickE _ _ _); first | refine pickE_intro _ ⟨by omega, by rfl⟩ ?_ | refine pickE_intro _ (by rfl) ?_) | fail); try simp -dsimp -implicitDefEqProofs (maxSteps := 1000000) (disch := first | omega | (simp only [LN]; omega)) only [go_sem])
  | fail)
 all_goals first
  | rfl
  | (have : ¬ l = p := by rintro rfl; omega
     rw [decide_eq_false this])
def wholeM (p : List UInt8) : List UInt8 := p.take (64 * min (p.length / 64) 40)
set_option maxRecDepth 100000 in
set_option maxHeartbeats 4000000 in
theorem c18 (p : List UInt8) : PCalls Tryd.prog 18 [.view 1 (p.map eB)] (.view 1 ((wholeM p).map eB)) := by
 refine pcalls_facts ⟨_, rfl, rfl, by decide⟩ fun hf => ?_
 simp only [go_sem, big] at hf
 refine pcalls_of (E := E) (fn := Tryd.f18) 13 [.tmp 2] rfl rfl rfl rfl (by decide) rfl ?_
 repeat' (first
  | (with_reducible first | refine r_seq ?_ | refine r_block ?_ | refine fork_not ?_ | refine fork_and ?_ | refine fork_or ?_ | refine chk_ok (by kernel_rfl) ?_)
  | ((with_reducible first | refine fork_dec ?_ ?_ | refine fork_eq ?_ ?_ | refine fork_ne ?_ ?_ | refine fork_intro ?_ ?_) <;> intro h)
  | ((with_reducible show False); omega)
  | ((first | (with_reducible first | refine r_exit ?_ | refine r_skip ?_ | refine r_cond ?_ | refine r_region ?_ | refine r_ret ?_ | show VX _ _ _ _ _ _ _ | show vstep _ _ _ _ _ | show vskip _ _ _ | show withV _ _) | ((with_reducible show endA _ _ _ _ _ _ _); simp -implicitDefEqProofs only [endA]) | (with_reducible first | refine pick_viewG default (by first | omega | (simp only [LN]; omega)) (by first | omega | (simp only [LN]; omega)) ?_ | refine pick_own default (by first | omega | (simp only [LN]; omega)) ?_ | refine And.intro (by first | decide | omega | assumption | (simp only [LN]; omega)) ?_) | ((with_reducible show pickE _ _ _); first | refine pickE_intro _ ⟨by omega, by rfl⟩ ?_ | refine pickE_intro _ (by rfl) ?_) | fail); try simp -dsimp -implicitDefEqProofs (maxSteps := 1000000) (disch := first | omega | (simp only [LN]; omega)) only [go_sem])
  | fail)
 ·rw [wholeM, show 64 * min (p.length / 64) 40 = 2560 by omega]
 ·rw [wholeM, show 64 * min (p.length / 64) 40 = (64 * (p.length / 64 : Int)).toNat by omega]
set_option maxRecDepth 100000 in
set_option maxHeartbeats 4000000 in
theorem c21 (a b : List UInt8) : PCalls Tryd.prog 21 [eI a, eI b] (.v (.bool (decide (a = b)))) := by
 refine pcalls_of (E := E) (fn := Tryd.f21) 10 [.tmp 4] rfl rfl rfl rfl (by decide) rfl ?_
 repeat' (first
  | (with_reducible first | refine r_seq ?_ | refine r_block ?_ | refine fork_not ?_ | refine fork_and ?_ | refine fork_or ?_ | refine chk_ok (by kernel_rfl) ?_)
  | ((with_reducible first | refine fork_dec ?_ ?_ | refine fork_eq ?_ ?_ | refine fork_ne ?_ ?_ | refine fork_intro ?_ ?_) <;> intro h)
  | ((with_reducible show False); omega)
  | ((first | (with_reducible first | refine r_exit ?_ | refine r_skip ?_ | refine r_cond ?_ | refine r_region ?_ | refine r_ret ?_ | show VX _ _ _ _ _ _ _ | show vstep _ _ _ _ _ | show vskip _ _ _ | show withV _ _) | ((with_reducible show endA _ _ _ _ _ _ _); simp -implicitDefEqProofs only [endA]) | (with_reducible first | refine pick_viewG default (by first | omega | (simp only [LN]; omega)) (by first | omega | (simp only [LN]; omega)) ?_ | refine pick_own default (by first | omega | (simp only [LN]; omega)) ?_ | refine And.intro (by first | decide | omega | assumption | (simp only [LN]; omega)) ?_) | ((with_reducible show pickE _ _ _); first | refine pickE_intro _ ⟨by omega, by rfl⟩ ?_ | refine pickE_intro _ (by rfl) ?_) | fail); try simp -dsimp -implicitDefEqProofs (maxSteps := 1000000) (disch := first | omega | (simp only [LN]; omega)) only [go_sem])
  | fail)
 all_goals rfl
set_option maxRecDepth 100000 in
set_option maxHeartbeats 4000000 in
theorem c49 (l : List UInt8) (n : Nat) (hl : l.length ≤ 9000000) (hn : (n + 1) * 64 ≤ l.length) : PCalls Tryd.prog 49 [eI l, .v (.int .i64 n)] (.v (.string (bs ((l.drop (n * 64)).take 64)))) := by
 refine pcalls_of (E := E) (fn := Tryd.f49) 13 [.tmp 4] rfl rfl rfl rfl (by decide) rfl ?_
 repeat' (first
  | (with_reducible first | refine r_seq ?_ | refine r_block ?_ | refine fork_not ?_ | refine fork_and ?_ | refine fork_or ?_ | refine chk_ok (by kernel_rfl) ?_)
  | ((with_reducible first | refine fork_dec ?_ ?_ | refine fork_eq ?_ ?_ | refine fork_ne ?_ ?_ | refine fork_intro ?_ ?_) <;> intro h)
  | ((with_reducible show False); omega)
  | ((first | (with_reducible first | refine r_exit ?_ | refine r_skip ?_ | refine r_cond ?_ | refine r_region ?_ | refine r_ret ?_ | show VX _ _ _ _ _ _ _ | show vstep _ _ _ _ _ | show vskip _ _ _ | show withV _ _) | ((with_reducible show endA _ _ _ _ _ _ _); simp -implicitDefEqProofs only [endA]) | (with_reducible first | refine pick_viewG default (by first | omega | (simp only [LN]; omega)) (by first | omega | (simp only [LN]; omega)) ?_ | refine pick_own default (by first | omega | (simp only [LN]; omega)) ?_ | refine And.intro (by first | decide | omega | assumption | (simp only [LN]; omega)) ?_) | ((with_reducible show pickE _ _ _); first | refine pickE_intro _ ⟨by omega, by rfl⟩ ?_ | refine pickE_intro _ (by rfl) ?_) | fail); try simp -dsimp -implicitDefEqProofs (maxSteps := 1000000) (disch := first | omega | (simp only [LN]; omega)) only [go_sem])
  | fail)
 rw [show ((n : Int) * 64).toNat = n * 64 by omega, show (((n : Int) + 1) * 64).toNat - n * 64 = 64 by omega]
def checkM (l : List UInt8) (o : Int) : Int := if o % 8 ≠ 0 then 1 else if l.length ≤ o then 2 else 0
set_option maxRecDepth 100000 in
set_option maxHeartbeats 4000000 in
theorem c50 (l : List UInt8) (o : Int) (hl : l.length ≤ 9000000) (h0 : 0 ≤ o ∧ o ≤ 18446744073709551615) : PCalls Tryd.prog 50 [eI l, .v (.int .u64 o)] (.v (.int .i64 (checkM l o))) := by
 refine pcalls_of (E := E) (fn := Tryd.f50) 14 [.tmp 4] rfl rfl rfl rfl (by decide) rfl ?_
 repeat' (first
  | (with_reducible first | refine r_seq ?_ | refine r_block ?_ | refine fork_not ?_ | refine fork_and ?_ | refine fork_or ?_ | refine chk_ok (by kernel_rfl) ?_)
  | ((with_reducible first | refine fork_dec ?_ ?_ | refine fork_eq ?_ ?_ | refine fork_ne ?_ ?_ | refine fork_intro ?_ ?_) <;> intro h)
  | ((with_reducible show False); omega)
  | ((first | (with_reducible first | refine r_exit ?_ | refine r_skip ?_ | refine r_cond ?_ | refine r_region ?_ | refine r_ret ?_ | show VX _ _ _ _ _ _ _ | show vstep _ _ _ _ _ | show vskip _ _ _ | show withV _ _) | ((with_reducible show endA _ _ _ _ _ _ _); simp -implicitDefEqProofs only [endA]) | (with_reducible first | refine pick_viewG default (by first | omega | (simp only [LN]; omega)) (by first | omega | (simp only [LN]; omega)) ?_ | refine pick_own default (by first | omega | (simp only [LN]; omega)) ?_ | refine And.intro (by first | decide | omega | assumption | (simp only [LN]; omega)) ?_) | ((with_reducible show pickE _ _ _); first | refine pickE_intro _ ⟨by omega, by rfl⟩ ?_ | refine pickE_intro _ (by rfl) ?_) | fail); try simp -dsimp -implicitDefEqProofs (maxSteps := 1000000) (disch := first | omega | (simp only [LN]; omega)) only [go_sem])
  | fail)
 all_goals (simp only [Int.tmod_eq_emod_of_nonneg h0.1, wr64] at *; unfold checkM)
 ·rw [if_pos (by omega)]
 ·rw [if_neg (by omega), if_pos (by omega)]
 ·rw [if_neg (by omega), if_neg (by omega)]
def byteM (l : List UInt8) (o k : Nat) : Nat := (l.getD (o + k) 0).toNat
def wordU (l : List UInt8) (o : Nat) : Nat → Nat
 | 0 => 0
 | k + 1 => wordU l o k + byteM l o k * 256 ^ k
@[go_sem] theorem wordU_0 (l : List UInt8) (o : Nat) : ((wordU l o 0 : Nat) : Int) = 0 := rfl
theorem byteM_lt (l : List UInt8) (o k : Nat) : byteM l o k < 256 := by unfold byteM; exact UInt8.toNat_lt _
theorem wordU_lt (l : List UInt8) (o : Nat) : ∀ k, wordU l o k < 256 ^ k
 | 0 => by simp [wordU]
 | k + 1 => by
  have h1 := wordU_lt l o k
  have h2 := byteM_lt l o k
  have h3 : byteM l o k * 256 ^ k ≤ 255 * 256 ^ k := Nat.mul_le_mul_right _ (by omega)
  rw [wordU, Nat.pow_succ]; omega
theorem bor_add (a b : Int) (i : Nat) (ha0 : 0 ≤ a) (ha : a < 2 ^ i) (hb : 0 ≤ b) (hab : a + b * 2 ^ i < 18446744073709551616) :
  ((BitVec.ofInt 64 a ||| BitVec.ofInt 64 (b * 2 ^ i)).toNat : Int) = a + b * 2 ^ i := by
 obtain ⟨m, rfl⟩ := Int.eq_ofNat_of_zero_le ha0
 obtain ⟨n, rfl⟩ := Int.eq_ofNat_of_zero_le hb
 have e : ((n : Int) * 2 ^ i) = ((n * 2 ^ i : Nat) : Int) := by simp
 rw [e] at hab ⊢
 have hm : m < 2 ^ i := by exact_mod_cast ha
 have hs : m + n * 2 ^ i < 2 ^ 64 := by omega
 rw [BitVec.toNat_or, BitVec.ofInt_natCast, BitVec.ofInt_natCast, BitVec.toNat_ofNat, BitVec.toNat_ofNat, Nat.mod_eq_of_lt (by omega), Nat.mod_eq_of_lt (by omega)]
 have := Nat.shiftLeft_add_eq_or_of_lt hm n
 rw [Nat.shiftLeft_eq] at this
 rw [Nat.or_comm, ← this]
 push_cast; omega
theorem shift8 (k : Nat) (hk : k < 8) : min (IntKind.u64.wrap (8 * (k : Int))).toNat 64 = 8 * k := by rw [wr64]; omega
theorem pow8 (k : Nat) : (2 : Int) ^ (8 * k) = 256 ^ k := by rw [Int.pow_mul]; rfl
theorem pow8n (k : Nat) : (2 : Int) ^ (8 * k) = ((256 ^ k : Nat) : Int) := by rw [Int.pow_mul, Int.natCast_pow]; rfl
theorem word_core (a b q i : Nat) (hq : (2 : Int) ^ i = (q : Int)) (h1 : b < 256) (h2 : a < q) (h3 : a + b * q < 18446744073709551616) :
  IntKind.u64.wrap ((BitVec.ofInt 64 (a : Int) ||| BitVec.ofInt 64 (IntKind.u64.wrap (IntKind.u64.wrap (b : Int) * 2 ^ i))).toNat : Int) = ((a + b * q : Nat) : Int) := by
 have e1 : IntKind.u64.wrap (b : Int) = b := by rw [wr64]; omega
 have e2 : (b : Int) * 2 ^ i = ((b * q : Nat) : Int) := by rw [hq, Int.natCast_mul]
 have e3 : IntKind.u64.wrap ((b : Int) * 2 ^ i) = (b : Int) * 2 ^ i := by rw [e2, wr64]; omega
 have e4 := bor_add a b i (by omega) (by rw [hq]; omega) (by omega) (by rw [e2]; omega)
 rw [e1, e3, e4, e2, wr64]
 omega
theorem word_step (l : List UInt8) (o k : Nat) (hk : k < 8) : IntKind.u64.wrap ((BitVec.ofInt IntKind.u64.bits (wordU l o k : Int) ||| BitVec.ofInt IntKind.u64.bits (IntKind.u64.wrap (IntKind.u64.wrap (byteAt (bs l) (o + k)) * 2 ^ min (IntKind.u64.wrap (8 * (k : Int))).toNat 64))).toNat : Int) = ((wordU l o (k + 1) : Nat) : Int) := by
 have h3 := wordU_lt l o (k + 1)
 have h4 : (256 : Nat) ^ (k + 1) ≤ 256 ^ 8 := Nat.pow_le_pow_right (by decide) (by omega)
 have h5 : (256 : Nat) ^ 8 = 18446744073709551616 := by decide
 rw [shift8 k hk]
 exact word_core _ _ _ _ (pow8n k) (byteM_lt l o k) (wordU_lt l o k) (Nat.lt_of_lt_of_le h3 (h5 ▸ h4))
set_option maxRecDepth 100000 in
set_option maxHeartbeats 4000000 in
theorem c51 (l : List UInt8) (o : Nat) (hl : l.length ≤ 9000000) (ho : o + 8 ≤ l.length) : PCalls Tryd.prog 51 [eI l, .v (.int .i64 o)] (.v (.int .u64 (wordU l o 8))) := by
 refine pcalls_of (E := E) (fn := Tryd.f51) 25 [.tmp 4] rfl rfl rfl rfl (by decide) rfl ?_
 repeat' (first
  | (with_reducible first | refine r_seq ?_ | refine r_block ?_ | refine fork_not ?_ | refine fork_and ?_ | refine fork_or ?_ | refine chk_ok (by kernel_rfl) ?_)
  | ((with_reducible first | refine fork_dec ?_ ?_ | refine fork_eq ?_ ?_ | refine fork_ne ?_ ?_ | refine fork_intro ?_ ?_) <;> intro h)
  | ((with_reducible show False); omega)
  | ((first | (with_reducible first | refine r_exit ?_ | refine r_skip ?_ | refine r_cond ?_ | refine r_region ?_ | refine r_ret ?_ | show VX _ _ _ _ _ _ _ | show vstep _ _ _ _ _ | show vskip _ _ _ | show withV _ _) | ((with_reducible show endA _ _ _ _ _ _ _); simp -implicitDefEqProofs only [endA]) | (with_reducible first | refine pick_viewG default (by first | omega | (simp only [LN]; omega)) (by first | omega | (simp only [LN]; omega)) ?_ | refine pick_own default (by first | omega | (simp only [LN]; omega)) ?_ | refine And.intro (by first | decide | omega | assumption | (simp only [LN]; omega)) ?_) | ((with_reducible show pickE _ _ _); first | refine pickE_intro _ ⟨by omega, by rfl⟩ ?_ | refine pickE_intro _ (by rfl) ?_) | fail); try simp -dsimp -implicitDefEqProofs (maxSteps := 1000000) (disch := first | omega | (simp only [LN]; omega)) only [go_sem])
  | fail)
 refine r_loopA (α := Nat) [1, 2] (fun k b => [(7, aI k), (5, .p (.v (.int .u64 (wordU l o k))))]) (fun k b => []) (fun k => []) (fun k => k ≤ 8) (fun k => 8 - k) (0) ?h0_1 ?hs0_1 ?I_1 ?hI_1 ?round_1
 case hI_1 => intro x; (simp -dsimp -implicitDefEqProofs (maxSteps := 1000000) (disch := first | omega | (simp only [LN]; omega)) only [go_sem]) <;> exact rfl
 case hs0_1 => refine wk_auto ?_; (simp -dsimp -implicitDefEqProofs (maxSteps := 1000000) (disch := first | omega | (simp only [LN]; omega)) only [go_sem]) <;> (try omega)
 case h0_1 => exact Nat.zero_le _
 case round_1 =>
  rintro k h1
  repeat' (first
   | (with_reducible first | refine r_seq ?_ | refine r_block ?_ | refine fork_not ?_ | refine fork_and ?_ | refine fork_or ?_ | refine chk_ok (by kernel_rfl) ?_)
   | ((with_reducible first | refine fork_dec ?_ ?_ | refine fork_eq ?_ ?_ | refine fork_ne ?_ ?_ | refine fork_intro ?_ ?_) <;> intro h)
   | ((with_reducible show False); omega)
   | ((first | (with_reducible first | refine r_exit ?_ | refine r_skip ?_ | refine r_cond ?_ | refine r_region ?_ | refine r_ret ?_ | show VX _ _ _ _ _ _ _ | show vstep _ _ _ _ _ | show vskip _ _ _ | show withV _ _) | ((with_reducible show endA _ _ _ _ _ _ _); simp -implicitDefEqProofs only [endA]) | (with_reducible first | refine pick_viewG default (by first | omega | (simp only [LN]; omega)) (by first | omega | (simp only [LN]; omega)) ?_ | refine pick_own default (by first | omega | (simp only [LN]; omega)) ?_ | refine And.intro (by first | decide | omega | assumption | (simp only [LN]; omega)) ?_) | ((with_reducible show pickE _ _ _); first | refine pickE_intro _ ⟨by omega, by rfl⟩ ?_ | refine pickE_intro _ (by rfl) ?_) | fail); try simp -dsimp -implicitDefEqProofs (maxSteps := 1000000) (disch := first | omega | (simp only [LN]; omega)) only [go_sem])
   | fail)
  ·((refine loopQ_next (k + 1) ?_ ?_ ?_; (omega); (show _ < _; omega); (simp -dsimp -implicitDefEqProofs (maxSteps := 1000000) (disch := first | omega | (simp only [LN]; omega)) only [go_sem]; try trivial)); rw [word_step l o k (by omega)])
  ·rw [show k = 8 by omega]
def putM (l : List UInt8) (o : Nat) (v : Int) : Nat → List UInt8
 | 0 => l
 | k + 1 => (putM l o v k).set (o + k) (UInt8.ofNat (v / 256 ^ k % 256).toNat)
@[go_sem] theorem putM_0 (l : List UInt8) (o : Nat) (v : Int) : putM l o v 0 = l := rfl
@[go_sem] theorem putM_len (l : List UInt8) (o : Nat) (v : Int) : ∀ k, (putM l o v k).length = l.length
 | 0 => rfl
 | k + 1 => by rw [putM, List.length_set, putM_len l o v k]
theorem put_step (l : List UInt8) (o k : Nat) (v : Int) (hk : k < 8) : ((putM l o v k).map eB).set (o + k) (PV.v (.int .u8 (IntKind.u8.wrap (v / 2 ^ min (IntKind.u64.wrap (8 * (k : Int))).toNat 64)))) = (putM l o v (k + 1)).map eB := by
 rw [shift8 k hk, pow8, putM, List.map_set, wr8]
 congr 1
 show _ = eB _
 unfold eB
 congr 2
 have h0 : 0 ≤ v / 256 ^ k % 256 := Int.emod_nonneg _ (by decide)
 have h1 : v / 256 ^ k % 256 < 256 := Int.emod_lt_of_pos _ (by decide)
 generalize v / 256 ^ k % 256 = x at *
 simp; omega
set_option maxRecDepth 100000 in
set_option maxHeartbeats 4000000 in
theorem c52 (l : List UInt8) (o : Nat) (v : Int) (hl : l.length ≤ 9000000) (ho : o + 8 ≤ l.length) (hv : 0 ≤ v ∧ v ≤ 18446744073709551615) : ACalls Tryd.prog 52 [.sl 0 1 0 l.length, .p (.v (.int .i64 o)), .p (.v (.int .u64 v))] [.arr 1 (l.map eB)] (.p (.tup [])) [.arr 1 ((putM l o v 8).map eB)] := by
 refine acalls_of (E := E) (fn := Tryd.f52) 22 [] rfl rfl rfl rfl (by decide) rfl rfl ?_
 repeat' (first
  | (with_reducible first | refine r_seq ?_ | refine r_block ?_ | refine fork_not ?_ | refine fork_and ?_ | refine fork_or ?_ | refine chk_ok (by kernel_rfl) ?_)
  | ((with_reducible first | refine fork_dec ?_ ?_ | refine fork_eq ?_ ?_ | refine fork_ne ?_ ?_ | refine fork_intro ?_ ?_) <;> intro h)
  | ((with_reducible show False); omega)
  | ((first | (with_reducible first | refine r_exit ?_ | refine r_skip ?_ | refine r_cond ?_ | refine r_region ?_ | refine r_ret ?_ | show VX _ _ _ _ _ _ _ | show vstep _ _ _ _ _ | show vskip _ _ _ | show withV _ _) | ((with_reducible show endA _ _ _ _ _ _ _); simp -implicitDefEqProofs only [endA]) | (with_reducible first | refine pick_viewG default (by first | omega | (simp only [LN]; omega)) (by first | omega | (simp only [LN]; omega)) ?_ | refine pick_own default (by first | omega | (simp only [LN]; omega)) ?_ | refine And.intro (by first | decide | omega | assumption | (simp only [LN]; omega)) ?_) | ((with_reducible show pickE _ _ _); first | refine pickE_intro _ ⟨by omega, by rfl⟩ ?_ | refine pickE_intro _ (by rfl) ?_) | fail); try simp -dsimp -implicitDefEqProofs (maxSteps := 1000000) (disch := first | omega | (simp only [LN]; omega)) only [go_sem])
  | fail)
 refine r_loopA (α := Nat) [0, 1, 2] (fun k b => [(7, aI k)]) (fun k b => [(0, .arr 1 ((putM l o v k).map eB))]) (fun k => []) (fun k => k ≤ 8) (fun k => 8 - k) (0) ?h0_2 ?hs0_2 ?I_2 ?hI_2 ?round_2
 case hI_2 => intro x; (simp -dsimp -implicitDefEqProofs (maxSteps := 1000000) (disch := first | omega | (simp only [LN]; omega)) only [go_sem]) <;> exact rfl
 case hs0_2 => refine wk_auto ?_; (simp -dsimp -implicitDefEqProofs (maxSteps := 1000000) (disch := first | omega | (simp only [LN]; omega)) only [go_sem]) <;> (try omega)
 case h0_2 => exact Nat.zero_le _
 case round_2 =>
  rintro k h1
  repeat' (first
   | (with_reducible first | refine r_seq ?_ | refine r_block ?_ | refine fork_not ?_ | refine fork_and ?_ | refine fork_or ?_ | refine chk_ok (by kernel_rfl) ?_)
   | ((with_reducible first | refine fork_dec ?_ ?_ | refine fork_eq ?_ ?_ | refine fork_ne ?_ ?_ | refine fork_intro ?_ ?_) <;> intro h)
   | ((with_reducible show False); omega)
   | ((first | (with_reducible first | refine r_exit ?_ | refine r_skip ?_ | refine r_cond ?_ | refine r_region ?_ | refine r_ret ?_ | show VX _ _ _ _ _ _ _ | show vstep _ _ _ _ _ | show vskip _ _ _ | show withV _ _) | ((with_reducible show endA _ _ _ _ _ _ _); simp -implicitDefEqProofs only [endA]) | (with_reducible first | refine pick_viewG default (by first | omega | (simp only [LN, putM_len]; omega)) (by first | omega | (simp only [LN, putM_len]; omega)) ?_ | refine pick_own default (by first | omega | (simp only [LN, putM_len]; omega)) ?_ | refine And.intro (by first | decide | omega | assumption | (simp only [LN, putM_len]; omega)) ?_) | ((with_reducible show pickE _ _ _); first | refine pickE_intro _ ⟨by omega, by rfl⟩ ?_ | refine pickE_intro _ (by rfl) ?_) | fail); try simp -dsimp -implicitDefEqProofs (maxSteps := 1000000) (disch := first | omega | (simp only [LN, putM_len]; omega)) only [go_sem, putM_len])
   | fail)
  ·((refine loopQ_next (k + 1) ?_ ?_ ?_; (omega); (show _ < _; omega); (simp -dsimp -implicitDefEqProofs (maxSteps := 1000000) (disch := first | omega | (simp only [LN]; omega)) only [go_sem, put_step l o k v (by omega)]; try trivial)))
  ·rw [show k = 8 by omega]; simp
end Go.Proofs.YtcnbngflehiphaaDoor