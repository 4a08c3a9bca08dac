/- Contracts of functions of this program, and the plain facts that they rest on. No conditions. -/
import Derived.Test.YtcnbngflehiphaaDoorDvGQ
set_option linter.unusedSimpArgs false
set_option linter.unusedVariables false
namespace Go.Proofs.YtcnbngflehiphaaDoor
open Go Go.Ab
attribute [local irreducible] callK callF loopQ vstep vskip pickE hideP
set_option maxRecDepth 100000
theorem dPersist0 (es : Array MapEntry) (cl : Nat) (A : Dv) (J : Nat → List (Int × Int)) (h : WF A) (r k : Nat) (hr : r < A.n) (hk : k ≤ (A.hist r).length) (hj : (jk A J r).length ≤ 1000000000) : ACalls Tryd.prog 72 [.loc 0 0, .p (.v (.int .i64 r)), .p (.v (.int .i64 k))] [deO A 1 2 3 4, peO A, cuO A, liO A J 12, thO A 0 0 18, thO A 1 0 18, thO A 2 0 18, thO A 3 0 18, thO A 4 0 18, thO A 5 0 18, thO A 6 0 18, thO A 7 0 18, hiO A J 0, hiO A J 1, hiO A J 2, hiO A J 3, hiO A J 4, hiO A J 5, .mpx (some .i64) es cl, noO A 1, noO A 2, noO A 3, noO A 4, noO A 5, noO A 6, noO A 7] (.p (.tup [])) [deO (A.persist r k) 1 2 3 4, peO (A.persist r k), cuO (A.persist r k), liO (A.persist r k) (jper A J r k) 26, thO (A.persist r k) 0 0 18, thO (A.persist r k) 1 0 18, thO (A.persist r k) 2 0 18, thO (A.persist r k) 3 0 18, thO (A.persist r k) 4 0 18, thO (A.persist r k) 5 0 18, thO (A.persist r k) 6 0 18, thO (A.persist r k) 7 0 18, .dead, .dead, .dead, .dead, .dead, .dead, .mpx (some .i64) es cl, noO (A.persist r k) 1, noO (A.persist r k) 2, noO (A.persist r k) 3, noO (A.persist r k) 4, noO (A.persist r k) 5, noO (A.persist r k) 6, noO (A.persist r k) 7, hiO (A.persist r k) (jper A J r k) 0, hiO (A.persist r k) (jper A J r k) 1, hiO (A.persist r k) (jper A J r k) 2, hiO (A.persist r k) (jper A J r k) 3, hiO (A.persist r k) (jper A J r k) 4, hiO (A.persist r k) (jper A J r k) 5] := by
 refine acalls_mp 19 (some .i64) (.i .u64 (A.note 1)) rfl rfl ⟨_, rfl, rfl, by decide⟩ (Nat.le_of_ble_eq_true rfl) fun es1 cl1 _ => ?_
 refine acalls_mp 20 (some .i64) (.i .u64 (A.note 2)) rfl rfl ⟨_, rfl, rfl, by decide⟩ (Nat.le_of_ble_eq_true rfl) fun es2 cl2 _ => ?_
 refine acalls_mp 21 (some .i64) (.i .u64 (A.note 3)) rfl rfl ⟨_, rfl, rfl, by decide⟩ (Nat.le_of_ble_eq_true rfl) fun es3 cl3 _ => ?_
 refine acalls_mp 22 (some .i64) (.i .u64 (A.note 4)) rfl rfl ⟨_, rfl, rfl, by decide⟩ (Nat.le_of_ble_eq_true rfl) fun es4 cl4 _ => ?_
 refine acalls_mp 23 (some .i64) (.i .u64 (A.note 5)) rfl rfl ⟨_, rfl, rfl, by decide⟩ (Nat.le_of_ble_eq_true rfl) fun es5 cl5 _ => ?_
 refine acalls_mp 24 (some .i64) (.i .u64 (A.note 6)) rfl rfl ⟨_, rfl, rfl, by decide⟩ (Nat.le_of_ble_eq_true rfl) fun es6 cl6 _ => ?_
 refine acalls_mp 25 (some .i64) (.i .u64 (A.note 7)) rfl rfl ⟨_, rfl, rfl, by decide⟩ (Nat.le_of_ble_eq_true rfl) fun es7 cl7 _ => ?_
 exact dPersistX A J (fun i => match i with | 0 => es | 1 => es1 | 2 => es2 | 3 => es3 | 4 => es4 | 5 => es5 | 6 => es6 | 7 => es7 | _ => #[]) (fun i => match i with | 0 => cl | 1 => cl1 | 2 => cl2 | 3 => cl3 | 4 => cl4 | 5 => cl5 | 6 => cl6 | 7 => cl7 | _ => 0) h r k hr hk hj
end Go.Proofs.YtcnbngflehiphaaDoor