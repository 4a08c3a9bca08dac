/- Contracts of functions of this program, and the plain facts that they rest on. No conditions. -/
import Derived.Test.YtckhjklcfagkoaaGreatDoorDvRaQ
import Derived.Test.YtckhjklcfagkoaaGreatDoorDvRbQ
namespace Go.Proofs.YtckhjklcfagkoaaGreatDoor
open Go Go.Ab
attribute [local irreducible] callK callF loopQ vstep vskip pickE hideP
set_option maxRecDepth 100000
theorem tFence (A : Dv) (J : Nat → List (Int × Int)) (k : Nat) (hk : k < 8) (h : WF A) (hn : NoteOk A k) (hj : JOk A J) : ACallsX Tryz.prog 43 [.loc (4 + k) 0] [deO A 1 2 3 4, peO A, cuO A, liO A J 12, thO A 0 0 18, thO A 1 0 18, thO A 2 0 18, thO A 3 0 18, thO A 4 0 18, thO A 5 0 18, thO A 6 0 18, thO A 7 0 18, hiO A J 0, hiO A J 1, hiO A J 2, hiO A J 3, hiO A J 4, hiO A J 5, noO A 0, noO A 1, noO A 2, noO A 3, noO A 4, noO A 5, noO A 6, noO A 7] (fun _ : { J2 : Nat → List (Int × Int) // JOk (A.fence k) J2 } => .p (.tup [])) (fun J2 => [deO (A.fence k) 1 2 3 4, peO (A.fence k), cuO (A.fence k), liO (A.fence k) J2.1 26, thO (A.fence k) 0 0 18, thO (A.fence k) 1 0 18, thO (A.fence k) 2 0 18, thO (A.fence k) 3 0 18, thO (A.fence k) 4 0 18, thO (A.fence k) 5 0 18, thO (A.fence k) 6 0 18, thO (A.fence k) 7 0 18, .dead, .dead, .dead, .dead, .dead, .dead, noO (A.fence k) 0, noO (A.fence k) 1, noO (A.fence k) 2, noO (A.fence k) 3, noO (A.fence k) 4, noO (A.fence k) 5, noO (A.fence k) 6, noO (A.fence k) 7, hiO (A.fence k) J2.1 0, hiO (A.fence k) J2.1 1, hiO (A.fence k) J2.1 2, hiO (A.fence k) J2.1 3, hiO (A.fence k) J2.1 4, hiO (A.fence k) J2.1 5]) := by
 rcases lt8 hk with rfl | rfl | rfl | rfl | rfl | rfl | rfl | rfl
 ·exact tFence0 A J h hn hj
 ·exact tFence1 A J h hn hj
 ·exact tFence2 A J h hn hj
 ·exact tFence3 A J h hn hj
 ·exact tFence4 A J h hn hj
 ·exact tFence5 A J h hn hj
 ·exact tFence6 A J h hn hj
 ·exact tFence7 A J h hn hj
end Go.Proofs.YtckhjklcfagkoaaGreatDoor