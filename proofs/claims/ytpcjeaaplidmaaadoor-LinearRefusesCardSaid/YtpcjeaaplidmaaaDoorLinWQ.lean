/- Contracts of functions of this program, and the plain facts that they rest on. No conditions. -/
import Derived.Test.YtpcjeaaplidmaaaDoorEnv2
set_option linter.unusedSimpArgs false
set_option linter.unusedVariables false
namespace Go.Proofs.YtpcjeaaplidmaaaDoor
open Go Go.Ab
attribute [local irreducible] callK callF loopQ vstep vskip pickE hideP
def setVia2 (t : List (Nat × Option AV)) : List (Nat × Ob) → List (Option Ob) → List (Option Ob)
 | [], L => L
 | (d, o) :: r, L => match Nat.blt d 1000 with
  | false => setVia2 t r (setL L (d - 1000) (some o))
  | true => match tget t d with
   | some (.loc i _) => setVia2 t r (setL L i (some o))
   | some (.sl i _ _ _) => setVia2 t r (setL L i (some o))
   | some (.mref i) => setVia2 t r (setL L i (some o))
   | _ => setVia2 t r L
def hdS2 (nb : Nat) (s : ASt) (keep : List Nat) (vs : Nat → List (Nat × AV)) (obs : Nat → List (Nat × Ob)) (new : List Ob) : ASt :=
 headOf nb s.n (appT (slotV (vs (lenL s.L))) (keepT s.t keep)) (appO (setVia2 s.t (obs (lenL s.L)) s.L) (someL new))
theorem r_loopB {P : Program} {nb : Nat} {Q : Exit → ASt → Prop} {n : Nat} {t : List (Nat × Option AV)} {L : List (Option Ob)} {c : Code} {α : Type} (keep : List Nat) (vs : α → Nat → List (Nat × AV)) (obs : α → Nat → List (Nat × Ob)) (new : α → List Ob) (p : α → Prop) (m : α → Nat) (x₀ : α)
  (h0 : p x₀) (hs0 : Wk nb ⟨n, t, L⟩ (hdS2 nb ⟨n, t, L⟩ keep (vs x₀) (obs x₀) (new x₀))) (I : α → ASt) (hI : ∀ x, hdS2 nb ⟨n, t, L⟩ keep (vs x) (obs x) (new x) = I x)
  (round : ∀ x, p x → awp P nb c (loopQ nb I p m x Q) (I x)) : awp P nb (.loop c) Q ⟨n, t, L⟩ :=
 r_loop I p m x₀ h0 (by rw [← hI]; exact hs0) round
theorem r_turn {P : Program} {nb : Nat} {Q : Exit → ASt → Prop} {s : ASt} {c : Code} (keep : List Nat) (vs : Nat → List (Nat × AV)) (obs : Nat → List (Nat × Ob)) (new : List Ob) (h : ∀ I, hdS2 nb s keep vs obs new = I → wkAll nb s I (sgOf nb s I.t I.L) ∧ awp P nb c Q I) : awp P nb c Q s :=
 r_weak (wk_auto (h _ rfl).1) (h _ rfl).2
attribute [go_sem] setVia2 hdS2
end Go.Proofs.YtpcjeaaplidmaaaDoor