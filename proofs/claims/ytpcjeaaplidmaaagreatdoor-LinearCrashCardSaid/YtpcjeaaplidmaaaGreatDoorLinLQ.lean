/- Contracts of functions of this program, and the plain facts that they rest on. No conditions. -/
import Derived.Test.YtpcjeaaplidmaaaGreatDoorLinHQ
set_option linter.unusedSimpArgs false
set_option linter.unusedVariables false
namespace Go.Proofs.YtpcjeaaplidmaaaGreatDoor
open Go Go.Ab
attribute [local irreducible] callK callF loopQ vstep vskip pickE hideP
theorem steps_of {es : List (List PV)} (g : ∀ c, c ∈ es → Shp E.tys 4 71 c) : ∃ l : List Hi.S, es.map (wrapP true) = l.map Hi.eS ∧ l.length = es.length ∧ ∀ s, s ∈ l → RngS s := by
 obtain ⟨l, e, hl, hq⟩ := shp_list (f := Hi.eS) (Q := RngS) (agg := true) (es := es) (fun c hc => by
  have := g c hc
  simp only [Shp, ty71, shpF, ty3, ty50, ty69, ty48, ty4] at this
  obtain ⟨_, _, rfl, ⟨x1, rfl, h1⟩, _, _, rfl, ⟨x2, rfl, h2⟩, _, _, rfl, ⟨x3, rfl, h3⟩, _, _, rfl, ⟨_, _, rfl, ⟨x4, rfl, h4⟩, _, _, rfl, ⟨x5, rfl, h5⟩, _, _, rfl, ⟨x6, rfl, h6⟩, _, _, rfl, ⟨x7, rfl, h7⟩, rfl⟩, _, _, rfl, ⟨_, _, rfl, ⟨x8, rfl, h8⟩, _, _, rfl, ⟨x9, rfl⟩, _, _, rfl, ⟨x10, rfl, h10⟩, rfl⟩, rfl⟩ := this
  exact ⟨⟨x1, x2, x3, x4, x5, x6, x7, x8, x9, x10⟩, rfl, rng_u64 h5, rng_u64 h6, rng_u64 h7⟩)
 exact ⟨l, e, hl, hq⟩
theorem lot_of {c : List PV} (h : Shp E.tys 6 24 c) : ∃ kd l, wrapP true c = eLot kd l ∧ l.length ≤ 140737488355328 ∧ ∀ s, s ∈ l → RngS s := by
 rw [Shp, ty24] at h
 obtain ⟨_, _, rfl, h1, _, _, rfl, h2, rfl⟩ := h
 simp only [Shp, ty3] at h1
 obtain ⟨kd, rfl, _⟩ := h1
 rw [Shp, ty22] at h2
 obtain ⟨es, rfl, hb, g⟩ := h2
 obtain ⟨l, e, hl, hr⟩ := steps_of g
 refine ⟨kd, l, ?_, ?_, hr⟩
 ·show PV.agg [_, .view 10 (es.map (wrapP true))] = _
  rw [e]; rfl
 ·have : (140737488355328 : Nat) = 140737488355328 := rfl
  unfold reachBytes at hb; omega
end Go.Proofs.YtpcjeaaplidmaaaGreatDoor