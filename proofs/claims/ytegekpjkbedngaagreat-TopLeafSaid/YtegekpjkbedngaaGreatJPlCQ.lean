/- Contracts of functions of this program, and the plain facts that they rest on. No conditions. -/
import Derived.Test.YtegekpjkbedngaaGreatJMmBQ
import Derived.Test.YtegekpjkbedngaaGreatJRgAQ
import Derived.Test.YtegekpjkbedngaaGreatJDvFQ
import Derived.Test.YtegekpjkbedngaaGreatJDvQQ
import Derived.Test.YtegekpjkbedngaaGreatJLfBQ
set_option linter.unusedSectionVars false
set_option linter.unusedSimpArgs false
set_option linter.unusedVariables false
namespace Go.Proofs.YtegekpjkbedngaaGreat
open Go Go.Ab
attribute [local irreducible] callK callF loopQ vstep vskip pickE hideP
set_option maxRecDepth 100000
def Rds (ws : List Int) (a : Nat) (E : List En) : Prop := ws.length = 64 ∧ ∃ sl c, NW ws a sl c ∧ entN (vw ws a) sl = E
structure Good (D : Dv) (a : Nat) (last : Prop) (now next : List En) : Prop where
 cl : Cl D
 cur : ∃ E, Rds D.cur a E ∧ (E = next ∨ (¬ last ∧ E = now))
 cra : ∀ f : Nat → Nat, (∀ r, r < 8 → f r ≤ (D.hist r).length) → ∃ E, Rds (contS D f) a E ∧ (E = next ∨ (¬ last ∧ E = now))
noncomputable def Safe (a : Nat) (now next : List En) : Dv → List Ins → Prop
 | _, [] => True
 | D, x :: l => Good (D.exec x) a (l = []) now next ∧ Safe a now next (D.exec x) l
theorem appL_cases (l : List (Int × Int)) (j : Nat) : ∀ ws : List Int, (appL ws l).getD j 0 = ws.getD j 0 ∨ ∃ s, s ∈ l ∧ (appL ws l).getD j 0 = s.2 := by
 induction l with
 | nil => exact fun ws => .inl rfl
 | cons s l ih =>
  intro ws
  show (appL (ws.set (s.1 / 8).toNat s.2) l).getD j 0 = _ ∨ ∃ s', s' ∈ s :: l ∧ (appL (ws.set (s.1 / 8).toNat s.2) l).getD j 0 = _
  rcases ih (ws.set (s.1 / 8).toNat s.2) with h | ⟨s', h1, h2⟩
  ·rw [h, List.getD_eq_getElem?_getD, List.getElem?_set]
   by_cases e : (s.1 / 8).toNat = j
   ·by_cases e2 : (s.1 / 8).toNat < ws.length
    ·exact .inr ⟨s, List.mem_cons_self, by rw [if_pos e, if_pos e2]; rfl⟩
    ·left; rw [if_pos e, if_neg e2, List.getD_eq_getElem?_getD, List.getElem?_eq_none (by omega)]
   ·left; rw [if_neg e, ← List.getD_eq_getElem?_getD]
  ·exact .inr ⟨s', List.mem_cons_of_mem _ h1, h2⟩
theorem PS.len {A : Dv} {ws : List Int} {st : List (Int × Int)} {fl : List Nat} (h : PS A ws st fl) (f : Nat → Nat) : (contS A f).length = 64 := by rw [contS_len, h.cl.n8]
theorem PS.none {D : Dv} {ws : List Int} {fl : List Nat} (h : PS D ws [] fl) (hl : ws.length = 64) (f : Nat → Nat) : contS D f = ws := by
 refine list_getD (by rw [h.len, hl]) fun j hj => ?_
 rw [h.len] at hj
 rw [h.crash f j hj, show lineF [] (j / 8) = [] from rfl, List.take_nil]; rfl
theorem pend_now {D : Dv} {ws : List Int} {st : List (Int × Int)} {fl : List Nat} {a : Nat} {sl : List Nat} {c fr : Nat} {E : List En} (h : PS D ws st fl) (hl : ws.length = 64) (ha : a < 30) (hn : NW ws a sl c) (hE : entN (vw ws a) sl = E) (hf : fr ∉ sl) (h12 : fr < 12)
  (hs : ∀ s, s ∈ st → (s.1 = (wO a (4 + fr) : Nat) ∨ s.1 = (wO a (16 + fr) : Nat)) ∧ 0 ≤ s.2 ∧ s.2 ≤ 18446744073709551615) :
  Rds D.cur a E ∧ ∀ f : Nat → Nat, Rds (contS D f) a E := by
 have key : ∀ ws' : List Int, ws'.length = 64 → (∀ j, j < 64 → ∃ l : List (Int × Int), (∀ s, s ∈ l → s ∈ st) ∧ ws'.getD j 0 = (appL ws l).getD j 0) → Rds ws' a E := by
  intro ws' hl' hw
  obtain ⟨h1, h2⟩ := hn.other (ws' := ws') hf h12 (fun i hi => by
   obtain ⟨l, hsub, e⟩ := hw (a + 1 + i) (by omega)
   unfold vw
   rw [e]
   rcases appL_cases l (a + 1 + i) ws with h | ⟨s, h3, h4⟩
   ·rw [h]; exact hn.hv i hi
   ·rw [h4]; exact (hs s (hsub s h3)).2) (fun i hi h3 h4 => by
   obtain ⟨l, hsub, e⟩ := hw (a + 1 + i) (by omega)
   unfold vw
   rw [e]
   refine appL_off l _ (fun s hs2 => ?_) ws
   rcases (hs s (hsub s hs2)).1 with h5 | h5
   ·rw [h5, wO_def]; omega
   ·rw [h5, wO_def]; omega)
  exact ⟨hl', sl, c, h1, h2.trans hE⟩
 refine ⟨key _ (by rw [h.cur, appL_len, hl]) fun j _ => ⟨st, fun _ hx => hx, by rw [h.cur]⟩, fun f => key _ (h.len f) fun j hj => ⟨(lineF st (j / 8)).take (f (j / 8)), fun s hx => (List.mem_filter.1 (List.mem_of_mem_take hx)).1, h.crash f j hj⟩⟩
theorem cmt_safe {A : Dv} {ws : List Int} {a q : Nat} {v : Int} {now next : List En} (h : PS A ws [] []) (ha : a < 30) (hq : q < 28) (hnow : Rds ws a now) (hnext : Rds (ws.set (a + 1 + q) v) a next) :
  Safe a now next A (cmt (wO a q) v) ∧ PS (A.execs (cmt (wO a q) v)) (ws.set (a + 1 + q) v) [] [] := by
 have hw := wO_def a q
 have hwo : WOff (wO a q : Nat) := ⟨by omega, by omega, by omega⟩
 have hk : (((wO a q : Nat) : Int) / 8).toNat = a + 1 + q := by omega
 have h1 := h.store (v := v) hwo (fun r hr => by simp at hr)
 have h2 := h1.flush (v := 0) hwo.1 hwo.2.2
 have h3 := h2.fence hnow.1 (o := 0) (v := 0) (fun s hs => by simp at hs; rw [hs]; exact hwo.1) (fun s hs => by simp at hs; rw [hs]; exact ⟨_, List.mem_append_right _ List.mem_cons_self, by omega⟩)
 have e3 : appL ws ([] ++ [(((wO a q : Nat) : Int), v)]) = ws.set (a + 1 + q) v := by show ws.set _ v = _; rw [hk]
 rw [e3] at h3
 have two : ∀ {D : Dv} {fl : List Nat}, PS D ws ([] ++ [(((wO a q : Nat) : Int), v)]) fl → ∀ f : Nat → Nat, contS D f = ws ∨ contS D f = ws.set (a + 1 + q) v := by
  intro D fl hD f
  by_cases h0 : f ((a + 1 + q) / 8) = 0
  ·left
   refine list_getD (by rw [hD.len, hnow.1]) fun j hj => ?_
   rw [hD.len] at hj
   rw [hD.crash f j hj]
   by_cases e : j / 8 = (a + 1 + q) / 8
   ·rw [e, h0, List.take_zero]; rfl
   ·rw [show lineF ([] ++ [(((wO a q : Nat) : Int), v)]) (j / 8) = [] from List.filter_cons_of_neg (by simp; omega), List.take_nil]; rfl
  ·right
   refine list_getD (by rw [hD.len, List.length_set, hnow.1]) fun j hj => ?_
   rw [hD.len] at hj
   rw [hD.crash f j hj]
   by_cases e : j / 8 = (a + 1 + q) / 8
   ·rw [e, show lineF ([] ++ [(((wO a q : Nat) : Int), v)]) ((a + 1 + q) / 8) = [(((wO a q : Nat) : Int), v)] from List.filter_cons_of_pos (by simp; omega), List.take_of_length_le (by simp; omega)]
    show (ws.set _ v).getD j 0 = _
    rw [hk]
   ·rw [show lineF ([] ++ [(((wO a q : Nat) : Int), v)]) (j / 8) = [] from List.filter_cons_of_neg (by simp; omega), List.take_nil, List.getD_eq_getElem?_getD, List.getD_eq_getElem?_getD, List.getElem?_set_ne (by omega)]; rfl
 have g : ∀ {D : Dv} {fl : List Nat} {last : Prop}, PS D ws ([] ++ [(((wO a q : Nat) : Int), v)]) fl → ¬ last → Good D a last now next := by
  intro D fl last hD hlast
  refine ⟨hD.cl, ⟨next, by rw [hD.cur, e3]; exact hnext, .inl rfl⟩, fun f _ => ?_⟩
  rcases two hD f with e | e
  ·exact ⟨now, by rw [e]; exact hnow, .inr ⟨hlast, rfl⟩⟩
  ·exact ⟨next, by rw [e]; exact hnext, .inl rfl⟩
 refine ⟨⟨g h1 (by simp), g h2 (by simp), ⟨h3.cl, ⟨next, by rw [h3.cur]; exact hnext, .inl rfl⟩, fun f _ => ⟨next, ?_, .inl rfl⟩⟩, trivial⟩, h3⟩
 rw [h3.none hnext.1 f]; exact hnext
theorem pair_of (l : List Int) (h : l.length = 64) (a fr : Nat) (ha : a < 30) (h12 : fr < 12) (key v : Int) : appL l ([] ++ [(((wO a (4 + fr) : Nat) : Int), key)] ++ [(((wO a (16 + fr) : Nat) : Int), v)]) = (l.set (a + 1 + (4 + fr)) key).set (a + 1 + (16 + fr)) v := by
 have h4 := wO_def a (4 + fr)
 have h16 := wO_def a (16 + fr)
 show (l.set _ key).set _ v = _
 rw [show (((wO a (4 + fr) : Nat) : Int) / 8).toNat = a + 1 + (4 + fr) by omega, show (((wO a (16 + fr) : Nat) : Int) / 8).toNat = a + 1 + (16 + fr) by omega]
theorem ins_safe {A : Dv} {ws : List Int} {a fr w : Nat} {key v : Int} {sl : List Nat} {c : Nat} {now next : List En} (h : PS A ws [] []) (ha : a < 30) (hl : ws.length = 64) (hn : NW ws a sl c) (hE : entN (vw ws a) sl = now) (hf : fr ∉ sl) (h12 : fr < 12) (hk : 0 ≤ key ∧ key ≤ 18446744073709551615) (hv : 0 ≤ v ∧ v ≤ 18446744073709551615)
  (hnext : Rds (((ws.set (a + 1 + (4 + fr)) key).set (a + 1 + (16 + fr)) v).set (a + 1 + 0) (w : Nat)) a next) :
  Safe a now next A (insP a fr key v w) ∧ PS (A.execs (insP a fr key v w)) (((ws.set (a + 1 + (4 + fr)) key).set (a + 1 + (16 + fr)) v).set (a + 1 + 0) (w : Nat)) [] [] := by
 have h4 := wO_def a (4 + fr)
 have h16 := wO_def a (16 + fr)
 have w4 : WOff (wO a (4 + fr) : Nat) := ⟨by omega, by omega, by omega⟩
 have w16 : WOff (wO a (16 + fr) : Nat) := ⟨by omega, by omega, by omega⟩
 have p1 := h.store (v := key) w4 (fun r hr => by simp at hr)
 have p2 := p1.store (v := v) w16 (fun r hr => by simp at hr)
 have p3 := p2.flush (o := (64 * (wO a (4 + fr) / 64) : Nat)) (v := 0) (by omega) (by omega)
 have p4 := p3.flush (o := (64 * (wO a (16 + fr) / 64) : Nat)) (v := 0) (by omega) (by omega)
 have hst : ∀ s, s ∈ ([] ++ [(((wO a (4 + fr) : Nat) : Int), key)] ++ [(((wO a (16 + fr) : Nat) : Int), v)] : List (Int × Int)) → s = (((wO a (4 + fr) : Nat) : Int), key) ∨ s = (((wO a (16 + fr) : Nat) : Int), v) := fun s hs => by simpa using hs
 have p5 := p4.fence hl (o := 0) (v := 0) (fun s hs => by rcases hst s hs with e | e <;> (rw [e]; simp only; omega)) (fun s hs => by
  rcases hst s hs with e | e
  ·exact ⟨_, List.mem_append_left _ (List.mem_append_right _ List.mem_cons_self), by rw [e]; simp only; omega⟩
  ·exact ⟨_, List.mem_append_right _ List.mem_cons_self, by rw [e]; simp only; omega⟩)
 have hs1 : ∀ s, s ∈ ([] ++ [(((wO a (4 + fr) : Nat) : Int), key)] : List (Int × Int)) → (s.1 = (wO a (4 + fr) : Nat) ∨ s.1 = (wO a (16 + fr) : Nat)) ∧ 0 ≤ s.2 ∧ s.2 ≤ 18446744073709551615 := fun s hs => by
  have e : s = (((wO a (4 + fr) : Nat) : Int), key) := by simpa using hs
  rw [e]; exact ⟨.inl rfl, hk⟩
 have hs2 : ∀ s, s ∈ ([] ++ [(((wO a (4 + fr) : Nat) : Int), key)] ++ [(((wO a (16 + fr) : Nat) : Int), v)] : List (Int × Int)) → (s.1 = (wO a (4 + fr) : Nat) ∨ s.1 = (wO a (16 + fr) : Nat)) ∧ 0 ≤ s.2 ∧ s.2 ≤ 18446744073709551615 := fun s hs => by
  rcases hst s hs with e | e
  ·rw [e]; exact ⟨.inl rfl, hk⟩
  ·rw [e]; exact ⟨.inr rfl, hv⟩
 have g : ∀ {D : Dv} {ws : List Int} {st : List (Int × Int)} {fl : List Nat} {last : Prop}, PS D ws st fl → ¬ last → (Rds D.cur a now ∧ ∀ f : Nat → Nat, Rds (contS D f) a now) → Good D a last now next :=
  fun hD hlast hr => ⟨hD.cl, ⟨now, hr.1, .inr ⟨hlast, rfl⟩⟩, fun f _ => ⟨now, hr.2 f, .inr ⟨hlast, rfl⟩⟩⟩
 have n1 := pend_now p1 hl ha hn hE hf h12 hs1
 have n2 := pend_now p2 hl ha hn hE hf h12 hs2
 have n3 := pend_now p3 hl ha hn hE hf h12 hs2
 have n4 := pend_now p4 hl ha hn hE hf h12 hs2
 rw [pair_of ws hl a fr ha h12] at p5
 have hcur4 : Rds ((ws.set (a + 1 + (4 + fr)) key).set (a + 1 + (16 + fr)) v) a now := by
  have := n4.1
  rw [p4.cur, pair_of ws hl a fr ha h12] at this
  exact this
 have n5 : ∀ {D : Dv}, PS D ((ws.set (a + 1 + (4 + fr)) key).set (a + 1 + (16 + fr)) v) [] [] → (Rds D.cur a now ∧ ∀ f : Nat → Nat, Rds (contS D f) a now) := fun {D} hD =>
  ⟨by rw [show D.cur = (ws.set (a + 1 + (4 + fr)) key).set (a + 1 + (16 + fr)) v from hD.cur]; exact hcur4, fun f => by rw [hD.none hcur4.1 f]; exact hcur4⟩
 obtain ⟨s1, s2⟩ := cmt_safe (v := (w : Nat)) p5 ha (q := 0) (by omega) hcur4 hnext
 exact ⟨⟨g p1 (by simp) n1, g p2 (by simp) n2, g p3 (by simp) n3, g p4 (by simp) n4, g p5 (by simp [cmt]) (n5 p5), s1⟩, s2⟩
structure ProgOk (A : Dv) (a : Nat) (now next : List En) (pr : List Ins) : Prop where
 ne : 0 < pr.length
 le : pr.length ≤ 8
 rng : ∀ x, x ∈ pr → RngI x
 safe : Safe a now next A pr
 fin : ∃ ws sl c, PS (A.execs pr) ws [] [] ∧ ws.length = 64 ∧ NW ws a sl c ∧ entN (vw ws a) sl = next
theorem cmt_rng {o v : Int} (ho : 0 ≤ o ∧ o ≤ 18446744073709551615) (hv : 0 ≤ v ∧ v ≤ 18446744073709551615) : ∀ x, x ∈ cmt o v → RngI x := by
 intro x hx
 simp only [cmt, List.mem_cons, List.not_mem_nil, or_false] at hx
 rcases hx with rfl | rfl | rfl
 ·exact ⟨.inl rfl, ho, hv⟩
 ·exact ⟨.inr (.inl rfl), ho, by simp⟩
 ·exact ⟨.inr (.inr rfl), by simp, by simp⟩
theorem ent_lt {W : Nat → Int} {key : Int} {p : List Nat} (hp : ∀ s, s ∈ p → W (4 + s) < key) : ∀ e, e ∈ entN W p → e.1 < key := by
 intro e he
 obtain ⟨s, h1, rfl⟩ := List.mem_map.1 he
 exact hp s h1
theorem ent_gt {W : Nat → Int} {key : Int} {p : List Nat} (hp : ∀ s, s ∈ p → key < W (4 + s)) : ∀ e, e ∈ entN W p → key < e.1 := by
 intro e he
 obtain ⟨s, h1, rfl⟩ := List.mem_map.1 he
 exact hp s h1
theorem entN_app (W : Nat → Int) (p q : List Nat) : entN W (p ++ q) = entN W p ++ entN W q := List.map_append
structure Rest (A : Dv) (J : JT) (N : Nat) (a : Nat) (ws : List Int) (sl : List Nat) (c : Nat) : Prop where
 inv : Inv A J N
 ps : PS A ws [] []
 len : ws.length = 64
 nw : NW ws a sl c
theorem Rest.cur {A : Dv} {J : JT} {N a : Nat} {ws : List Int} {sl : List Nat} {c : Nat} (h : Rest A J N a ws sl c) : A.cur = ws := h.ps.cur
theorem Rest.nd {A : Dv} {J : JT} {N a : Nat} {ws : List Int} {sl : List Nat} {c : Nat} (h : Rest A J N a ws sl c) : Nd A a (vw ws a) sl c := by
 have := (show NW A.cur a sl c by rw [h.cur]; exact h.nw).nd
 rw [h.cur] at this; exact this
end Go.Proofs.YtegekpjkbedngaaGreat
namespace Go.Proofs.YtegekpjkbedngaaGreat
open Go Go.Ab
attribute [local irreducible] callK callF loopQ vstep vskip pickE hideP
set_option maxRecDepth 100000
theorem sB_of (l : List Nat) (j : Nat) : sB l l.length j = decide (j ∈ l) := by unfold sB; rw [List.take_length]
theorem kPutE {A : Dv} {J : JT} {N a : Nat} {ws : List Int} {sl : List Nat} {c : Nat} (h : Rest A J N a ws sl c) (ha : a < 30) {key v : Int} (hk : 0 ≤ key ∧ key ≤ 18446744073709551615) (hv : 0 ≤ v ∧ v ≤ 18446744073709551615) :
  ∃ (pr : List Ins) (e : Int), ACalls Tryz.prog 13 [.agg [.ifc 43 (.loc 4 0), .p (eP a)], .p (.v (.int .u64 key)), .p (.v (.int .u64 v))] [deO A 1 2 3 4, peO A, cuO A, liO A J 12, thO A 0 0 20, thO A 1 0 20, thO A 2 0 20, thO A 3 0 20, thO A 4 0 20, thO A 5 0 20, thO A 6 0 20, thO A 7 0 20, hiO A J 0, hiO A J 1, hiO A J 2, hiO A J 3, hiO A J 4, hiO A J 5, hiO A J 6, hiO A J 7, noO A 0, noO A 1, noO A 2, noO A 3, noO A 4, noO A 5, noO A 6, noO A 7] (.tup [.p (.view 3 (pr.map eIn)), .p (.v (.int .i64 e))]) [deO A 1 2 3 4, peO A, cuO A, liO A J 12, thO A 0 0 20, thO A 1 0 20, thO A 2 0 20, thO A 3 0 20, thO A 4 0 20, thO A 5 0 20, thO A 6 0 20, thO A 7 0 20, hiO A J 0, hiO A J 1, hiO A J 2, hiO A J 3, hiO A J 4, hiO A J 5, hiO A J 6, hiO A J 7, noO A 0, noO A 1, noO A 2, noO A 3, noO A 4, noO A 5, noO A 6, noO A 7] ∧
   ((e = 4 ∧ 12 < (setR (entN (vw ws a) sl) key v).length) ∨ (e = 0 ∧ (setR (entN (vw ws a) sl) key v).length ≤ 12 ∧ ProgOk A a (entN (vw ws a) sl) (setR (entN (vw ws a) sl) key v) pr)) := by
 have hr := h.ps.cl.rd h.inv.wf 0
 have hn := h.nd
 have hso := h.nw.so
 have hsrt := h.nw.srt
 have hlen := h.len
 obtain ⟨p, q, e, hp, hq⟩ := split_at (vw ws a) key sl h.nw.srt
 subst e
 have hi := fndI_of hp hq
 have hnow : Rds ws a (entN (vw ws a) (p ++ q)) := ⟨h.len, _, _, h.nw, rfl⟩
 have hw0 := fun q => wO_def a q
 by_cases hfd : ∃ s q', q = s :: q' ∧ vw ws a (4 + s) = key
 ·obtain ⟨s, q', rfl, hs⟩ := hfd
  have hs12 : s < 12 := hso.2.1 s (by simp)
  have hgt : ∀ x, x ∈ q' → key < vw ws a (4 + x) := fun x hx => by
   have := (List.pairwise_cons.1 (List.pairwise_append.1 hsrt).2.1).1 x hx
   omega
  have hgd : (p ++ s :: q').getD p.length default = s := getD_mid p s q'
  have k := kPut1 A J hr a ha _ _ c hn key v p.length hi ⟨by simp, by rw [hgd]; exact hs⟩
  rw [hgd] at k
  obtain ⟨hnw, hent⟩ := h.nw.value (v := v) (by omega) hv
  have hset : setR (entN (vw ws a) (p ++ s :: q')) key v = entN (vw ws a) p ++ (key, v) :: entN (vw ws a) q' := by
   rw [entN_app, show entN (vw ws a) (s :: q') = (vw ws a (4 + s), vw ws a (16 + s)) :: entN (vw ws a) q' from rfl, hs]
   exact setR_old key v _ _ _ (ent_lt hp) (ent_gt hgt)
  rw [hs, ← hset] at hent
  have hl12 : (setR (entN (vw ws a) (p ++ s :: q')) key v).length ≤ 12 := by
   rw [← hent, entN, List.length_map]; exact hso.2.2
  have hnext : Rds (ws.set (a + 1 + (16 + s)) v) a (setR (entN (vw ws a) (p ++ s :: q')) key v) := ⟨by rw [List.length_set]; exact hlen, _, _, hnw, hent⟩
  obtain ⟨s1, s2⟩ := cmt_safe h.ps ha (by omega) hnow hnext
  exact ⟨_, 0, k, .inr ⟨rfl, hl12, ⟨by simp [cmt], by simp [cmt], cmt_rng (by rw [hw0]; omega) hv, s1, ⟨_, _, _, s2, by rw [List.length_set]; exact hlen, hnw, hent⟩⟩⟩⟩
 ·have hgt : ∀ x, x ∈ q → key < vw ws a (4 + x) := fun x hx => by
   cases q with
   | nil => simp at hx
   | cons s q' =>
    have h1 := hq s List.mem_cons_self
    have h2 : ¬ vw ws a (4 + s) = key := fun e => hfd ⟨s, q', rfl, e⟩
    rcases List.mem_cons.1 hx with rfl | hx
    ·omega
    ·have := (List.pairwise_cons.1 (List.pairwise_append.1 hsrt).2.1).1 x hx
     omega
  have hnf : ¬ (p.length < (p ++ q).length ∧ vw ws a (4 + (p ++ q).getD p.length default) = key) := by
   rintro ⟨h1, h2⟩
   cases q with
   | nil => simp at h1
   | cons s q' => rw [getD_mid] at h2; exact hfd ⟨s, q', rfl, h2⟩
  have hset : setR (entN (vw ws a) (p ++ q)) key v = entN (vw ws a) p ++ (key, v) :: entN (vw ws a) q := by
   rw [entN_app]; exact setR_new key v _ _ (ent_lt hp) (ent_gt hgt)
  have hsl : (setR (entN (vw ws a) (p ++ q)) key v).length = (p ++ q).length + 1 := by rw [hset]; simp [entN]; omega
  by_cases h12 : (p ++ q).length = 12
  ·exact ⟨[], 4, kPut2 A J hr a ha _ _ c hn key v p.length hi hnf h12, .inl ⟨rfl, by omega⟩⟩
  ·have hlt : (p ++ q).length < 12 := by have := hso.2.2; omega
   obtain ⟨fr, f1, f2, f3⟩ := free_is hlt
   have e1 : (p ++ q).take p.length = p := List.take_left' rfl
   have e2 : (p ++ q).drop p.length = q := List.drop_left' rfl
   have hs2 := sl_ins hso hlt f2 f1
   have k := kPut3 A J hr a ha _ _ c hn key v p.length hi hnf hlt fr f1 (by rw [sB_of]; simpa using f2) (fun j hj => by rw [sB_of]; simpa using f3 j hj) (by rw [e1, e2]; exact hs2)
   rw [e1, e2] at k
   have g16 : ∀ i, vw ((ws.set (a + 1 + (4 + fr)) key).set (a + 1 + (16 + fr)) v) a i = if i = 16 + fr then v else if i = 4 + fr then key else vw ws a i := fun i => by
    rw [vw_set (by rw [List.length_set]; omega), vw_set (by omega)]
   have hl2 : ((ws.set (a + 1 + (4 + fr)) key).set (a + 1 + (16 + fr)) v).length = 64 := by rw [List.length_set, List.length_set]; exact hlen
   obtain ⟨n1, n2⟩ := h.nw.other (ws' := (ws.set (a + 1 + (4 + fr)) key).set (a + 1 + (16 + fr)) v) f2 f1 (fun i hi => by
    rw [g16]; split
    ·exact hv
    ·split
     ·exact hk
     ·exact h.nw.hv i hi) (fun i _ h1 h2 => by rw [g16, if_neg h2, if_neg h1])
   generalize hws2 : (ws.set (a + 1 + (4 + fr)) key).set (a + 1 + (16 + fr)) v = ws2 at *
   have hk2 : vw ws2 a (4 + fr) = key := by rw [g16, if_neg (by omega), if_pos rfl]
   have hv2 : vw ws2 a (16 + fr) = v := by rw [g16, if_pos rfl]
   have hne : ∀ x, x ∈ p ++ q → vw ws2 a (4 + x) = vw ws a (4 + x) ∧ vw ws2 a (16 + x) = vw ws a (16 + x) := fun x hx => by
    have h1 := hso.2.1 x hx
    have h2 : x ≠ fr := fun e => f2 (e ▸ hx)
    rw [g16, g16, if_neg (by omega), if_neg (by omega), if_neg (by omega), if_neg (by omega)]; exact ⟨rfl, rfl⟩
   have hpw : (p ++ fr :: q).Pairwise fun x y => vw ws2 a (4 + x) < vw ws2 a (4 + y) := by
    obtain ⟨a1, a2, a3⟩ := List.pairwise_append.1 n1.srt
    refine List.pairwise_append.2 ⟨a1, List.pairwise_cons.2 ⟨fun x hx => ?_, a2⟩, fun x hx y hy => ?_⟩
    ·rw [hk2, (hne x (List.mem_append_right _ hx)).1]; exact hgt x hx
    ·rcases List.mem_cons.1 hy with rfl | hy
     ·rw [hk2, (hne x (List.mem_append_left _ hx)).1]; exact hp x hx
     ·exact a3 x hx y hy
   obtain ⟨m1, m2⟩ := n1.order (c' := c % 4096 + 1) (by omega) hs2 hpw
   have hent : entN (vw ws2 a) (p ++ fr :: q) = setR (entN (vw ws a) (p ++ q)) key v := by
    rw [hset, entN_app, show entN (vw ws2 a) (fr :: q) = (vw ws2 a (4 + fr), vw ws2 a (16 + fr)) :: entN (vw ws2 a) q from rfl, hk2, hv2,
     entN_congr fun x hx => hne x (List.mem_append_left _ hx), entN_congr fun x hx => hne x (List.mem_append_right _ hx)]
   have hlf : (ws2.set (a + 1) (perm (p ++ fr :: q) (c % 4096 + 1) : Nat)).length = 64 := by rw [List.length_set]; exact hl2
   have hnext : Rds (ws2.set (a + 1 + 0) (perm (p ++ fr :: q) (c % 4096 + 1) : Nat)) a (setR (entN (vw ws a) (p ++ q)) key v) := ⟨hlf, _, _, m1, m2.trans hent⟩
   have hins := ins_safe (w := perm (p ++ fr :: q) (c % 4096 + 1)) h.ps ha hlen h.nw rfl f2 f1 hk hv (by rw [hws2]; exact hnext)
   rw [hws2] at hins
   obtain ⟨s1, s2⟩ := hins
   have hpl := perm_lt hs2 (c % 4096 + 1)
   refine ⟨_, 0, k, .inr ⟨rfl, by omega, ⟨by simp [insP, pre5], by simp [insP, pre5, cmt], fun x hx => ?_, s1, ⟨_, _, _, s2, hlf, m1, m2.trans hent⟩⟩⟩⟩
   have h4 := hw0 (4 + fr)
   have h16 := hw0 (16 + fr)
   have h0 := hw0 0
   rcases List.mem_append.1 hx with hx | hx
   ·simp only [pre5, List.mem_cons, List.not_mem_nil, or_false] at hx
    rcases hx with rfl | rfl | rfl | rfl | rfl
    ·exact ⟨.inl rfl, by simp only; omega, hk⟩
    ·exact ⟨.inl rfl, by simp only; omega, hv⟩
    ·exact ⟨.inr (.inl rfl), by simp only; omega, by simp⟩
    ·exact ⟨.inr (.inl rfl), by simp only; omega, by simp⟩
    ·exact ⟨.inr (.inr rfl), by simp, by simp⟩
   ·exact cmt_rng (by omega) (by omega) x hx
theorem kDelE {A : Dv} {J : JT} {N a : Nat} {ws : List Int} {sl : List Nat} {c : Nat} (h : Rest A J N a ws sl c) (ha : a < 30) {key : Int} :
  ∃ (pr : List Ins) (e : Int), ACalls Tryz.prog 14 [.agg [.ifc 43 (.loc 4 0), .p (eP a)], .p (.v (.int .u64 key))] [deO A 1 2 3 4, peO A, cuO A, liO A J 12, thO A 0 0 20, thO A 1 0 20, thO A 2 0 20, thO A 3 0 20, thO A 4 0 20, thO A 5 0 20, thO A 6 0 20, thO A 7 0 20, hiO A J 0, hiO A J 1, hiO A J 2, hiO A J 3, hiO A J 4, hiO A J 5, hiO A J 6, hiO A J 7, noO A 0, noO A 1, noO A 2, noO A 3, noO A 4, noO A 5, noO A 6, noO A 7] (.tup [.p (.view 3 (pr.map eIn)), .p (.v (.int .i64 e))]) [deO A 1 2 3 4, peO A, cuO A, liO A J 12, thO A 0 0 20, thO A 1 0 20, thO A 2 0 20, thO A 3 0 20, thO A 4 0 20, thO A 5 0 20, thO A 6 0 20, thO A 7 0 20, hiO A J 0, hiO A J 1, hiO A J 2, hiO A J 3, hiO A J 4, hiO A J 5, hiO A J 6, hiO A J 7, noO A 0, noO A 1, noO A 2, noO A 3, noO A 4, noO A 5, noO A 6, noO A 7] ∧
   ((e = 5 ∧ uD key (entN (vw ws a) sl) = false) ∨ (e = 0 ∧ uD key (entN (vw ws a) sl) = true ∧ ProgOk A a (entN (vw ws a) sl) (uF key (entN (vw ws a) sl)) pr)) := by
 have hr := h.ps.cl.rd h.inv.wf 0
 have hn := h.nd
 have hso := h.nw.so
 have hsrt := h.nw.srt
 have hlen := h.len
 obtain ⟨p, q, e, hp, hq⟩ := split_at (vw ws a) key sl h.nw.srt
 subst e
 have hi := fndI_of hp hq
 have hnow : Rds ws a (entN (vw ws a) (p ++ q)) := ⟨h.len, _, _, h.nw, rfl⟩
 have hw0 := wO_def a 0
 by_cases hfd : ∃ s q', q = s :: q' ∧ vw ws a (4 + s) = key
 ·obtain ⟨s, q', rfl, hs⟩ := hfd
  have hgt : ∀ x, x ∈ q' → key < vw ws a (4 + x) := fun x hx => by
   have := (List.pairwise_cons.1 (List.pairwise_append.1 hsrt).2.1).1 x hx
   omega
  have hgd : (p ++ s :: q').getD p.length default = s := getD_mid p s q'
  have e1 : (p ++ s :: q').take p.length = p := List.take_left' rfl
  have e2 : (p ++ s :: q').drop (p.length + 1) = q' := by rw [← List.drop_drop, List.drop_left' rfl]; rfl
  have hs2 := sl_del hso
  have k := kDel0 A J hr a ha _ _ c hn key p.length hi ⟨by simp, by rw [hgd]; exact hs⟩ (by rw [e1, e2]; exact hs2)
  rw [e1, e2] at k
  have hu := uF_in key (vw ws a (16 + s)) (entN (vw ws a) p) (entN (vw ws a) q') (ent_lt hp) (ent_gt hgt)
  rw [show entN (vw ws a) p ++ (key, vw ws a (16 + s)) :: entN (vw ws a) q' = entN (vw ws a) (p ++ s :: q') from by
   rw [entN_app, show entN (vw ws a) (s :: q') = (vw ws a (4 + s), vw ws a (16 + s)) :: entN (vw ws a) q' from rfl, hs]] at hu
  obtain ⟨m1, m2⟩ := h.nw.order (c' := c % 4096 + 1) (by omega) hs2 (hsrt.sublist (List.Sublist.append (List.Sublist.refl p) (List.sublist_cons_self s q')))
  have hent : entN (vw ws a) (p ++ q') = uF key (entN (vw ws a) (p ++ s :: q')) := by rw [hu.1, entN_app]
  have hlf : (ws.set (a + 1) (perm (p ++ q') (c % 4096 + 1) : Nat)).length = 64 := by rw [List.length_set]; exact hlen
  have hnext : Rds (ws.set (a + 1 + 0) (perm (p ++ q') (c % 4096 + 1) : Nat)) a (uF key (entN (vw ws a) (p ++ s :: q'))) := ⟨hlf, _, _, m1, m2.trans hent⟩
  obtain ⟨s1, s2⟩ := cmt_safe h.ps ha (by omega) hnow hnext
  have hpl := perm_lt hs2 (c % 4096 + 1)
  exact ⟨_, 0, k, .inr ⟨rfl, hu.2, ⟨by simp [cmt], by simp [cmt], cmt_rng (by omega) (by omega), s1, ⟨_, _, _, s2, hlf, m1, m2.trans hent⟩⟩⟩⟩
 ·have hgt : ∀ x, x ∈ q → key < vw ws a (4 + x) := fun x hx => by
   cases q with
   | nil => simp at hx
   | cons s q' =>
    have h1 := hq s List.mem_cons_self
    have h2 : ¬ vw ws a (4 + s) = key := fun e => hfd ⟨s, q', rfl, e⟩
    rcases List.mem_cons.1 hx with rfl | hx
    ·omega
    ·have := (List.pairwise_cons.1 (List.pairwise_append.1 hsrt).2.1).1 x hx
     omega
  have hnf : ¬ (p.length < (p ++ q).length ∧ vw ws a (4 + (p ++ q).getD p.length default) = key) := by
   rintro ⟨h1, h2⟩
   cases q with
   | nil => simp at h1
   | cons s q' => rw [getD_mid] at h2; exact hfd ⟨s, q', rfl, h2⟩
  refine ⟨[], 5, kDel1 A J hr a ha _ _ c hn key p.length hi hnf, .inl ⟨rfl, ?_⟩⟩
  refine (uF_out key _ fun e he => ?_).2
  rw [entN_app] at he
  rcases List.mem_append.1 he with he | he
  ·have := ent_lt hp e he; omega
  ·have := ent_gt hgt e he; omega
end Go.Proofs.YtegekpjkbedngaaGreat
namespace Go.Proofs.YtegekpjkbedngaaGreat
open Go Go.Ab
attribute [local irreducible] callK callF loopQ vstep vskip pickE hideP
set_option maxRecDepth 100000
abbrev Hs := List (List (Int × Int))
def eHs (l : List (Int × Int)) : PV := .view 2 (l.map eWr)
def eSet (p : List UInt8) (d : List Nat) (h : Hs) : PV := .agg [.view 1 (p.map eB), .view 1 (d.map eNd), .view 1 (h.map eHs)]
end Go.Proofs.YtegekpjkbedngaaGreat
namespace Go.Proofs.YtegekpjkbedngaaGreat
set_option maxHeartbeats 4000000
set_option maxRecDepth 100000
open Go Go.Ab
attribute [local irreducible] callK callF loopQ vstep vskip pickE hideP
def wB (p : List UInt8) (s : Int × Int) : List UInt8 := putM p s.1.toNat s.2 8
def wBs (p : List UInt8) (l : List (Int × Int)) : List UInt8 := l.foldl wB p
def imK (p : List UInt8) (h : Hs) (ds : List Nat) : Nat → List UInt8
 | 0 => p
 | a + 1 => wBs (imK p h ds a) ((h.getD a default).take (ds.getD a default))
theorem wBs_len (l : List (Int × Int)) : ∀ p, (wBs p l).length = p.length := by
 induction l with
 | nil => exact fun _ => rfl
 | cons s l ih => intro p; show (wBs (wB p s) l).length = _; rw [ih, wB, putM_len]
theorem imK_len (p : List UInt8) (h : Hs) (ds : List Nat) : ∀ a, (imK p h ds a).length = p.length
 | 0 => rfl
 | a + 1 => by rw [imK, wBs_len, imK_len p h ds a]
theorem wBs_s (p : List UInt8) (l : List (Int × Int)) {j : Nat} (hj : j < l.length) : wBs p (l.take (j + 1)) = wB (wBs p (l.take j)) (l.getD j default) := by
 unfold wBs; rw [yE default hj, List.foldl_append]; rfl
theorem wBs_0 (p : List UInt8) : wBs p [] = p := rfl
theorem imK_0 (p : List UInt8) (h : Hs) (ds : List Nat) : imK p h ds 0 = p := rfl
attribute [local go_sem] eHs eSet eNd eWr eI
theorem kImage (p : List UInt8) (d : List Nat) (H : Hs) (ds : List Nat) (hl : H.length ≤ 1000000) (hp : p.length ≤ 262144) (hd : ds.length = H.length) (hd2 : ∀ a, a < H.length → ds.getD a default ≤ (H.getD a default).length ∧ (H.getD a default).length ≤ 1000000) (hw : ∀ l, l ∈ H → ∀ s, s ∈ l → 0 ≤ s.1 ∧ s.1 + 8 ≤ p.length ∧ 0 ≤ s.2 ∧ s.2 ≤ 18446744073709551615) : PCalls Tryz.prog 45 [eSet p d H, .view 1 (ds.map eNd)] (eI (newM (imK p H ds H.length))) := by
 refine yD ⟨_, rfl, rfl, by decide⟩ fun hf => ?_
 simp only [go_sem, big] at hf
 refine yB (E := E) (fn := Tryz.f45) 66 [.cell 4 70] rfl rfl rfl rfl (by decide) rfl ?_
 repeat' (first
  | (with_reducible first | apply zY | apply zT | apply zM | apply zN | apply zO | refine chk_ok (by kernel_rfl) ?_)
  | ((with_reducible first | apply zP | apply zQ | apply zR | apply zL) <;> intro h)
  | ((with_reducible show False); omega)
  | ((first | (with_reducible first | apply zW | apply zV | apply zU | apply zS | apply zX | show VX _ _ _ _ _ _ _ | show vstep _ _ _ _ _ | show vskip _ _ _ | show withV _ _) | ((with_reducible show endA _ _ _ _ _ _ _); simp -implicitDefEqProofs only [endA]) | (with_reducible first | refine zB default (by first | omega | (simp only [LN, List.length_replicate, Nat.le_refl, true_and]; omega)) (by first | omega | (simp only [LN, List.length_replicate, Nat.le_refl, true_and]; omega)) ?_ | refine zC default (by first | omega | (simp only [LN, List.length_replicate, Nat.le_refl, true_and]; omega)) ?_ | refine And.intro (by first | decide | omega | assumption | (simp only [LN, List.length_replicate, Nat.le_refl, true_and]; omega)) ?_) | ((with_reducible show pickE _ _ _); first | refine zA _ ⟨by omega, by rfl⟩ ?_ | refine zA _ (by rfl) ?_) | fail); try simp -dsimp -implicitDefEqProofs (maxSteps := 1000000) (disch := first | omega | (simp only [LN, List.length_replicate, Nat.le_refl, true_and]; omega)) only [go_sem, List.length_replicate, Nat.le_refl, true_and])
  | fail)
 refine r_loopA (α := Nat) [1, 4, 5, 22, 23] (fun a b => [(24, aI a)]) (fun a b => [(5, .arr 1 ((imK p H ds a).map eB))]) (fun a => []) (fun a => a ≤ H.length) (fun a => H.length - a) (0) ?h0_1 ?hs0_1 ?I_1 ?hI_1 ?round_1
 case hI_1 => intro x; (simp -dsimp -implicitDefEqProofs (maxSteps := 1000000) (disch := first | omega | (simp only [LN]; omega)) only [go_sem]) <;> exact rfl
 case hs0_1 => refine wk_auto ?_; (simp -dsimp -implicitDefEqProofs (maxSteps := 1000000) (disch := first | omega | (simp only [LN, imK_0, List.drop_replicate, Nat.sub_self, List.replicate_zero, List.append_nil]; omega)) only [go_sem, imK_0, List.drop_replicate, Nat.sub_self, List.replicate_zero, List.append_nil]) <;> (try omega)
 case h0_1 => exact Nat.zero_le _
 case round_1 =>
  intro a ha
  have il := imK_len p H ds a
  by_cases ha2 : a < H.length
  ·obtain ⟨e1, e2⟩ := hd2 a ha2
   have hm : H.getD a default ∈ H := by rw [List.getD_eq_getElem?_getD, List.getElem?_eq_getElem ha2]; exact List.getElem_mem ha2
   have hs : imK p H ds (a + 1) = wBs (imK p H ds a) ((H.getD a default).take (ds.getD a default)) := rfl
   have hww := hw _ hm
   have w3 : IntKind.i64.wrap ((a : Int) + 1) = ((a + 1 : Nat) : Int) := by rw [IntKind.wrap_i64]; push_cast; omega
   generalize hxx : H.getD a default = x at *
   generalize hcc : ds.getD a default = c at *
   have z1 : (0 : Int) ≤ (c : Int) := Int.natCast_nonneg c
   have z2 : ((c : Int) ≤ (x.length : Int)) = True := eq_true (by omega)
   have z3 : (x.take c).length = c := by rw [List.length_take]; omega
   repeat' (first
    | (with_reducible first | apply zY | apply zT | apply zM | apply zN | apply zO | refine chk_ok (by kernel_rfl) ?_)
    | ((with_reducible first | apply zP | apply zQ | apply zR | apply zL) <;> intro h <;> try (exfalso; first | omega | exact h rfl | (revert h; decide) | (cases h; done)))
    | ((with_reducible show False); omega)
    | ((first | (with_reducible first | apply zW | apply zV | apply zU | apply zS | apply zX | show VX _ _ _ _ _ _ _ | show vstep _ _ _ _ _ | show vskip _ _ _ | show withV _ _) | ((with_reducible show endA _ _ _ _ _ _ _); simp -implicitDefEqProofs only [endA]) | (with_reducible first | refine zB default (by first | omega | (simp only [LN, hxx, hcc, z1, z2, true_and]; omega)) (by first | omega | (simp only [LN, hxx, hcc, z1, z2, true_and]; omega)) ?_ | refine zC default (by first | omega | (simp only [LN, hxx, hcc, z1, z2, true_and]; omega)) ?_ | refine And.intro (by first | decide | omega | assumption | (simp only [LN, hxx, hcc, z1, z2, true_and]; omega)) ?_) | ((with_reducible show pickE _ _ _); first | refine zA _ ⟨by omega, by rfl⟩ ?_ | refine zA _ (by rfl) ?_) | fail); try simp -dsimp -implicitDefEqProofs (maxSteps := 1000000) (disch := first | omega | (simp only [LN, hxx, hcc, z1, z2, true_and]; omega)) only [go_sem, hxx, hcc, z1, z2, true_and])
    | fail)
   ·refine r_loopA (α := Nat) [1, 4, 5, 22, 23, 24, 34, 35] (fun j b => [(36, aI j)]) (fun j b => [(5, .arr 1 ((wBs (imK p H ds a) (x.take j)).map eB))]) (fun j => []) (fun j => j ≤ c) (fun j => c - j) (0) ?h0_2 ?hs0_2 ?I_2 ?hI_2 ?round_2
    case hI_2 => intro x; (simp -dsimp -implicitDefEqProofs (maxSteps := 1000000) (disch := first | omega | (simp only [LN]; omega)) only [go_sem]) <;> exact rfl
    case hs0_2 => refine wk_auto ?_; (simp -dsimp -implicitDefEqProofs (maxSteps := 1000000) (disch := first | omega | (simp only [LN, List.take_zero, wBs_0]; omega)) only [go_sem, List.take_zero, wBs_0]) <;> (try omega)
    case h0_2 => exact Nat.zero_le _
    case round_2 =>
     intro j hj
     have jl := wBs_len (x.take j) (imK p H ds a)
     have v3 : IntKind.i64.wrap ((j : Int) + 1) = ((j + 1 : Nat) : Int) := by rw [IntKind.wrap_i64]; push_cast; omega
     by_cases hj2 : j < c
     ·have ht := wBs_s (imK p H ds a) x (show j < x.length by omega)
      have hg : (x.take c).getD j default = x.getD j default := by rw [List.getD_eq_getElem?_getD, List.getD_eq_getElem?_getD, List.getElem?_take, if_pos hj2]
      have hmm : x.getD j default ∈ x := by rw [List.getD_eq_getElem?_getD, List.getElem?_eq_getElem (show j < x.length by omega)]; exact List.getElem_mem _
      obtain ⟨s0, s1, s2, s3⟩ := hww _ hmm
      obtain ⟨⟨n0, n1⟩, hy⟩ : ∃ y, x.getD j default = y := ⟨_, rfl⟩
      rw [hy] at ht hg hmm s0 s1 s2 s3
      obtain ⟨n, rfl⟩ : ∃ n : Nat, n0 = (n : Int) := ⟨n0.toNat, by omega⟩
      dsimp only at s0 s1 s2 s3
      repeat' (first
       | (with_reducible first | apply zY | apply zT | apply zM | apply zN | apply zO | refine chk_ok (by kernel_rfl) ?_)
       | ((with_reducible first | apply zP | apply zQ | apply zR | apply zL) <;> intro h <;> try (exfalso; first | omega | exact h rfl | (revert h; decide) | (cases h; done)))
       | ((with_reducible show False); omega)
       | ((first | (with_reducible first | apply zW | apply zV | apply zU | apply zS | apply zX | show VX _ _ _ _ _ _ _ | show vstep _ _ _ _ _ | show vskip _ _ _ | show withV _ _) | ((with_reducible show endA _ _ _ _ _ _ _); simp -implicitDefEqProofs only [endA]) | (with_reducible first | refine zB default (by first | omega | (simp only [LN, hg, z3]; omega)) (by first | omega | (simp only [LN, hg, z3]; omega)) ?_ | refine zC default (by first | omega | (simp only [LN, hg, z3]; omega)) ?_ | refine And.intro (by first | decide | omega | assumption | (simp only [LN, hg, z3]; omega)) ?_) | ((with_reducible show pickE _ _ _); first | refine zA _ ⟨by omega, by rfl⟩ ?_ | refine zA _ (by rfl) ?_) | fail); try simp -dsimp -implicitDefEqProofs (maxSteps := 1000000) (disch := first | omega | (simp only [LN, hg, z3]; omega)) only [go_sem, hg, z3])
       | fail)
      refine r_loopA (α := Nat) [1, 4, 5, 9, 22, 23, 24, 34, 35, 36] (fun k b => [(40, aI k)]) (fun k b => [(5, .arr 1 ((putM (wBs (imK p H ds a) (x.take j)) n n1 k).map eB))]) (fun k => []) (fun k => k ≤ 8) (fun k => 8 - k) (0) ?h0_3 ?hs0_3 ?I_3 ?hI_3 ?round_3
      case hI_3 => intro x; (simp -dsimp -implicitDefEqProofs (maxSteps := 1000000) (disch := first | omega | (simp only [LN]; omega)) only [go_sem]) <;> exact rfl
      case hs0_3 => refine wk_auto ?_; (simp -dsimp -implicitDefEqProofs (maxSteps := 1000000) (disch := first | omega | (simp only [LN, putM_0]; omega)) only [go_sem, putM_0]) <;> (try omega)
      case h0_3 => exact Nat.zero_le _
      case round_3 =>
       intro k hk
       have u3 : IntKind.i64.wrap ((k : Int) + 1) = ((k + 1 : Nat) : Int) := by rw [IntKind.wrap_i64]; push_cast; omega
       by_cases hk2 : k < 8
       ·have hps := put_step (wBs (imK p H ds a) (x.take j)) n k n1 hk2
        have w5 : IntKind.i64.wrap (n : Int) = n := i64w (by omega) (by omega)
        have w6 : IntKind.i64.wrap ((n : Int) + k) = ((n + k : Nat) : Int) := (i64w (by omega) (by omega)).trans (by push_cast; rfl)
        have w7 : IntKind.i64.wrap (8 * (k : Int)) = 8 * (k : Int) := i64w (by omega) (by omega)
        repeat' (first
         | (with_reducible first | apply zY | apply zT | apply zM | apply zN | apply zO | refine chk_ok (by kernel_rfl) ?_)
         | ((with_reducible first | apply zP | apply zQ | apply zR | apply zL) <;> intro h <;> try (exfalso; first | omega | exact h rfl | (revert h; decide) | (cases h; done)))
         | ((with_reducible show False); omega)
         | ((first | (with_reducible first | apply zW | apply zV | apply zU | apply zS | apply zX | show VX _ _ _ _ _ _ _ | show vstep _ _ _ _ _ | show vskip _ _ _ | show withV _ _) | ((with_reducible show endA _ _ _ _ _ _ _); simp -implicitDefEqProofs only [endA]) | (with_reducible first | refine zB default (by first | omega | (simp only [LN, w5, w6, w7, putM_len, jl, il]; omega)) (by first | omega | (simp only [LN, w5, w6, w7, putM_len, jl, il]; omega)) ?_ | refine zC default (by first | omega | (simp only [LN, w5, w6, w7, putM_len, jl, il]; omega)) ?_ | refine And.intro (by first | decide | omega | assumption | (simp only [LN, w5, w6, w7, putM_len, jl, il]; omega)) ?_) | ((with_reducible show pickE _ _ _); first | refine zA _ ⟨by omega, by rfl⟩ ?_ | refine zA _ (by rfl) ?_) | fail); try simp -dsimp -implicitDefEqProofs (maxSteps := 1000000) (disch := first | omega | (simp only [LN, w5, w6, w7, putM_len, jl, il]; omega)) only [go_sem, w5, w6, w7, putM_len, jl, il])
         | fail)
        all_goals first | omega | ((refine zZ (k + 1) ?_ ?_ ?_; (omega); (show _ < _; omega); (simp -dsimp -implicitDefEqProofs (maxSteps := 1000000) (disch := first | omega | (simp only [LN, u3, hps]; omega)) only [go_sem, u3, hps]; try trivial)))
       ·obtain rfl : k = 8 := by omega
        clear u3
        repeat' (first
         | (with_reducible first | apply zY | apply zT | apply zM | apply zN | apply zO | refine chk_ok (by kernel_rfl) ?_)
         | ((with_reducible first | apply zP | apply zQ | apply zR | apply zL) <;> intro h <;> try (exfalso; first | omega | exact h rfl | (revert h; decide) | (cases h; done)))
         | ((with_reducible show False); omega)
         | ((first | (with_reducible first | apply zW | apply zV | apply zU | apply zS | apply zX | show VX _ _ _ _ _ _ _ | show vstep _ _ _ _ _ | show vskip _ _ _ | show withV _ _) | ((with_reducible show endA _ _ _ _ _ _ _); simp -implicitDefEqProofs only [endA]) | (with_reducible first | refine zB default (by first | omega | (simp only [LN]; omega)) (by first | omega | (simp only [LN]; omega)) ?_ | refine zC default (by first | omega | (simp only [LN]; omega)) ?_ | refine And.intro (by first | decide | omega | assumption | (simp only [LN]; omega)) ?_) | ((with_reducible show pickE _ _ _); first | refine zA _ ⟨by omega, by rfl⟩ ?_ | refine zA _ (by rfl) ?_) | fail); try simp -dsimp -implicitDefEqProofs (maxSteps := 1000000) (disch := first | omega | (simp only [LN]; omega)) only [go_sem])
         | fail)
        all_goals first | omega | ((refine zZ (j + 1) ?_ ?_ ?_; (omega); (show _ < _; omega); (simp -dsimp -implicitDefEqProofs (maxSteps := 1000000) (disch := first | omega | (simp only [LN, v3, ht, wB, Int.toNat_natCast]; omega)) only [go_sem, v3, ht, wB, Int.toNat_natCast]; try trivial)))
     ·obtain rfl : j = c := by omega
      clear v3
      repeat' (first
       | (with_reducible first | apply zY | apply zT | apply zM | apply zN | apply zO | refine chk_ok (by kernel_rfl) ?_)
       | ((with_reducible first | apply zP | apply zQ | apply zR | apply zL) <;> intro h <;> try (exfalso; first | omega | exact h rfl | (revert h; decide) | (cases h; done)))
       | ((with_reducible show False); omega)
       | ((first | (with_reducible first | apply zW | apply zV | apply zU | apply zS | apply zX | show VX _ _ _ _ _ _ _ | show vstep _ _ _ _ _ | show vskip _ _ _ | show withV _ _) | ((with_reducible show endA _ _ _ _ _ _ _); simp -implicitDefEqProofs only [endA]) | (with_reducible first | refine zB default (by first | omega | (simp only [LN, z3]; omega)) (by first | omega | (simp only [LN, z3]; omega)) ?_ | refine zC default (by first | omega | (simp only [LN, z3]; omega)) ?_ | refine And.intro (by first | decide | omega | assumption | (simp only [LN, z3]; omega)) ?_) | ((with_reducible show pickE _ _ _); first | refine zA _ ⟨by omega, by rfl⟩ ?_ | refine zA _ (by rfl) ?_) | fail); try simp -dsimp -implicitDefEqProofs (maxSteps := 1000000) (disch := first | omega | (simp only [LN, z3]; omega)) only [go_sem, z3])
       | fail)
      all_goals first | omega | ((refine zZ (a + 1) ?_ ?_ ?_; (omega); (show _ < _; omega); (simp -dsimp -implicitDefEqProofs (maxSteps := 1000000) (disch := first | omega | (simp only [LN, w3, hs]; omega)) only [go_sem, w3, hs]; try trivial)))
   all_goals first | omega
  ·obtain rfl : a = H.length := by omega
   have k14 := c14 (imK p H ds H.length)
   repeat' (first
    | (with_reducible first | apply zY | apply zT | apply zM | apply zN | apply zO | refine chk_ok (by kernel_rfl) ?_)
    | ((with_reducible first | apply zP | apply zQ | apply zR | apply zL) <;> intro h <;> try (exfalso; first | omega | exact h rfl | (revert h; decide) | (cases h; done)))
    | ((with_reducible show False); omega)
    | ((first | (with_reducible first | apply zW | apply zV | apply zU | apply zS | apply zX | show VX _ _ _ _ _ _ _ | show vstep _ _ _ _ _ | show vskip _ _ _ | show withV _ _) | ((with_reducible show endA _ _ _ _ _ _ _); simp -implicitDefEqProofs only [endA]) | (with_reducible first | refine zB default (by first | omega | (simp only [LN]; omega)) (by first | omega | (simp only [LN]; omega)) ?_ | refine zC default (by first | omega | (simp only [LN]; omega)) ?_ | refine And.intro (by first | decide | omega | assumption | (simp only [LN]; omega)) ?_) | ((with_reducible apply zD); (exact k14)) | ((with_reducible apply zE); (exact k14); rfl) | ((with_reducible apply zF); (exact k14)) | ((with_reducible show pickE _ _ _); first | refine zA _ ⟨by omega, by rfl⟩ ?_ | refine zA _ (by rfl) ?_) | fail); try simp -dsimp -implicitDefEqProofs (maxSteps := 1000000) (disch := first | omega | (simp only [LN]; omega)) only [go_sem])
    | fail)
   all_goals first | omega | (simp; done)
end Go.Proofs.YtegekpjkbedngaaGreat
namespace Go.Proofs.YtegekpjkbedngaaGreat
set_option maxHeartbeats 4000000
set_option maxRecDepth 100000
open Go Go.Ab
attribute [local irreducible] callK callF loopQ vstep vskip pickE hideP
def w0 (i : Nat) : Int := if i = 0 then 1 else if i = 4 then 20 else if i = 16 then 1 else 0
def w0L : List Int := (List.range 28).map w0
def enW : Nat → List Int
 | 0 => List.replicate 28 0
 | _ + 1 => ((List.replicate 28 0).set 4 20).set 16 1
theorem enW_0 : List.replicate 28 (PV.v (.int .u64 0)) = (enW 0).map eU := by rfl
theorem enW_1 : (((enW 0).map eU).set 4 (.v (.int .u64 20))).set 16 (.v (.int .u64 1)) = (enW 1).map eU := by rfl
theorem enW_2 : (((enW 1).map eU).set 0 (.v (.int .u64 1))).set 1 (.v (.int .u64 0)) = w0L.map eU := by rfl
theorem enW_len : ∀ i, (enW i).length = 28
 | 0 => rfl
 | _ + 1 => rfl
theorem sl1 : Sl [0] := by refine ⟨by simp, by simp, by simp⟩
attribute [local go_sem] eNd eU
theorem kEncode  : PCalls Tryz.prog 6 [.view 1 [eU 20], .view 1 [eU 1], .v (.int .u64 0), .v (.int .u64 0), .v (.bool false)] (.tup [.view 1 (w0L.map eU), .v (.int .i64 0)]) := by
 refine yD ⟨_, rfl, rfl, by decide⟩ fun hf => ?_
 simp only [go_sem, big] at hf
 refine yB (E := E) (fn := Tryz.f6) 88 [.tmp 10, .tmp 11] rfl rfl rfl rfl (by decide) rfl ?_
 have ko := kOrder [0] sl1 0 (by omega)
 rw [show perm [0] 0 = 1 from rfl] at ko
 repeat' (first
  | (with_reducible first | apply zY | apply zT | apply zM | apply zN | apply zO | refine chk_ok (by kernel_rfl) ?_)
  | ((with_reducible first | apply zP | apply zQ | apply zR | apply zL) <;> intro h <;> try (exfalso; first | omega | exact h rfl | (revert h; decide) | (cases h; done)))
  | ((with_reducible show False); omega)
  | ((first | (with_reducible first | apply zW | apply zV | apply zU | apply zS | apply zX | show VX _ _ _ _ _ _ _ | show vstep _ _ _ _ _ | show vskip _ _ _ | show withV _ _) | ((with_reducible show endA _ _ _ _ _ _ _); simp -implicitDefEqProofs only [endA]) | (with_reducible first | refine zB default (by first | omega | (simp only [LN]; omega)) (by first | omega | (simp only [LN]; omega)) ?_ | refine zC default (by first | omega | (simp only [LN]; omega)) ?_ | refine And.intro (by first | decide | omega | assumption | (simp only [LN]; omega)) ?_) | ((with_reducible show pickE _ _ _); first | refine zA _ ⟨by omega, by rfl⟩ ?_ | refine zA _ (by rfl) ?_) | fail); try simp -dsimp -implicitDefEqProofs (maxSteps := 1000000) (disch := first | omega | (simp only [LN]; omega)) only [go_sem])
  | fail)
 refine r_loopA (α := Nat) [0, 1, 2, 3, 4, 13, 14, 30, 31] (fun i b => [(32, aI i)]) (fun i b => [(13, .arr 1 ((enW i).map eU)), (14, .arr 1 [.v (.int .i64 0)])]) (fun i => []) (fun i => i ≤ 1) (fun i => 1 - i) (0) ?h0_1 ?hs0_1 ?I_1 ?hI_1 ?round_1
 case hI_1 => intro x; (simp -dsimp -implicitDefEqProofs (maxSteps := 1000000) (disch := first | omega | (simp only [LN]; omega)) only [go_sem]) <;> exact rfl
 case hs0_1 => refine wk_auto ?_; (simp -dsimp -implicitDefEqProofs (maxSteps := 1000000) (disch := first | omega | (simp only [LN, enW_0, List.replicate_one]; omega)) only [go_sem, enW_0, List.replicate_one]) <;> (try omega)
 case h0_1 => exact Nat.zero_le _
 case round_1 =>
  intro i hi
  have h0 := enW_len 0
  have h1 := enW_len 1
  rcases (show i = 0 ∨ i = 1 by omega) with rfl | rfl
  ·repeat' (first
    | (with_reducible first | apply zY | apply zT | apply zM | apply zN | apply zO | refine chk_ok (by kernel_rfl) ?_)
    | ((with_reducible first | apply zP | apply zQ | apply zR | apply zL) <;> intro h <;> try (exfalso; first | omega | exact h rfl | (revert h; decide) | (cases h; done)))
    | ((with_reducible show False); omega)
    | ((first | (with_reducible first | apply zW | apply zV | apply zU | apply zS | apply zX | show VX _ _ _ _ _ _ _ | show vstep _ _ _ _ _ | show vskip _ _ _ | show withV _ _) | ((with_reducible show endA _ _ _ _ _ _ _); simp -implicitDefEqProofs only [endA]) | (with_reducible first | refine zB default (by first | omega | (simp only [LN, h0]; omega)) (by first | omega | (simp only [LN, h0]; omega)) ?_ | refine zC default (by first | omega | (simp only [LN, h0]; omega)) ?_ | refine And.intro (by first | decide | omega | assumption | (simp only [LN, h0]; omega)) ?_) | ((with_reducible show pickE _ _ _); first | refine zA _ ⟨by omega, by rfl⟩ ?_ | refine zA _ (by rfl) ?_) | fail); try simp -dsimp -implicitDefEqProofs (maxSteps := 1000000) (disch := first | omega | (simp only [LN, h0]; omega)) only [go_sem, h0])
    | fail)
   all_goals first | omega | ((refine zZ (1) ?_ ?_ ?_; (omega); (show _ < _; omega); (simp -dsimp -implicitDefEqProofs (maxSteps := 1000000) (disch := first | omega | (simp only [LN, enW_1]; omega)) only [go_sem, enW_1]; try trivial)))
  ·repeat' (first
    | (with_reducible first | apply zY | apply zT | apply zM | apply zN | apply zO | refine chk_ok (by kernel_rfl) ?_)
    | ((with_reducible first | apply zP | apply zQ | apply zR | apply zL) <;> intro h <;> try (exfalso; first | omega | exact h rfl | (revert h; decide) | (cases h; done)))
    | ((with_reducible show False); omega)
    | ((first | (with_reducible first | apply zW | apply zV | apply zU | apply zS | apply zX | show VX _ _ _ _ _ _ _ | show vstep _ _ _ _ _ | show vskip _ _ _ | show withV _ _) | ((with_reducible show endA _ _ _ _ _ _ _); simp -implicitDefEqProofs only [endA]) | (with_reducible first | refine zB default (by first | omega | (simp only [LN, h1]; omega)) (by first | omega | (simp only [LN, h1]; omega)) ?_ | refine zC default (by first | omega | (simp only [LN, h1]; omega)) ?_ | refine And.intro (by first | decide | omega | assumption | (simp only [LN, h1]; omega)) ?_) | ((with_reducible apply zD); (exact ko)) | ((with_reducible apply zE); (exact ko); rfl) | ((with_reducible apply zF); (exact ko)) | ((with_reducible show pickE _ _ _); first | refine zA _ ⟨by omega, by rfl⟩ ?_ | refine zA _ (by rfl) ?_) | fail); try simp -dsimp -implicitDefEqProofs (maxSteps := 1000000) (disch := first | omega | (simp only [LN, h1]; omega)) only [go_sem, h1])
    | fail)
   all_goals first | omega | (rw [enW_2]; rfl)
def nxR (H : Hs) : List Nat → Nat → List Nat × Bool
 | ks, 0 => (ks, false)
 | ks, i + 1 => if ks.getD i default < (H.getD i default).length then (ks.set i (ks.getD i default + 1), true) else nxR H (ks.set i 0) i
def DgOk (H : Hs) (ks : List Nat) : Prop := ks.length = H.length ∧ ∀ i, i < H.length → ks.getD i default ≤ (H.getD i default).length
theorem dgOk_set {H : Hs} {ks : List Nat} (h : DgOk H ks) {i x : Nat} (hx : x ≤ (H.getD i default).length) : DgOk H (ks.set i x) := by
 refine ⟨by rw [List.length_set]; exact h.1, fun j hj => ?_⟩
 rw [List.getD_eq_getElem?_getD, List.getElem?_set]
 split
 ·rename_i e; subst e; split
  ·exact hx
  ·exact Nat.zero_le _
 ·rw [← List.getD_eq_getElem?_getD]; exact h.2 j hj
theorem nxR_ok {H : Hs} : ∀ (i : Nat) (ks : List Nat), DgOk H ks → DgOk H (nxR H ks i).1
 | 0, ks, h => h
 | i + 1, ks, h => by
  rw [nxR]; split
  ·rename_i hc; exact dgOk_set h hc
  ·exact nxR_ok i _ (dgOk_set h (Nat.zero_le _))
theorem set_nd (ks : List Nat) (i x : Nat) : (ks.map eNd).set i (.v (.int .i64 x)) = (ks.set i x).map eNd := by rw [List.map_set]; rfl
theorem nxR_y {H : Hs} {ks : List Nat} {i : Nat} (h : ks.getD i default < (H.getD i default).length) : nxR H ks (i + 1) = (ks.set i (ks.getD i default + 1), true) := if_pos h
theorem nxR_n {H : Hs} {ks : List Nat} {i : Nat} (h : ¬ ks.getD i default < (H.getD i default).length) : nxR H ks (i + 1) = nxR H (ks.set i 0) i := if_neg h
attribute [local go_sem] eHs eSet eWr
theorem kNext (p : List UInt8) (d : List Nat) (H : Hs) (ks : List Nat) (hk : DgOk H ks) (hl : H.length ≤ 1000) (hll : ∀ i, i < H.length → (H.getD i default).length ≤ 1000000) : ACalls Tryz.prog 46 [.p (eSet p d H), .sl 0 1 0 H.length] [.arr 1 (ks.map eNd)] (.p (.v (.bool (nxR H ks H.length).2))) [.arr 1 ((nxR H ks H.length).1.map eNd)] := by
 refine yA (E := E) (fn := Tryz.f46) 33 [.tmp 4] rfl rfl rfl rfl (by decide) rfl rfl ?_
 have w1 : IntKind.i64.wrap ((H.length : Int) - 1) = (H.length : Int) - 1 := by rw [IntKind.wrap_i64]; omega
 repeat' (first
  | (with_reducible first | apply zY | apply zT | apply zM | apply zN | apply zO | refine chk_ok (by kernel_rfl) ?_)
  | ((with_reducible first | apply zP | apply zQ | apply zR | apply zL) <;> intro h <;> try (exfalso; first | omega | exact h rfl | (revert h; decide) | (cases h; done)))
  | ((with_reducible show False); omega)
  | ((first | (with_reducible first | apply zW | apply zV | apply zU | apply zS | apply zX | show VX _ _ _ _ _ _ _ | show vstep _ _ _ _ _ | show vskip _ _ _ | show withV _ _) | ((with_reducible show endA _ _ _ _ _ _ _); simp -implicitDefEqProofs only [endA]) | (with_reducible first | refine zB default (by first | omega | (simp only [LN, w1]; omega)) (by first | omega | (simp only [LN, w1]; omega)) ?_ | refine zC default (by first | omega | (simp only [LN, w1]; omega)) ?_ | refine And.intro (by first | decide | omega | assumption | (simp only [LN, w1]; omega)) ?_) | ((with_reducible show pickE _ _ _); first | refine zA _ ⟨by omega, by rfl⟩ ?_ | refine zA _ (by rfl) ?_) | fail); try simp -dsimp -implicitDefEqProofs (maxSteps := 1000000) (disch := first | omega | (simp only [LN, w1]; omega)) only [go_sem, w1])
  | fail)
 refine r_loopA (α := Nat × List Nat) [1, 2] (fun x b => [(5, .p (.v (.int .i64 ((x.1 : Int) - 1))))]) (fun x b => [(1, .arr 1 (x.2.map eNd))]) (fun x => []) (fun x => x.1 ≤ H.length ∧ DgOk H x.2 ∧ nxR H ks H.length = nxR H x.2 x.1) (fun x => x.1) ((H.length, ks)) ?h0_2 ?hs0_2 ?I_2 ?hI_2 ?round_2
 case hI_2 => intro x; (simp -dsimp -implicitDefEqProofs (maxSteps := 1000000) (disch := first | omega | (simp only [LN]; omega)) only [go_sem]) <;> exact rfl
 case hs0_2 => refine wk_auto ?_; (simp -dsimp -implicitDefEqProofs (maxSteps := 1000000) (disch := first | omega | (simp only [LN]; omega)) only [go_sem]) <;> (try omega)
 case h0_2 => exact ⟨Nat.le_refl _, hk, rfl⟩
 case round_2 =>
  rintro ⟨i, kk⟩ ⟨hi, hok, he⟩
  simp only at hi hok he
  have hkl := hok.1
  rw [he]
  rcases i with _ | i
  ·repeat' (first
    | (with_reducible first | apply zY | apply zT | apply zM | apply zN | apply zO | refine chk_ok (by kernel_rfl) ?_)
    | ((with_reducible first | apply zP | apply zQ | apply zR | apply zL) <;> intro h <;> try (exfalso; first | omega | exact h rfl | (revert h; decide) | (cases h; done)))
    | ((with_reducible show False); omega)
    | ((first | (with_reducible first | apply zW | apply zV | apply zU | apply zS | apply zX | show VX _ _ _ _ _ _ _ | show vstep _ _ _ _ _ | show vskip _ _ _ | show withV _ _) | ((with_reducible show endA _ _ _ _ _ _ _); simp -implicitDefEqProofs only [endA]) | (with_reducible first | refine zB default (by first | omega | (simp only [LN]; omega)) (by first | omega | (simp only [LN]; omega)) ?_ | refine zC default (by first | omega | (simp only [LN]; omega)) ?_ | refine And.intro (by first | decide | omega | assumption | (simp only [LN]; omega)) ?_) | ((with_reducible show pickE _ _ _); first | refine zA _ ⟨by omega, by rfl⟩ ?_ | refine zA _ (by rfl) ?_) | fail); try simp -dsimp -implicitDefEqProofs (maxSteps := 1000000) (disch := first | omega | (simp only [LN]; omega)) only [go_sem])
    | fail)
   all_goals first | omega | (simp [nxR]; done)
  ·have hd := hok.2 i hi
   have hh := hll i hi
   have w5 : ((i + 1 : Nat) : Int) - 1 = i := by omega
   have w5b : (i : Int) + 1 - 1 = i := by omega
   by_cases hc : kk.getD i default < (H.getD i default).length
   ·have hy := nxR_y hc
    have hs := set_nd kk i (kk.getD i default + 1)
    generalize hxx : kk.getD i default = x at *
    generalize hyy : H.getD i default = y at *
    have w6 : IntKind.i64.wrap ((x : Int) + 1) = (x : Int) + 1 := by rw [IntKind.wrap_i64]; omega
    repeat' (first
     | (with_reducible first | apply zY | apply zT | apply zM | apply zN | apply zO | refine chk_ok (by kernel_rfl) ?_)
     | ((with_reducible first | apply zP | apply zQ | apply zR | apply zL) <;> intro h <;> try (exfalso; first | omega | exact h rfl | (revert h; decide) | (cases h; done)))
     | ((with_reducible show False); omega)
     | ((first | (with_reducible first | apply zW | apply zV | apply zU | apply zS | apply zX | show VX _ _ _ _ _ _ _ | show vstep _ _ _ _ _ | show vskip _ _ _ | show withV _ _) | ((with_reducible show endA _ _ _ _ _ _ _); simp -implicitDefEqProofs only [endA]) | (with_reducible first | refine zB default (by first | omega | (simp only [LN, w5, w5b, w6, hxx, hyy, hkl]; omega)) (by first | omega | (simp only [LN, w5, w5b, w6, hxx, hyy, hkl]; omega)) ?_ | refine zC default (by first | omega | (simp only [LN, w5, w5b, w6, hxx, hyy, hkl]; omega)) ?_ | refine And.intro (by first | decide | omega | assumption | (simp only [LN, w5, w5b, w6, hxx, hyy, hkl]; omega)) ?_) | ((with_reducible show pickE _ _ _); first | refine zA _ ⟨by omega, by rfl⟩ ?_ | refine zA _ (by rfl) ?_) | fail); try simp -dsimp -implicitDefEqProofs (maxSteps := 1000000) (disch := first | omega | (simp only [LN, w5, w5b, w6, hxx, hyy, hkl]; omega)) only [go_sem, w5, w5b, w6, hxx, hyy, hkl])
     | fail)
    all_goals first | omega | (rw [hy]; first | exact ⟨.inl hs, rfl⟩ | exact .inl hs | rfl)
   ·have hn := nxR_n hc
    have hs : (kk.map eNd).set i (.v (.int .i64 0)) = (kk.set i 0).map eNd := set_nd kk i 0
    have hok2 := dgOk_set hok (i := i) (x := 0) (Nat.zero_le _)
    generalize hxx : kk.getD i default = x at *
    generalize hyy : H.getD i default = y at *
    have w7 : IntKind.i64.wrap ((i : Int) - 1) = (i : Int) - 1 := by rw [IntKind.wrap_i64]; omega
    repeat' (first
     | (with_reducible first | apply zY | apply zT | apply zM | apply zN | apply zO | refine chk_ok (by kernel_rfl) ?_)
     | ((with_reducible first | apply zP | apply zQ | apply zR | apply zL) <;> intro h <;> try (exfalso; first | omega | exact h rfl | (revert h; decide) | (cases h; done)))
     | ((with_reducible show False); omega)
     | ((first | (with_reducible first | apply zW | apply zV | apply zU | apply zS | apply zX | show VX _ _ _ _ _ _ _ | show vstep _ _ _ _ _ | show vskip _ _ _ | show withV _ _) | ((with_reducible show endA _ _ _ _ _ _ _); simp -implicitDefEqProofs only [endA]) | (with_reducible first | refine zB default (by first | omega | (simp only [LN, w5, w5b, hxx, hyy, hkl]; omega)) (by first | omega | (simp only [LN, w5, w5b, hxx, hyy, hkl]; omega)) ?_ | refine zC default (by first | omega | (simp only [LN, w5, w5b, hxx, hyy, hkl]; omega)) ?_ | refine And.intro (by first | decide | omega | assumption | (simp only [LN, w5, w5b, hxx, hyy, hkl]; omega)) ?_) | ((with_reducible show pickE _ _ _); first | refine zA _ ⟨by omega, by rfl⟩ ?_ | refine zA _ (by rfl) ?_) | fail); try simp -dsimp -implicitDefEqProofs (maxSteps := 1000000) (disch := first | omega | (simp only [LN, w5, w5b, hxx, hyy, hkl]; omega)) only [go_sem, w5, w5b, hxx, hyy, hkl])
     | fail)
    ·refine zZ (i, kk.set i 0) ?_ ?_ ?_
     ·exact ⟨by show i ≤ _; omega, hok2, hn⟩
     ·show i < i + 1; omega
     ·simp -dsimp -implicitDefEqProofs (maxSteps := 1000000) (disch := first | omega | (simp only [LN, w7, hs]; omega)) only [go_sem, w7, hs]
end Go.Proofs.YtegekpjkbedngaaGreat
