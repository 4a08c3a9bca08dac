/- slices.SortFunc at any length, as a contract of the walk: a slice of one's own is put in order. No conditions. -/
import Derived.Test.YtpcjeaaplidmaaaDoorAc4
import Derived.Shelf.SlSortCmp.Whole1
set_option linter.unusedSimpArgs false
set_option linter.unusedVariables false
namespace Go.Ab
theorem grown_of {w w' : World} (ho : w'.os = w.os) (ht : w'.tape = w.tape) (hu : w'.output = w.output) (hd : w.drawn ≤ w'.drawn) (hs : w.heap.size ≤ w'.heap.size) (hh : ∀ b, b < w.heap.size → w'.heap[b]? = w.heap[b]?) :
  ∃ q os', w' = Sort.grow (w.drewN q) os' := by
 refine ⟨w'.drawn - w.drawn, w'.heap.extract w.heap.size w'.heap.size, ?_⟩
 cases w with | mk h t d o u =>
 cases w' with | mk h' t' d' o' u' =>
 dsimp only at *
 subst ho ht hu
 have e1 : h' = h ++ h'.extract h.size h'.size := by
  apply Array.ext_getElem?
  intro i
  rw [Array.getElem?_append]
  split
  ·rename_i h1; exact hh i h1
  ·rename_i h1
   rw [Array.getElem?_extract]
   split
   ·congr 1; omega
   ·rw [Array.getElem?_eq_none (by omega)]
 have e2 : d' = d + (d' - d) := by omega
 show World.mk h' t' d' o' u' = World.mk (h ++ h'.extract h.size h'.size) t' (d + (d' - d)) o' u'
 rw [← e1, ← e2]
abbrev Hdr (Z : Nat → Prop) (w : World) {α : Type} (e : α → PV) := { p : α × Value // Rep Z w (e p.1) p.2 }
theorem hdr_up {Z : Nat → Prop} {w : World} {α : Type} {e : α → PV} : ∀ (A : List α) (vs : List Value), Reps Z w (A.map e) vs → ∃ D : List (Hdr Z w e), D.map (fun p => p.1.1) = A ∧ D.map (fun p => p.1.2) = vs
 | [], vs, h => by simp only [List.map_nil, Reps] at h; exact ⟨[], rfl, h.symm ▸ rfl⟩
 | a :: A, vs, h => by
  simp only [List.map_cons, Reps] at h
  obtain ⟨u, us, rfl, h1, h2⟩ := h
  obtain ⟨D, h3, h4⟩ := hdr_up A us h2
  exact ⟨⟨(a, u), h1⟩ :: D, by simp [h3], by simp [h4]⟩
theorem hdr_down [Glob] {Z Z' : Nat → Prop} {w w' : World} {α : Type} {e : α → PV} (hz : ∀ b, Z b → Z' b) (hk : Keep Z w w') : ∀ D : List (Hdr Z w e), Reps Z' w' ((D.map (fun p => p.1.1)).map e) (D.map (fun p => p.1.2))
 | [] => rfl
 | p :: D => ⟨_, _, rfl, Rep.mono hz hk _ _ p.2, hdr_down hz hk D⟩
theorem swo_on {α β : Type} {f : α → β} {lt : β → β → Bool} (h : Sort.SWO lt) : Sort.SWO (fun a b => lt (f a) (f b)) where
 irrefl x := h.irrefl _
 trans x y z := h.trans _ _ _
 ntrans x y z := h.ntrans _ _ _
section
open Go.Proofs
theorem heap_sortWorld {β : Type} [Inhabited β] {enc : β → Value} {w : World} {b m k : Nat} {d : Array β} {os : Array Obj} (hk : k < w.heap.size) (hkb : k ≠ b) : (sortWorld enc w b 0 m d os).heap[k]? = w.heap[k]? := by
 unfold sortWorld
 rw [Sort.heap_grow_old _ _ (by rw [Sort.size_putRow]; exact hk)]
 show (w.heap.modify b _)[k]? = _
 rw [Array.getElem?_modify, if_neg (fun e => hkb e.symm)]
theorem heap_sortWorld_b {β : Type} [Inhabited β] {enc : β → Value} {w : World} {b m : Nat} {d : Array β} {os : Array Obj} {c : Array Value} {ty : TypeId} {fr : Nat × Nat} (hb : b < w.heap.size) (h : w.heap[b]? = some (.cells c ty fr)) :
  (sortWorld enc w b 0 m d os).heap[b]? = some (.cells (Sort.putCells enc 0 d c) ty fr) := by
 unfold sortWorld
 rw [Sort.heap_grow_old _ _ (by rw [Sort.size_putRow]; exact hb)]
 show (w.heap.modify b _)[b]? = _
 rw [Array.getElem?_modify, if_pos rfl, h]
 rfl
theorem size_sortWorld {β : Type} [Inhabited β] {enc : β → Value} {w : World} {b m : Nat} {d : Array β} {os : Array Obj} : w.heap.size ≤ (sortWorld enc w b 0 m d os).heap.size := by
 unfold sortWorld
 rw [Sort.size_grow, Sort.size_putRow]
 exact Nat.le_add_right _ _
end
theorem calls_grown [Glob] (hdr : Glob.dr) {P : Program} {f : FuncId} {args : List PV} {c : Int} (h : PCalls P f args (.v (.int .i64 c))) {Z : Nat → Prop} {w : World} {vals : List Value} (hz : ZOk Z w) (hr : Reps Z w args vals) :
  Calls P f vals.toArray w fun e w' => e = .returned (.int .i64 c) ∧ ∃ q os', w' = Sort.grow (w.drewN q) os' := by
 refine (h.calls Z w vals hz hr).mono ?_
 rintro e' w' ⟨u, Z', rfl, st, _, hu⟩
 simp only [Rep] at hu
 exact ⟨by rw [hu.1], grown_of st.os st.tape st.output.out (st.output.up hdr) st.size fun k hk => st.hp k hk (fun i => by simp)⟩
set_option maxHeartbeats 1000000 in
theorem ac_sort (Gd : Glob) [Glob] (hGd : ∀ Z w, Glob.G Z w → Gd.G Z w) (hdr : Gd.dr) {P : Program} {ρ : Shelf.Ren} (L : Proofs.SlLaysF.n6 P ρ) (hcal : Callable P (ρ.f 6)) {g : FuncId} (eg : ∀ args w, (callFunc g args).run P w = .ok (.enter g args) w)
  {α : Type} {e : α → PV} (he : ∀ x Z w u, Rep Z w (e x) u → vcells u = [u] ∧ u.oneCell' = true) {cf : α → α → Int} (hO : Sort.SWO (fun a b => decide (cf a b < 0)))
  (hc : ∀ a b, @PCalls Gd P g [e a, e b] (.v (.int .i64 (cf a b)))) {A A' : List α} (hA : A ≠ []) (hA' : ∀ l : List α, l.Perm A → (l.Pairwise fun a b => ¬ cf b a < 0) → l = A') :
  ACalls P (ρ.f 6) [.sl 0 1 0 A.length, .p (.fn g [])] [.arr 1 (A.map e)] (.p (.tup [])) [.arr 1 (A'.map e)] := by
 refine ⟨hcal, Nat.le_refl _, fun Z lb w vals o hv => ?_⟩
 simp only [AReps] at hv
 obtain ⟨u1, _, rfl, h1, u2, _, rfl, h2, rfl⟩ := hv
 obtain ⟨x, hx, hob⟩ := o.obj 0 (.arr 1 (A.map e)) rfl
 have hlen : A.length ≠ 0 := by simpa using hA
 simp only [ARep, Rep, Reps] at h2
 obtain ⟨_, rfl, rfl⟩ := h2
 simp only [ARep] at h1
 rcases h1 with ⟨_, h, _⟩ | ⟨b, cap, hb, rfl, hcap, hbs⟩
 ·exact absurd h hlen
 rw [hb] at hx
 simp only [Option.some.injEq] at hx
 subst hx
 obtain ⟨hzb, hlt, vs, arr, ty, fr, hr, _, hfit, hh, hfr, hcells, hbig, hsz⟩ := hob
 obtain ⟨D, hD1, hD2⟩ := hdr_up A vs hr
 have hDl : D.length = A.length := by rw [← hD1]; simp
 have hvl : vs.length = A.length := by rw [← hD2]; simpa using hDl
 obtain ⟨p0, hp0⟩ : ∃ p, p ∈ D := by
  cases D with
  | nil => exact absurd hDl.symm hlen
  | cons p D => exact ⟨p, List.mem_cons_self⟩
 letI : Inhabited (Hdr Z w e) := ⟨p0⟩
 let enc : Hdr Z w e → Value := fun p => p.1.2
 let cfb : Hdr Z w e → Hdr Z w e → Int := fun p q => cf p.1.1 q.1.1
 have hsw : Sort.SWO (Proofs.ltOf cfb) := swo_on (f := fun p : Hdr Z w e => p.1.1) hO
 have hget : ∀ (d : Array (Hdr Z w e)) (j : Nat) (hj : j < d.size), d[j]! = d[j] := fun d j hj => getElem!_pos d j hj
 have hH : Sort.Holds enc w b 0 D.toArray := fun j hj => by
  rw [hget _ _ hj]
  have hjl : j < D.length := by simpa using hj
  have hv : vs[j]? = some (enc D[j]) := by rw [← hD2, List.getElem?_map, List.getElem?_eq_getElem hjl]; rfl
  have hc1 := hcells j _ hv 0 (enc D[j]) (by rw [(he _ _ _ _ D[j].2).1]; rfl)
  rw [Nat.mul_one, Nat.add_zero] at hc1
  have hja : j < arr.size := by
   rcases Nat.lt_or_ge j arr.size with h | h
   ·exact h
   ·rw [Array.getElem?_eq_none h] at hc1; simp at hc1
  rw [Nat.zero_add]
  refine ⟨by simp [World.cell?, hh, hc1], ?_⟩
  have := hfr.no j hja
  simp only [World.frozen?, hh]
  simp; omega
 have hkeep : ∀ m d os, Keep Z w (Proofs.sortWorld enc w b 0 m d os) := fun m d os k hk => heap_sortWorld (o.zlt.lt k hk) (fun e => hzb (e ▸ hk))
 have hcmp : Proofs.CmpLays1 P g #[] enc cfb b 0 D.toArray.size w := fun m os dk hdk p q => by
  have hz : @ZOk Gd Z (Proofs.sortWorld enc w b 0 m dk os) :=
   @ZOk.mk Gd _ _ (fun k hk => Nat.lt_of_lt_of_le (o.zlt.lt k hk) size_sortWorld) (Gd.mono (fun _ h => h) (hkeep m dk os) (hGd _ _ o.zlt.gl))
  exact @calls_grown Gd hdr _ _ _ _ (hc p.1.1 q.1.1) Z _ [enc p, enc q] hz ⟨_, _, rfl, Rep.mono (fun _ h => h) (hkeep m dk os) _ _ p.2, _, _, rfl, Rep.mono (fun _ h => h) (hkeep m dk os) _ _ q.2, rfl⟩
 have hbig2 : D.toArray.size < 4611686018427387904 := by
  have : vs.length ≤ 140737488355328 := hbig
  simp; omega
 have hmain := Proofs.Any.slices_SortFunc L enc (fun p => (he _ _ _ _ p.2).2) cfb hsw g #[] b 0 cap D.toArray w eg hcmp hH hlt hbig2
 have hargs : [Value.slice (some ⟨b, 0 * 1, none⟩) A.length cap, .func (.func g) #[] [].toArray].toArray = #[.slice (some ⟨b, 0, none⟩) D.toArray.size cap, .func (.func g) #[] #[]] := by
  simp [hDl]
 rw [hargs]
 refine hmain.mono ?_
 rintro e' w' ⟨rfl, d', n, os, hperm, hsorted, rfl⟩
 obtain ⟨p1, _, p3⟩ := hperm
 have e1 : ∀ d : Array (Hdr Z w e), d.size = D.toArray.size → (d.extract 0 D.toArray.size) = d := fun d hd => by rw [← hd]; exact Array.extract_size
 rw [e1 d' p1, e1 _ rfl] at p3
 have hpm : (d'.toList.map fun p => p.1.1).Perm A := by rw [← hD1]; exact p3.map _
 have hpw : (d'.toList.map fun p => p.1.1).Pairwise fun a b => ¬ cf b a < 0 := by
  rw [List.pairwise_map, List.pairwise_iff_getElem]
  intro i j hi hj hij
  have := hsorted i j (Nat.zero_le _) hij (by rw [← p1]; simpa using hj)
  rw [hget d' j (by simpa using hj), hget d' i (by simpa using hi)] at this
  have h2 : decide (cf d'[j].1.1 d'[i].1.1 < 0) = false := this
  simpa using h2
 have hres := hA' _ hpm hpw
 have hl' : d'.toList.length = A.length := by rw [Array.length_toList, p1]; simpa using hDl
 have hs' := hkeep n d' os
 have hz' : ZOk Z (Proofs.sortWorld enc w b 0 n d' os) := ⟨fun k hk => Nat.lt_of_lt_of_le (o.zlt.lt k hk) size_sortWorld, Glob.mono (fun _ h => h) hs' o.zlt.gl⟩
 have hb' := heap_sortWorld_b (enc := enc) (m := n) (d := d') (os := os) hlt hh
 have hpc : ∀ (i : Nat) (hi : i < arr.size), (Sort.putCells enc 0 d' arr)[i]? = some (if i < d'.size then enc d'[i]! else arr[i]) := fun i hi => by
  unfold Sort.putCells
  rw [Array.getElem?_mapIdx, Array.getElem?_eq_getElem hi]
  simp
 have hpsz : (Sort.putCells enc 0 d' arr).size = arr.size := by simp [Sort.putCells]
 refine ⟨_, Z, lb, rfl, ⟨o.len, fun i ob hi => ?_, fun i hi => ?_, fun i j o1 o2 c hi hj h1 h2 h3 h4 => ?_, hz'⟩, ⟨[], rfl, rfl⟩, rfl, rfl, ⟨rfl, fun _ => Nat.le_add_right _ _⟩, size_sortWorld, hs', fun _ h => h, fun _ h _ => .inl h, fun k hk => ?_, fun k hk hn => heap_sortWorld hk (fun e => hn 0 (by rw [e]; exact hb)), fun i k h => .inl ⟨i, h⟩, fun _ _ _ h => h⟩
 ·cases i with
  | succ i => simp at hi
  | zero =>
   simp only [List.map_cons, List.map_nil, List.getElem?_cons_zero, Option.some.injEq] at hi
   subst hi
   refine ⟨some b, hb, hzb, Nat.lt_of_lt_of_le hlt size_sortWorld, d'.toList.map fun p => p.1.2, _, ty, fr, ?_, by decide, ?_, hb', ?_, ?_, ?_, ?_⟩
   ·rw [← hres]; exact hdr_down (fun _ h => h) hs' d'.toList
   ·intro y hy
    obtain ⟨p, hp, rfl⟩ := List.mem_map.1 hy
    have hv : p.1.2 ∈ vs := by rw [← hD2]; exact List.mem_map.2 ⟨p, p3.mem_iff.1 hp |> fun h => by simpa using h, rfl⟩
    exact hfit _ hv
   ·rw [hpsz]; exact hfr
   ·intro k u hk j c hc
    rw [List.getElem?_map] at hk
    obtain ⟨p, hp, rfl⟩ := Option.map_eq_some_iff.1 hk
    rw [(he _ _ _ _ p.2).1] at hc
    cases j with
    | succ j => simp at hc
    | zero =>
     simp only [List.getElem?_cons_zero, Option.some.injEq] at hc
     subst hc
     have hkd : k < d'.size := by
      rcases Nat.lt_or_ge k d'.size with h | h
      ·exact h
      ·rw [List.getElem?_eq_none (by simpa using h)] at hp; simp at hp
     rw [Nat.mul_one, Nat.add_zero, hpc k (by have : vs.length * 1 ≤ arr.size := hsz; rw [Array.length_toList] at hl'; omega), if_pos hkd, hget _ _ hkd]
     have : d'.toList[k]? = some d'[k] := by rw [Array.getElem?_toList, Array.getElem?_eq_getElem hkd]
     rw [this] at hp
     simp only [Option.some.injEq] at hp
     rw [← hp]
   ·simp only [List.length_map]; rw [hl', ← hvl]; exact hbig
   ·simp only [List.length_map]; rw [hl', hpsz, ← hvl]; exact hsz
 ·cases i with
  | succ i => simp at hi
  | zero => simp at hi
 ·cases i with
  | succ i => simp at hi
  | zero => cases j with
   | succ j => simp at hj
   | zero => rfl
 ·rcases Nat.decEq k b with h | h
  ·simp only [bsize]; rw [heap_sortWorld hk h]
  ·subst h; rw [bsize_of hb', bsize_of hh, hpsz]
end Go.Ab