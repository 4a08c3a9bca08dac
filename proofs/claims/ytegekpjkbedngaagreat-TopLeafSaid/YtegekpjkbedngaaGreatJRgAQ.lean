/- Contracts of functions of this program, and the plain facts that they rest on. No conditions. -/
import Derived.Test.YtegekpjkbedngaaGreatEnv2
import Derived.Test.YtegekpjkbedngaaGreatAc4
import Derived.Test.YtegekpjkbedngaaGreatJLfE5Q
set_option linter.unusedVariables false
set_option linter.unusedSectionVars false
namespace Go.Proofs.YtegekpjkbedngaaGreat
open Go Go.Ab
attribute [local irreducible] callK callF loopQ vstep vskip pickE hideP
theorem r_rangeH {E : Env} {nb : Nat} {Q : Exit → ASt → Prop} {s : ASt} {g : Operand} {ps : Array Tmp} {assign body : Code} (gf : FuncId) {fnI : Func} {cI : Code} (nI : Nat) (caps : List AV) (keep : List Nat) (ds : List Nat) (cs : List AV) (k : Nat)
  (hg : withV (ev s.t g) fun | .fn f cs => f = gf ∧ cs = caps | .p (.fn f cs) => f = gf ∧ mapP cs = caps | _ => False)
  (hf : E.P.funcs[gf]? = some fnI) (hb : fnI.body = some cI) (hnt : fnI.ntmps = nI) (hres : fnI.results.toList = []) (hname : (fnI.name == "runtime.NumGoroutine") = false) (hle : Nat.ble (caps.length + 1) nI = true)
  (hd : keepD s.t keep = ds) (hv : keepV s.t keep = cs) (hk : lenL s.L = k)
  (h : ∀ l hd, hd.ps = ps → hd.assign = assign → hd.body = body → awp E.P (k + 1) cI (rangeQ k l hd ds cs s.n s.t Q)
   ⟨nI, initA 0 (.p (.v (.func (.yield l) #[] #[])) :: caps), appO s.L [some (.lp l (recO hd .ready none) s.n ds cs)]⟩) : awp E.P nb (.rangeFunc g ps assign body) Q s := by
 subst hd; subst hv; subst hk
 exact r_range gf nI caps keep hg hf hb hnt hres hname hle fun l fn D => h l ⟨fn, ps, assign, body, D⟩ rfl rfl rfl
theorem r_yield4 {E : Env} {nb : Nat} {Q : Exit → ASt → Prop} {s : ASt} {id : Nat} (k l n : Nat) (hd : LoopHd) (ds : List Nat) (cs : List AV) {a0 a1 a2 a3 : Oper} {d0 dd : Nat} {args : Array Operand} {ts : Array TypeId} {ty : TypeId} {pos : String} {af : Array Edge} {q : List Oper}
  (h : VX E (a0 :: a1 :: a2 :: a3 :: ⟨some dd, .call { callee := .value (.tmp d0), args := args, argTypes := ts }, ty, pos, af, none⟩ :: q) [a0, a1, a2, a3] (lenL s.L) { s with L := addL s.L (holesOf (a0 :: a1 :: a2 :: a3 :: ⟨some dd, .call { callee := .value (.tmp d0), args := args, argTypes := ts }, ty, pos, af, none⟩ :: q)) } [] fun s1 _ =>
   yieldK E k l n hd ds cs d0 dd args.toList (fun s2 => VX E (a0 :: a1 :: a2 :: a3 :: ⟨some dd, .call { callee := .value (.tmp d0), args := args, argTypes := ts }, ty, pos, af, none⟩ :: q) q (lenL s.L + holesOf [a0, a1, a2, a3] + slotsOf ⟨some dd, .call { callee := .value (.tmp d0), args := args, argTypes := ts }, ty, pos, af, none⟩) s2 [] (regK false (a0 :: a1 :: a2 :: a3 :: ⟨some dd, .call { callee := .value (.tmp d0), args := args, argTypes := ts }, ty, pos, af, none⟩ :: q) fun s => Q .normal s)) s1) :
  awp E.P nb (.region id (a0 :: a1 :: a2 :: a3 :: ⟨some dd, .call { callee := .value (.tmp d0), args := args, argTypes := ts }, ty, pos, af, none⟩ :: q).toArray false) Q s := r_yield k l n hd ds cs [a0, a1, a2, a3] q h
theorem r_yield7 {E : Env} {nb : Nat} {Q : Exit → ASt → Prop} {s : ASt} {id : Nat} (k l n : Nat) (hd : LoopHd) (ds : List Nat) (cs : List AV) {a0 a1 a2 a3 a4 a5 a6 : Oper} {d0 dd : Nat} {args : Array Operand} {ts : Array TypeId} {ty : TypeId} {pos : String} {af : Array Edge} {q : List Oper}
  (h : VX E (a0 :: a1 :: a2 :: a3 :: a4 :: a5 :: a6 :: ⟨some dd, .call { callee := .value (.tmp d0), args := args, argTypes := ts }, ty, pos, af, none⟩ :: q) [a0, a1, a2, a3, a4, a5, a6] (lenL s.L) { s with L := addL s.L (holesOf (a0 :: a1 :: a2 :: a3 :: a4 :: a5 :: a6 :: ⟨some dd, .call { callee := .value (.tmp d0), args := args, argTypes := ts }, ty, pos, af, none⟩ :: q)) } [] fun s1 _ =>
   yieldK E k l n hd ds cs d0 dd args.toList (fun s2 => VX E (a0 :: a1 :: a2 :: a3 :: a4 :: a5 :: a6 :: ⟨some dd, .call { callee := .value (.tmp d0), args := args, argTypes := ts }, ty, pos, af, none⟩ :: q) q (lenL s.L + holesOf [a0, a1, a2, a3, a4, a5, a6] + slotsOf ⟨some dd, .call { callee := .value (.tmp d0), args := args, argTypes := ts }, ty, pos, af, none⟩) s2 [] (regK false (a0 :: a1 :: a2 :: a3 :: a4 :: a5 :: a6 :: ⟨some dd, .call { callee := .value (.tmp d0), args := args, argTypes := ts }, ty, pos, af, none⟩ :: q) fun s => Q .normal s)) s1) :
  awp E.P nb (.region id (a0 :: a1 :: a2 :: a3 :: a4 :: a5 :: a6 :: ⟨some dd, .call { callee := .value (.tmp d0), args := args, argTypes := ts }, ty, pos, af, none⟩ :: q).toArray false) Q s := r_yield k l n hd ds cs [a0, a1, a2, a3, a4, a5, a6] q h
theorem yield_go {E : Env} {k l n : Nat} {hd : LoopHd} {ds : List Nat} {cs : List AV} {d0 dd : Nat} {args : List Operand} {K : ASt → Prop} {s1 : ASt} {t : Tag K} {ps : Array Tmp} {assign body : Code} (hps : hd.ps = ps) (has : hd.assign = assign) (hbo : hd.body = body)
  (h1 : tget s1.t d0 = some (.p (.v (.func (.yield l) #[] #[])))) (h2 : nth s1.L k = some (some (.lp l (recO hd .ready none) n ds cs))) (h3 : rf assign = true) (h4 : rf body = true) (h5 : Nat.blt dd s1.n = true) (h6 : ltAll n ps.toList = true) (gs : List AV) (h7 : gatherA (ev s1.t) args = some gs) (h8 : ps.toList.length = gs.length)
  (h : awp E.P (lenL s1.L) assign (roundQ1 E k l n hd ds cs dd s1 K) ⟨n, pushT ps.toList gs (zipT ds cs), s1.L⟩) : yieldK E k l n hd ds cs d0 dd args K s1 t := by
 subst hps; subst has; subst hbo
 exact ⟨⟨h1, h2, h3, h4, h5, h6⟩, by rw [h7]; exact ⟨h8, h⟩⟩
theorem round1_go {E : Env} {k l n : Nat} {hd : LoopHd} {ds : List Nat} {cs : List AV} {dd : Nat} {s1 s2 : ASt} {K : ASt → Prop} {t : Tag K} {body : Code} (hbo : hd.body = body) (h2 : nth s2.L k = some (some (.lp l (recO hd .ready none) n ds cs)))
  (h : awp E.P (lenL s1.L) body (roundQ2 E k l n hd ds cs dd s1 K) { n := s2.n, t := s2.t, L := setL s2.L k (some (.lp l (recO hd .busy none) n ds cs)) }) : roundQ1 E k l n hd ds cs dd s1 K .normal s2 t := by
 subst hbo
 exact ⟨rfl, h2, h⟩
theorem round2_go {E : Env} {k l n : Nat} {hd : LoopHd} {ds : List Nat} {cs : List AV} {dd : Nat} {s1 s3 : ASt} {K : ASt → Prop} {t : Tag K} (h2 : nth s3.L k = some (some (.lp l (recO hd .busy none) n ds cs)))
  (h : K { n := s1.n, t := (dd, some (.p (.v (.bool true)))) :: s1.t, L := setL s3.L k (some (.lp l (recO hd .ready none) n ds cs)) }) : roundQ2 E k l n hd ds cs dd s1 K .normal s3 t := ⟨h2, h⟩
theorem range_end {k l : Nat} {hd : LoopHd} {ds : List Nat} {cs : List AV} {n : Nat} {t : List (Nat × Option AV)} {Q : Exit → ASt → Prop} {ex : Exit} {s' : ASt} {tg : Tag Q} (he : ex = .normal ∨ ex = .ret) (h1 : nth s'.L k = some (some (.lp l (recO hd .ready none) n ds cs)))
  (h : Q .normal ⟨n, t, setL s'.L k (some .dead)⟩) : rangeQ k l hd ds cs n t Q ex s' tg := ⟨he, .ready, none, h1, by simp, h⟩
end Go.Proofs.YtegekpjkbedngaaGreat
set_option linter.unusedSimpArgs false
namespace Go.Proofs.YtegekpjkbedngaaGreat
set_option maxHeartbeats 4000000
set_option maxRecDepth 100000
open Go Go.Ab
attribute [local irreducible] callK callF loopQ vstep vskip pickE hideP
attribute [local go_sem] coO eNd eU deO peO cuO liO thO hiO noO eWr
def lfO (a : Nat) : Ob := .var [.ifc 43 (.loc 9 0), .p (eP a)]
attribute [local go_sem] lfO eP pushT zipT
theorem kAll (A : Dv) (J : JT) (a : Nat) : ACalls Tryz.prog 40 [.agg [.ifc 43 (.loc 9 0), .p (eP a)], .p (.v (.int .u64 0))] [deO A 1 2 3 4, peO A, cuO A, liO A J 12, thO A 0 0 20, thO A 1 0 20, thO A 2 0 20, thO A 3 0 20, thO A 4 0 20, thO A 5 0 20, thO A 6 0 20, thO A 7 0 20, hiO A J 0, hiO A J 1, hiO A J 2, hiO A J 3, hiO A J 4, hiO A J 5, hiO A J 6, hiO A J 7, noO A 0, noO A 1, noO A 2, noO A 3, noO A 4, noO A 5, noO A 6, noO A 7] (.fn 56 [.loc 28 0, .loc 29 0]) [deO A 1 2 3 4, peO A, cuO A, liO A J 12, thO A 0 0 20, thO A 1 0 20, thO A 2 0 20, thO A 3 0 20, thO A 4 0 20, thO A 5 0 20, thO A 6 0 20, thO A 7 0 20, hiO A J 0, hiO A J 1, hiO A J 2, hiO A J 3, hiO A J 4, hiO A J 5, hiO A J 6, hiO A J 7, noO A 0, noO A 1, noO A 2, noO A 3, noO A 4, noO A 5, noO A 6, noO A 7, lfO a, .var [.p (.v (.int .u64 0))]] := by
 refine yA (E := E) (fn := Tryz.f40) 6 [.tmp 4] rfl rfl rfl rfl (by decide) rfl rfl ?_
 repeat' (first
  | (with_reducible first | apply zY | apply zT | apply zM | apply zN | apply zO | refine chk_ok (by kernel_rfl) ?_)
  | ((with_reducible first | apply zP | apply zQ | apply zR | apply zL) <;> intro h <;> try (exfalso; first | omega | exact h rfl | (revert h; decide) | (cases h; done)))
  | ((with_reducible show False); omega)
  | ((first | (with_reducible first | apply zW | apply zV | apply zU | apply zS | apply zX | show VX _ _ _ _ _ _ _ | show vstep _ _ _ _ _ | show vskip _ _ _ | show withV _ _) | ((with_reducible show endA _ _ _ _ _ _ _); simp -implicitDefEqProofs only [endA]) | (with_reducible first | refine zB default (by first | omega | (simp only [LN]; omega)) (by first | omega | (simp only [LN]; omega)) ?_ | refine zC default (by first | omega | (simp only [LN]; omega)) ?_ | refine And.intro (by first | decide | omega | assumption | (simp only [LN]; omega)) ?_) | ((with_reducible show pickE _ _ _); first | refine zA _ ⟨by omega, by rfl⟩ ?_ | refine zA _ (by rfl) ?_) | fail); try simp -dsimp -implicitDefEqProofs (maxSteps := 1000000) (disch := first | omega | (simp only [LN]; omega)) only [go_sem])
  | fail)
 all_goals first | rfl
theorem kLfAt5 (A : Dv) (J : JT) (a : Nat) : ACalls Tryz.prog 11 [.ifc 43 (.loc 9 0), .p (eP a)] [deO A 1 2 3 4, peO A, cuO A, liO A J 12, thO A 0 0 20, thO A 1 0 20, thO A 2 0 20, thO A 3 0 20, thO A 4 0 20, thO A 5 0 20, thO A 6 0 20, thO A 7 0 20, hiO A J 0, hiO A J 1, hiO A J 2, hiO A J 3, hiO A J 4, hiO A J 5, hiO A J 6, hiO A J 7, noO A 0, noO A 1, noO A 2, noO A 3, noO A 4, noO A 5, noO A 6, noO A 7] (.agg [.ifc 43 (.loc 9 0), .p (eP a)]) [deO A 1 2 3 4, peO A, cuO A, liO A J 12, thO A 0 0 20, thO A 1 0 20, thO A 2 0 20, thO A 3 0 20, thO A 4 0 20, thO A 5 0 20, thO A 6 0 20, thO A 7 0 20, hiO A J 0, hiO A J 1, hiO A J 2, hiO A J 3, hiO A J 4, hiO A J 5, hiO A J 6, hiO A J 7, noO A 0, noO A 1, noO A 2, noO A 3, noO A 4, noO A 5, noO A 6, noO A 7] := by
 refine yA (E := E) (fn := Tryz.f11) 8 [.cell 4 48] rfl rfl rfl rfl (by decide) rfl rfl ?_
 repeat' (first
  | (with_reducible first | apply zY | apply zT | apply zM | apply zN | apply zO | refine chk_ok (by kernel_rfl) ?_)
  | ((with_reducible first | apply zP | apply zQ | apply zR | apply zL) <;> intro h <;> try (exfalso; first | omega | exact h rfl | (revert h; decide) | (cases h; done)))
  | ((with_reducible show False); omega)
  | ((first | (with_reducible first | apply zW | apply zV | apply zU | apply zS | apply zX | show VX _ _ _ _ _ _ _ | show vstep _ _ _ _ _ | show vskip _ _ _ | show withV _ _) | ((with_reducible show endA _ _ _ _ _ _ _); simp -implicitDefEqProofs only [endA]) | (with_reducible first | refine zB default (by first | omega | (simp only [LN]; omega)) (by first | omega | (simp only [LN]; omega)) ?_ | refine zC default (by first | omega | (simp only [LN]; omega)) ?_ | refine And.intro (by first | decide | omega | assumption | (simp only [LN]; omega)) ?_) | ((with_reducible show pickE _ _ _); first | refine zA _ ⟨by omega, by rfl⟩ ?_ | refine zA _ (by rfl) ?_) | fail); try simp -dsimp -implicitDefEqProofs (maxSteps := 1000000) (disch := first | omega | (simp only [LN]; omega)) only [go_sem])
  | fail)
 all_goals first | rfl
def entN (W : Nat → Int) (sl : List Nat) : List En := sl.map fun s => (W (4 + s), W (16 + s))
theorem kCLeaf (A : Dv) (J : JT) (hr : Rd A 5) (a : Nat) (ha : a < 30) (W : Nat → Int) (sl : List Nat) (c : Nat) (hn : Nd A a W sl c) : ACalls Tryz.prog 17 [.loc 0 0, .p (eP a)] [deO A 1 2 3 4, peO A, cuO A, liO A J 12, thO A 0 0 20, thO A 1 0 20, thO A 2 0 20, thO A 3 0 20, thO A 4 0 20, thO A 5 0 20, thO A 6 0 20, thO A 7 0 20, hiO A J 0, hiO A J 1, hiO A J 2, hiO A J 3, hiO A J 4, hiO A J 5, hiO A J 6, hiO A J 7, noO A 0, noO A 1, noO A 2, noO A 3, noO A 4, noO A 5, noO A 6, noO A 7] (.tup [.p (.view 2 ((entN W sl).map eWr)), .p (.v (.bool true))]) [deO A 1 2 3 4, peO A, cuO A, liO A J 12, thO A 0 0 20, thO A 1 0 20, thO A 2 0 20, thO A 3 0 20, thO A 4 0 20, thO A 5 0 20, thO A 6 0 20, thO A 7 0 20, hiO A J 0, hiO A J 1, hiO A J 2, hiO A J 3, hiO A J 4, hiO A J 5, hiO A J 6, hiO A J 7, noO A 0, noO A 1, noO A 2, noO A 3, noO A 4, noO A 5, noO A 6, noO A 7] := by
 refine yA (E := E) (fn := Tryz.f17) 36 [.tmp 4, .tmp 5] rfl rfl rfl rfl (by decide) rfl rfl ?_
 have k1 := dThread6 A J 5 (by omega)
 have k2 := kLfAt5 A J a
 have k3 := kAll A J a
 have k4 := kRead5 A J hr a ha W sl c hn
 have k5 := kFind W sl (c % 4096) hn.so 0 0 ⟨Nat.zero_le _, fun j hj => absurd hj (by omega), fun h0 => (hn.hv _ (by have := sl_digit hn.so h0; omega)).1⟩
 repeat' (first
  | (with_reducible first | apply zY | apply zT | apply zM | apply zN | apply zO | refine chk_ok (by kernel_rfl) ?_)
  | ((with_reducible first | apply zP | apply zQ | apply zR | apply zL) <;> intro h <;> try (exfalso; first | omega | exact h rfl | (revert h; decide) | (cases h; done)))
  | ((with_reducible show False); omega)
  | ((first | (with_reducible first | apply zW | apply zV | apply zU | apply zS | apply zX | show VX _ _ _ _ _ _ _ | show vstep _ _ _ _ _ | show vskip _ _ _ | show withV _ _) | ((with_reducible show endA _ _ _ _ _ _ _); simp -implicitDefEqProofs only [endA]) | (with_reducible first | refine zB default (by first | omega | (simp only [LN]; omega)) (by first | omega | (simp only [LN]; omega)) ?_ | refine zC default (by first | omega | (simp only [LN]; omega)) ?_ | refine And.intro (by first | decide | omega | assumption | (simp only [LN]; omega)) ?_) | (with_reducible first | apply zG | apply zH | apply zI | apply hidePI_own) | ((with_reducible apply zJ); (first | exact k1 | exact k2 | exact k3 | fail)) | ((with_reducible show pickE _ _ _); first | refine zA _ ⟨by omega, by rfl⟩ ?_ | refine zA _ (by rfl) ?_) | fail); try simp -dsimp -implicitDefEqProofs (maxSteps := 1000000) (disch := first | omega | (simp only [LN]; omega)) only [go_sem])
  | fail)
 refine r_weak (s' := ⟨36, [(6, some (.loc 28 0)), (7, some (.loc 29 0)), (16, some (.fn 56 [.loc 30 0, .loc 31 0]))], [some (deO A 1 2 3 4), some (peO A), some (cuO A), some (liO A J 12), some (thO A 0 0 20), some (thO A 1 0 20), some (thO A 2 0 20), some (thO A 3 0 20), some (thO A 4 0 20), some (thO A 5 0 20), some (thO A 6 0 20), some (thO A 7 0 20), some (hiO A J 0), some (hiO A J 1), some (hiO A J 2), some (hiO A J 3), some (hiO A J 4), some (hiO A J 5), some (hiO A J 6), some (hiO A J 7), some (noO A 0), some (noO A 1), some (noO A 2), some (noO A 3), some (noO A 4), some (noO A 5), some (noO A 6), some (noO A 7), some (lfO a), some (.var [.p (.v (.slice none 0 0))]), some (lfO a), some (.var [.p (.v (.int .u64 0))])]⟩) (wk_auto ?_) ?_
 ·simp -dsimp -implicitDefEqProofs (maxSteps := 1000000) (disch := first | omega | (simp only [LN]; omega)) only [go_sem]
 refine r_rangeH 56 (fnI := Tryz.f56) 39 [.loc 30 0, .loc 31 0] [7] [7] [.loc 29 0] 32 ?_ rfl rfl rfl rfl rfl rfl rfl rfl rfl fun l hd hps has hbo => ?_
 ·simp -dsimp -implicitDefEqProofs (maxSteps := 1000000) (disch := first | omega | (simp only [LN]; omega)) only [go_sem]
 ·simp -dsimp -implicitDefEqProofs (maxSteps := 1000000) (disch := first | omega | (simp only [LN]; omega)) only [go_sem]
  repeat' (first
   | (with_reducible first | apply zY | apply zT | apply zM | apply zN | apply zO | refine chk_ok (by kernel_rfl) ?_)
   | ((with_reducible first | apply zP | apply zQ | apply zR | apply zL) <;> intro h <;> try (exfalso; first | omega | exact h rfl | (revert h; decide) | (cases h; done)))
   | ((with_reducible show False); omega)
   | ((first | (with_reducible first | apply zW | apply zV | apply zU | apply zS | apply zX | show VX _ _ _ _ _ _ _ | show vstep _ _ _ _ _ | show vskip _ _ _ | show withV _ _) | ((with_reducible show endA _ _ _ _ _ _ _); simp -implicitDefEqProofs only [endA]) | (with_reducible first | refine zB default (by first | omega | (simp only [LN]; omega)) (by first | omega | (simp only [LN]; omega)) ?_ | refine zC default (by first | omega | (simp only [LN]; omega)) ?_ | refine And.intro (by first | decide | omega | assumption | (simp only [LN]; omega)) ?_) | (with_reducible first | apply zG | apply zH | apply zI | apply hidePI_own) | ((with_reducible apply zJ); (first | exact k4 | exact k5 | fail)) | ((with_reducible show pickE _ _ _); first | refine zA _ ⟨by omega, by rfl⟩ ?_ | refine zA _ (by rfl) ?_) | fail); try simp -dsimp -implicitDefEqProofs (maxSteps := 1000000) (disch := first | omega | (simp only [LN]; omega)) only [go_sem])
   | fail)
  refine r_loop (α := Nat) (fun i => ⟨39, [(0, some (.p (.v (.func (.yield l) #[] #[])))), (4, some (.loc 33 0)), (6, some (.p (.v (.int .i64 i))))], [some (deO A 1 2 3 4), some (peO A), some (cuO A), some (liO A J 12), some (thO A 0 0 20), some (thO A 1 0 20), some (thO A 2 0 20), some (thO A 3 0 20), some (thO A 4 0 20), some (thO A 5 0 20), some (thO A 6 0 20), some (thO A 7 0 20), some (hiO A J 0), some (hiO A J 1), some (hiO A J 2), some (hiO A J 3), some (hiO A J 4), some (hiO A J 5), some (hiO A J 6), some (hiO A J 7), some (noO A 0), some (noO A 1), some (noO A 2), some (noO A 3), some (noO A 4), some (noO A 5), some (noO A 6), some (noO A 7), some (lfO a), some (.var [.sl 34 2 0 i]), some (lfO a), some (.var [.p (.v (.int .u64 0))]), some (.lp l (recO hd .ready none) 36 [7] [.loc 29 0]), some (coO W sl (c % 4096)), some (.arr 2 (((entN W sl).take i).map eWr))]⟩)
   (fun i => i ≤ sl.length) (fun i => sl.length - i) 0 (Nat.zero_le _) ?_ ?_
  ·refine wk_auto ?_
   simp -dsimp -implicitDefEqProofs (maxSteps := 1000000) (disch := first | omega | (simp only [LN]; omega)) only [go_sem]
  ·intro i hi
   have h2 := hn.so.2.2
   have w3 : IntKind.i64.wrap ((i : Int) + 1) = ((i + 1 : Nat) : Int) := by rw [IntKind.wrap_i64]; push_cast; omega
   by_cases hi2 : i < sl.length
   ·have q1 := kKey W sl (c % 4096) hn.so i hi2
    have q2 := kVal W sl (c % 4096) hn.so i hi2
    have hes : (entN W sl).take (i + 1) = (entN W sl).take i ++ [(W (4 + sl.getD i default), W (16 + sl.getD i default))] := by
     rw [yE default (by rw [entN, List.length_map]; exact hi2), entN, List.getD_eq_getElem?_getD, List.getElem?_map, List.getD_eq_getElem?_getD, List.getElem?_eq_getElem hi2]; rfl
    have hel : ((entN W sl).take i).length = i := by rw [List.length_take, entN, List.length_map]; omega
    repeat' ((fail_if_success (with_reducible show awp _ _ (Code.region 5 _ _) _ _)); first
     | (with_reducible first | apply zY | apply zT | apply zM | apply zN | apply zO | refine chk_ok (by kernel_rfl) ?_)
     | ((with_reducible first | apply zP | apply zQ | apply zR | apply zL) <;> intro h <;> try (exfalso; first | omega | exact h rfl | (revert h; decide) | (cases h; done)))
     | ((with_reducible show False); omega)
     | ((first | (with_reducible first | apply zW | apply zV | apply zU | apply zS | apply zX | show VX _ _ _ _ _ _ _ | show vstep _ _ _ _ _ | show vskip _ _ _ | show withV _ _) | ((with_reducible show endA _ _ _ _ _ _ _); simp -implicitDefEqProofs only [endA]) | (with_reducible first | refine zB default (by first | omega | (simp only [LN]; omega)) (by first | omega | (simp only [LN]; omega)) ?_ | refine zC default (by first | omega | (simp only [LN]; omega)) ?_ | refine And.intro (by first | decide | omega | assumption | (simp only [LN]; omega)) ?_) | ((with_reducible show pickE _ _ _); first | refine zA _ ⟨by omega, by rfl⟩ ?_ | refine zA _ (by rfl) ?_) | fail); try simp -dsimp -implicitDefEqProofs (maxSteps := 1000000) (disch := first | omega | (simp only [LN]; omega)) only [go_sem])
     | fail)
    refine r_yield7 32 l 36 hd [7] [.loc 29 0] ?_
    simp -dsimp -implicitDefEqProofs (maxSteps := 1000000) (disch := first | omega | (simp only [LN]; omega)) only [go_sem]
    repeat' (first
     | (with_reducible first | apply zY | apply zT | apply zM | apply zN | apply zO | refine chk_ok (by kernel_rfl) ?_)
     | ((with_reducible first | apply zP | apply zQ | apply zR | apply zL) <;> intro h <;> try (exfalso; first | omega | exact h rfl | (revert h; decide) | (cases h; done)))
     | ((with_reducible show False); omega)
     | ((first | (with_reducible first | apply zW | apply zV | apply zU | apply zS | apply zX | show VX _ _ _ _ _ _ _ | show vstep _ _ _ _ _ | show vskip _ _ _ | show withV _ _) | ((with_reducible show endA _ _ _ _ _ _ _); simp -implicitDefEqProofs only [endA]) | (with_reducible first | refine zB default (by first | omega | (simp only [LN]; omega)) (by first | omega | (simp only [LN]; omega)) ?_ | refine zC default (by first | omega | (simp only [LN]; omega)) ?_ | refine And.intro (by first | decide | omega | assumption | (simp only [LN]; omega)) ?_) | (with_reducible first | apply zG | apply zH | apply zI | apply hidePI_own) | ((with_reducible apply zJ); (first | exact q1 | exact q2 | fail)) | ((with_reducible show pickE _ _ _); first | refine zA _ ⟨by omega, by rfl⟩ ?_ | refine zA _ (by rfl) ?_) | fail); try simp -dsimp -implicitDefEqProofs (maxSteps := 1000000) (disch := first | omega | (simp only [LN]; omega)) only [go_sem])
     | fail)
    refine yield_go hps has hbo rfl rfl rfl rfl rfl rfl _ rfl rfl ?_
    simp -dsimp -implicitDefEqProofs (maxSteps := 1000000) (disch := first | omega | (simp only [LN]; omega)) only [go_sem]
    repeat' (first
     | (with_reducible first | apply zY | apply zT | apply zM | apply zN | apply zO | refine chk_ok (by kernel_rfl) ?_)
     | ((with_reducible first | apply zP | apply zQ | apply zR | apply zL) <;> intro h <;> try (exfalso; first | omega | exact h rfl | (revert h; decide) | (cases h; done)))
     | ((with_reducible show False); omega)
     | ((first | (with_reducible first | apply zW | apply zV | apply zU | apply zS | apply zX | show VX _ _ _ _ _ _ _ | show vstep _ _ _ _ _ | show vskip _ _ _ | show withV _ _) | ((with_reducible show endA _ _ _ _ _ _ _); simp -implicitDefEqProofs only [endA]) | (with_reducible first | refine zB default (by first | omega | (simp only [LN]; omega)) (by first | omega | (simp only [LN]; omega)) ?_ | refine zC default (by first | omega | (simp only [LN]; omega)) ?_ | refine And.intro (by first | decide | omega | assumption | (simp only [LN]; omega)) ?_) | ((with_reducible show pickE _ _ _); first | refine zA _ ⟨by omega, by rfl⟩ ?_ | refine zA _ (by rfl) ?_) | fail); try simp -dsimp -implicitDefEqProofs (maxSteps := 1000000) (disch := first | omega | (simp only [LN]; omega)) only [go_sem])
     | fail)
    clear k1 k2 k3 k4 k5 q1 q2
    refine round1_go hbo (by rfl) ?_
    have hln : (entN W sl).length = sl.length := by rw [entN, List.length_map]
    simp -dsimp -implicitDefEqProofs (maxSteps := 1000000) (disch := first | omega | (simp only [LN]; omega)) only [go_sem]
    repeat' (first
     | (with_reducible first | apply zY | apply zT | apply zM | apply zN | apply zO | refine chk_ok (by kernel_rfl) ?_)
     | ((with_reducible first | apply zP | apply zQ | apply zR | apply zL) <;> intro h <;> try (exfalso; first | omega | exact h rfl | (revert h; decide) | (cases h; done)))
     | ((with_reducible show False); omega)
     | ((first | (with_reducible first | apply zW | apply zV | apply zU | apply zS | apply zX | show VX _ _ _ _ _ _ _ | show vstep _ _ _ _ _ | show vskip _ _ _ | show withV _ _) | ((with_reducible show endA _ _ _ _ _ _ _); simp -implicitDefEqProofs only [endA]) | (with_reducible first | refine zB default (by first | omega | (simp only [LN, hln]; omega)) (by first | omega | (simp only [LN, hln]; omega)) ?_ | refine zC default (by first | omega | (simp only [LN, hln]; omega)) ?_ | refine And.intro (by first | decide | omega | assumption | (simp only [LN, hln]; omega)) ?_) | ((with_reducible show pickE _ _ _); first | refine zA _ ⟨by omega, by rfl⟩ ?_ | refine zA _ (by rfl) ?_) | fail); try simp -dsimp -implicitDefEqProofs (maxSteps := 1000000) (disch := first | omega | (simp only [LN, hln]; omega)) only [go_sem, hln])
     | fail)
    refine round2_go (by rfl) ?_
    simp -dsimp -implicitDefEqProofs (maxSteps := 1000000) (disch := first | omega | (simp only [LN]; omega)) only [go_sem]
    repeat' (first
     | (with_reducible first | apply zY | apply zT | apply zM | apply zN | apply zO | refine chk_ok (by kernel_rfl) ?_)
     | ((with_reducible first | apply zP | apply zQ | apply zR | apply zL) <;> intro h <;> try (exfalso; first | omega | exact h rfl | (revert h; decide) | (cases h; done)))
     | ((with_reducible show False); omega)
     | ((first | (with_reducible first | apply zW | apply zV | apply zU | apply zS | apply zX | show VX _ _ _ _ _ _ _ | show vstep _ _ _ _ _ | show vskip _ _ _ | show withV _ _) | ((with_reducible show endA _ _ _ _ _ _ _); simp -implicitDefEqProofs only [endA]) | (with_reducible first | refine zB default (by first | omega | (simp only [LN]; omega)) (by first | omega | (simp only [LN]; omega)) ?_ | refine zC default (by first | omega | (simp only [LN]; omega)) ?_ | refine And.intro (by first | decide | omega | assumption | (simp only [LN]; omega)) ?_) | ((with_reducible show pickE _ _ _); first | refine zA _ ⟨by omega, by rfl⟩ ?_ | refine zA _ (by rfl) ?_) | fail); try simp -dsimp -implicitDefEqProofs (maxSteps := 1000000) (disch := first | omega | (simp only [LN]; omega)) only [go_sem])
     | fail)
    all_goals first | omega | ((refine zZ (i + 1) ?_ ?_ ?_; (omega); (show _ < _; omega); (simp -dsimp -implicitDefEqProofs (maxSteps := 1000000) (disch := first | omega | (simp only [LN, w3, hes, hln, List.map_append]; omega)) only [go_sem, w3, hes, hln, List.map_append]; try trivial)))
   ·obtain rfl : i = sl.length := by omega
    repeat' (first
     | (with_reducible first | apply zY | apply zT | apply zM | apply zN | apply zO | refine chk_ok (by kernel_rfl) ?_)
     | ((with_reducible first | apply zP | apply zQ | apply zR | apply zL) <;> intro h <;> try (exfalso; first | omega | exact h rfl | (revert h; decide) | (cases h; done)))
     | ((with_reducible show False); omega)
     | ((first | (with_reducible first | apply zW | apply zV | apply zU | apply zS | apply zX | show VX _ _ _ _ _ _ _ | show vstep _ _ _ _ _ | show vskip _ _ _ | show withV _ _) | ((with_reducible show endA _ _ _ _ _ _ _); simp -implicitDefEqProofs only [endA]) | (with_reducible first | refine zB default (by first | omega | (simp only [LN]; omega)) (by first | omega | (simp only [LN]; omega)) ?_ | refine zC default (by first | omega | (simp only [LN]; omega)) ?_ | refine And.intro (by first | decide | omega | assumption | (simp only [LN]; omega)) ?_) | ((with_reducible show pickE _ _ _); first | refine zA _ ⟨by omega, by rfl⟩ ?_ | refine zA _ (by rfl) ?_) | fail); try simp -dsimp -implicitDefEqProofs (maxSteps := 1000000) (disch := first | omega | (simp only [LN]; omega)) only [go_sem])
     | fail)
    have k6 := kCheck5 A J hr a ha W sl c hn
    have k7 := kLen5 A J hr a ha W sl c hn
    have het : (entN W sl).take sl.length = entN W sl := List.take_of_length_le (by rw [entN, List.length_map]; exact Nat.le_refl _)
    have hel : (entN W sl).length = sl.length := by rw [entN, List.length_map]
    refine range_end (.inl rfl) rfl ?_
    simp -dsimp -implicitDefEqProofs (maxSteps := 1000000) (disch := first | omega | (simp only [LN]; omega)) only [go_sem]
    repeat' (first
     | (with_reducible first | apply zY | apply zT | apply zM | apply zN | apply zO | refine chk_ok (by kernel_rfl) ?_)
     | ((with_reducible first | apply zP | apply zQ | apply zR | apply zL) <;> intro h <;> try (exfalso; first | omega | exact h rfl | (revert h; decide) | (cases h; done)))
     | ((with_reducible show False); omega)
     | ((first | (with_reducible first | apply zW | apply zV | apply zU | apply zS | apply zX | show VX _ _ _ _ _ _ _ | show vstep _ _ _ _ _ | show vskip _ _ _ | show withV _ _) | ((with_reducible show endA _ _ _ _ _ _ _); simp -implicitDefEqProofs only [endA]) | (with_reducible first | refine zB default (by first | omega | (simp only [LN, het, hel]; omega)) (by first | omega | (simp only [LN, het, hel]; omega)) ?_ | refine zC default (by first | omega | (simp only [LN, het, hel]; omega)) ?_ | refine And.intro (by first | decide | omega | assumption | (simp only [LN, het, hel]; omega)) ?_) | (with_reducible first | apply zG | apply zH | apply zI | apply hidePI_own) | ((with_reducible apply zJ); (first | exact k6 | exact k7 | fail)) | ((with_reducible show pickE _ _ _); first | refine zA _ ⟨by omega, by rfl⟩ ?_ | refine zA _ (by rfl) ?_) | fail); try simp -dsimp -implicitDefEqProofs (maxSteps := 1000000) (disch := first | omega | (simp only [LN, het, hel]; omega)) only [go_sem, het, hel])
     | fail)
    all_goals first | omega | (simp; done)
end Go.Proofs.YtegekpjkbedngaaGreat
namespace Go.Proofs.YtegekpjkbedngaaGreat
open Go Go.Ab
attribute [local irreducible] callK callF loopQ vstep vskip pickE hideP
set_option maxRecDepth 100000
def vw (ws : List Int) (a i : Nat) : Int := ws.getD (a + 1 + i) 0
structure NW (ws : List Int) (a : Nat) (sl : List Nat) (c : Nat) : Prop where
 w0 : vw ws a 0 = (perm sl c : Nat)
 w1 : vw ws a 1 = 0
 w2 : vw ws a 2 = 0
 w3 : vw ws a 3 = 0
 so : Sl sl
 srt : sl.Pairwise fun x y => vw ws a (4 + x) < vw ws a (4 + y)
 hv : ∀ i, i < 28 → 0 ≤ vw ws a i ∧ vw ws a i ≤ 18446744073709551615
theorem NW.nd {A : Dv} {a : Nat} {sl : List Nat} {c : Nat} (h : NW A.cur a sl c) : Nd A a (vw A.cur a) sl c := by
 refine ⟨fun i _ => rfl, h.w0, h.w1, h.w2, h.w3, h.so, fun i hi => ?_, h.hv⟩
 have := (List.pairwise_iff_getElem.1 h.srt) i (i + 1) (by omega) hi (by omega)
 rw [List.getD_eq_getElem?_getD, List.getD_eq_getElem?_getD, List.getElem?_eq_getElem (show i < sl.length by omega), List.getElem?_eq_getElem hi]
 exact this
theorem vw_set {ws : List Int} {a q : Nat} {v : Int} (h : a + 1 + q < ws.length) (i : Nat) : vw (ws.set (a + 1 + q) v) a i = if i = q then v else vw ws a i := by
 unfold vw
 rw [List.getD_eq_getElem?_getD, List.getElem?_set]
 by_cases e : i = q
 ·rw [if_pos (by omega), if_pos h, if_pos e]; rfl
 ·rw [if_neg (by omega), if_neg e, ← List.getD_eq_getElem?_getD]
theorem entN_congr {W W' : Nat → Int} {sl : List Nat} (h : ∀ s, s ∈ sl → W (4 + s) = W' (4 + s) ∧ W (16 + s) = W' (16 + s)) : entN W sl = entN W' sl := by
 unfold entN
 refine List.map_congr_left fun s hs => ?_
 rw [(h s hs).1, (h s hs).2]
theorem NW.other {ws ws' : List Int} {a : Nat} {sl : List Nat} {c fr : Nat} (h : NW ws a sl c) (hf : fr ∉ sl) (hlt : fr < 12) (hv : ∀ i, i < 28 → 0 ≤ vw ws' a i ∧ vw ws' a i ≤ 18446744073709551615) (he : ∀ i, i < 28 → i ≠ 4 + fr → i ≠ 16 + fr → vw ws' a i = vw ws a i) :
  NW ws' a sl c ∧ entN (vw ws' a) sl = entN (vw ws a) sl := by
 have key : ∀ s, s ∈ sl → vw ws' a (4 + s) = vw ws a (4 + s) ∧ vw ws' a (16 + s) = vw ws a (16 + s) := by
  intro s hs
  have h1 := h.so.2.1 s hs
  have h2 : s ≠ fr := fun e => hf (e ▸ hs)
  exact ⟨he _ (by omega) (by omega) (by omega), he _ (by omega) (by omega) (by omega)⟩
 refine ⟨⟨by rw [he 0 (by omega) (by omega) (by omega)]; exact h.w0, by rw [he 1 (by omega) (by omega) (by omega)]; exact h.w1, by rw [he 2 (by omega) (by omega) (by omega)]; exact h.w2, by rw [he 3 (by omega) (by omega) (by omega)]; exact h.w3, h.so, ?_, hv⟩, entN_congr key⟩
 refine h.srt.imp_of_mem fun {x y} hx hy hxy => ?_
 rw [(key x hx).1, (key y hy).1]; exact hxy
theorem NW.order {ws : List Int} {a : Nat} {sl sl' : List Nat} {c c' : Nat} (h : NW ws a sl c) (hl : a + 1 < ws.length) (hs : Sl sl') (hp : sl'.Pairwise fun x y => vw ws a (4 + x) < vw ws a (4 + y)) :
  NW (ws.set (a + 1) (perm sl' c' : Nat)) a sl' c' ∧ entN (vw (ws.set (a + 1) (perm sl' c' : Nat)) a) sl' = entN (vw ws a) sl' := by
 have hq := vw_set (ws := ws) (a := a) (q := 0) (v := (perm sl' c' : Nat)) hl
 have hlt := perm_lt hs c'
 rw [Nat.add_zero] at hq
 have hn : ∀ i, i ≠ 0 → vw (ws.set (a + 1) (perm sl' c' : Nat)) a i = vw ws a i := fun i hi => by rw [hq, if_neg hi]
 refine ⟨⟨by rw [hq, if_pos rfl], by rw [hn 1 (by omega)]; exact h.w1, by rw [hn 2 (by omega)]; exact h.w2, by rw [hn 3 (by omega)]; exact h.w3, hs, ?_, fun i hi => ?_⟩, entN_congr fun s _ => ⟨hn _ (by omega), hn _ (by omega)⟩⟩
 ·refine hp.imp fun {x y} hxy => ?_
  rw [hn _ (by omega), hn _ (by omega)]; exact hxy
 ·rw [hq]; split
  ·omega
  ·exact h.hv i hi
theorem NW.value {ws : List Int} {a : Nat} {p q : List Nat} {s : Nat} {c : Nat} {v : Int} (h : NW ws a (p ++ s :: q) c) (hl : a + 1 + (16 + s) < ws.length) (hv : 0 ≤ v ∧ v ≤ 18446744073709551615) :
  NW (ws.set (a + 1 + (16 + s)) v) a (p ++ s :: q) c ∧ entN (vw (ws.set (a + 1 + (16 + s)) v) a) (p ++ s :: q) = entN (vw ws a) p ++ (vw ws a (4 + s), v) :: entN (vw ws a) q := by
 have hq := vw_set (v := v) hl
 have hs12 : ∀ x, x ∈ p ++ s :: q → x < 12 := h.so.2.1
 have hnd := h.so.1
 have hk : ∀ x, x < 12 → vw (ws.set (a + 1 + (16 + s)) v) a (4 + x) = vw ws a (4 + x) := fun x hx => by rw [hq, if_neg (by omega)]
 have hvv : ∀ x, x ≠ s → vw (ws.set (a + 1 + (16 + s)) v) a (16 + x) = vw ws a (16 + x) := fun x hx => by rw [hq, if_neg (by omega)]
 rw [List.nodup_append] at hnd
 obtain ⟨_, n2, n3⟩ := hnd
 have hsp : s ∉ p := fun hp => n3 s hp s List.mem_cons_self rfl
 have hsq : s ∉ q := (List.nodup_cons.1 n2).1
 refine ⟨⟨by rw [hq, if_neg (by omega)]; exact h.w0, by rw [hq, if_neg (by omega)]; exact h.w1, by rw [hq, if_neg (by omega)]; exact h.w2, by rw [hq, if_neg (by omega)]; exact h.w3, h.so, ?_, fun i hi => ?_⟩, ?_⟩
 ·refine h.srt.imp_of_mem fun {x y} hx hy hxy => ?_
  rw [hk x (hs12 x hx), hk y (hs12 y hy)]; exact hxy
 ·rw [hq]; split
  ·exact hv
  ·exact h.hv i hi
 ·have e1 : entN (vw (ws.set (a + 1 + (16 + s)) v) a) p = entN (vw ws a) p := entN_congr fun x hx => ⟨hk x (hs12 x (List.mem_append_left _ hx)), hvv x fun e => hsp (e ▸ hx)⟩
  have e2 : entN (vw (ws.set (a + 1 + (16 + s)) v) a) q = entN (vw ws a) q := entN_congr fun x hx => ⟨hk x (hs12 x (List.mem_append_right _ (List.mem_cons_of_mem _ hx))), hvv x fun e => hsq (e ▸ hx)⟩
  rw [entN, List.map_append, List.map_cons]
  show entN _ p ++ (_, _) :: entN _ q = _
  rw [e1, e2, hk s (hs12 s (by simp)), hq, if_pos rfl]
theorem sF_lt (key v : Int) : ∀ (l s : List En), (∀ e, e ∈ l → e.1 < key) → l.foldl (stS key v) (s, false) = (s ++ l, false)
 | [], s, _ => by simp
 | e :: l, s, h => by
  have h1 := h e List.mem_cons_self
  rw [List.foldl_cons, show stS key v (s, false) e = (s ++ [e], false) from by
   simp [stS, show ¬ e.1 = key by omega, show ¬ key ≤ e.1 by omega], sF_lt key v l _ fun x hx => h x (List.mem_cons_of_mem _ hx), List.append_assoc]; rfl
theorem sF_gt (key v : Int) : ∀ (l s : List En), (∀ e, e ∈ l → key < e.1) → l.foldl (stS key v) (s, true) = (s ++ l, true)
 | [], s, _ => by simp
 | e :: l, s, h => by
  have h1 := h e List.mem_cons_self
  rw [List.foldl_cons, show stS key v (s, true) e = (s ++ [e], true) from by
   simp [stS, show ¬ e.1 = key by omega], sF_gt key v l _ fun x hx => h x (List.mem_cons_of_mem _ hx), List.append_assoc]; rfl
theorem setR_new (key v : Int) (p q : List En) (hp : ∀ e, e ∈ p → e.1 < key) (hq : ∀ e, e ∈ q → key < e.1) : setR (p ++ q) key v = p ++ (key, v) :: q := by
 unfold setR sF
 rw [List.foldl_append, sF_lt key v p [] hp, List.nil_append]
 cases q with
 | nil => simp
 | cons e q =>
  have h1 := hq e List.mem_cons_self
  rw [List.foldl_cons, show stS key v (p, false) e = (p ++ [(key, v)] ++ [e], true) from by
   simp [stS, show ¬ e.1 = key by omega, show key ≤ e.1 by omega], sF_gt key v q _ fun x hx => hq x (List.mem_cons_of_mem _ hx), if_pos rfl]
  simp
theorem setR_old (key v v0 : Int) (p q : List En) (hp : ∀ e, e ∈ p → e.1 < key) (hq : ∀ e, e ∈ q → key < e.1) : setR (p ++ (key, v0) :: q) key v = p ++ (key, v) :: q := by
 unfold setR sF
 rw [List.foldl_append, sF_lt key v p [] hp, List.nil_append, List.foldl_cons, show stS key v (p, false) (key, v0) = (p ++ [(key, v)], true) from by
  simp [stS], sF_gt key v q _ hq, if_pos rfl]
 simp
theorem uF_out (key : Int) (p : List En) (hp : ∀ e, e ∈ p → ¬ e.1 = key) : uF key p = p ∧ uD key p = false := by
 refine ⟨List.filter_eq_self.2 fun e he => by simpa using hp e he, ?_⟩
 rw [← Bool.not_eq_true]
 intro h
 obtain ⟨e, he, h2⟩ := List.any_eq_true.1 h
 exact hp e he (by simpa using h2)
theorem uF_in (key v0 : Int) (p q : List En) (hp : ∀ e, e ∈ p → e.1 < key) (hq : ∀ e, e ∈ q → key < e.1) : uF key (p ++ (key, v0) :: q) = p ++ q ∧ uD key (p ++ (key, v0) :: q) = true := by
 constructor
 ·show List.filter _ _ = _
  rw [List.filter_append, List.filter_cons_of_neg (by simp)]
  have h1 := (uF_out key p fun e he => by have := hp e he; omega).1
  have h2 := (uF_out key q fun e he => by have := hq e he; omega).1
  unfold uF at h1 h2
  rw [h1, h2]
 ·exact List.any_eq_true.2 ⟨(key, v0), by simp, by simp⟩
theorem split_at (W : Nat → Int) (key : Int) : ∀ (sl : List Nat), (sl.Pairwise fun x y => W (4 + x) < W (4 + y)) → ∃ p q, sl = p ++ q ∧ (∀ s, s ∈ p → W (4 + s) < key) ∧ (∀ s, s ∈ q → key ≤ W (4 + s))
 | [], _ => ⟨[], [], rfl, by simp, by simp⟩
 | s :: t, h => by
  obtain ⟨h1, h2⟩ := List.pairwise_cons.1 h
  by_cases hs : W (4 + s) < key
  ·obtain ⟨p, q, e, hp, hq⟩ := split_at W key t h2
   refine ⟨s :: p, q, by rw [e]; rfl, fun x hx => ?_, hq⟩
   rcases List.mem_cons.1 hx with rfl | hx
   ·exact hs
   ·exact hp x hx
  ·refine ⟨[], s :: t, rfl, by simp, fun x hx => ?_⟩
   rcases List.mem_cons.1 hx with rfl | hx
   ·omega
   ·have := h1 x hx; omega
theorem getD_mid (p : List Nat) (s : Nat) (q : List Nat) : (p ++ s :: q).getD p.length default = s := by simp [List.getD_eq_getElem?_getD]
theorem fndI_of {W : Nat → Int} {key : Int} {p q : List Nat} (hp : ∀ s, s ∈ p → W (4 + s) < key) (hq : ∀ s, s ∈ q → key ≤ W (4 + s)) : FndI W (p ++ q) key p.length := by
 refine ⟨by simp, fun j hj => ?_, fun hl => ?_⟩
 ·refine hp _ ?_
  rw [List.getD_eq_getElem?_getD, List.getElem?_append_left hj, List.getElem?_eq_getElem hj]; exact List.getElem_mem hj
 ·cases q with
  | nil => simp at hl
  | cons s q => rw [getD_mid]; exact hq s List.mem_cons_self
theorem least (P : Nat → Prop) [DecidablePred P] : ∀ n, (∃ j, j < n ∧ P j) → ∃ j, j < n ∧ P j ∧ ∀ k, k < j → ¬ P k
 | 0, h => by obtain ⟨j, h1, _⟩ := h; omega
 | n + 1, h => by
  by_cases hn : ∃ j, j < n ∧ P j
  ·obtain ⟨j, h1, h2, h3⟩ := least P n hn
   exact ⟨j, by omega, h2, h3⟩
  ·obtain ⟨j, h1, h2⟩ := h
   have : j = n := by
    rcases Nat.lt_or_ge j n with h4 | h4
    ·exact absurd ⟨j, h4, h2⟩ hn
    ·omega
   subst this
   exact ⟨j, h1, h2, fun k hk hp => hn ⟨k, hk, hp⟩⟩
theorem pigeon : ∀ (n : Nat) (l : List Nat), (∀ j, j < n → j ∈ l) → n ≤ l.length
 | 0, _, _ => Nat.zero_le _
 | n + 1, l, h => by
  have hm := h n (by omega)
  have := pigeon n (l.erase n) fun j hj => (List.mem_erase_of_ne (by omega)).2 (h j (by omega))
  rw [List.length_erase_of_mem hm] at this
  have := List.length_pos_of_mem hm
  omega
theorem free_is {sl : List Nat} (h : sl.length < 12) : ∃ fr, fr < 12 ∧ fr ∉ sl ∧ ∀ j, j < fr → j ∈ sl := by
 obtain ⟨fr, h1, h2, h3⟩ := least (fun j => j ∉ sl) 12 (by
  apply Classical.byContradiction
  intro hn
  have := pigeon 12 sl fun j hj => Classical.byContradiction fun hj2 => hn ⟨j, hj, hj2⟩
  omega)
 exact ⟨fr, h1, h2, fun j hj => Classical.byContradiction fun hj2 => h3 j hj hj2⟩
theorem sl_ins {p q : List Nat} {fr : Nat} (h : Sl (p ++ q)) (hl : (p ++ q).length < 12) (hf : fr ∉ p ++ q) (h12 : fr < 12) : Sl (p ++ fr :: q) := by
 refine ⟨List.perm_middle.nodup_iff.2 (List.nodup_cons.2 ⟨hf, h.1⟩), fun s hs => ?_, ?_⟩
 ·rcases List.mem_cons.1 (List.perm_middle.mem_iff.1 hs) with rfl | hs
  ·exact h12
  ·exact h.2.1 s hs
 ·rw [List.perm_middle.length_eq, List.length_cons]; omega
theorem sl_del {p q : List Nat} {s : Nat} (h : Sl (p ++ s :: q)) : Sl (p ++ q) := by
 have hsub : (p ++ q).Sublist (p ++ s :: q) := List.Sublist.append (List.Sublist.refl p) (List.sublist_cons_self s q)
 exact ⟨h.1.sublist hsub, fun x hx => h.2.1 x (hsub.subset hx), Nat.le_trans hsub.length_le h.2.2⟩
end Go.Proofs.YtegekpjkbedngaaGreat
namespace Go.Proofs.YtegekpjkbedngaaGreat
set_option maxHeartbeats 4000000
set_option maxRecDepth 100000
open Go Go.Ab
attribute [local irreducible] callK callF loopQ vstep vskip pickE hideP
attribute [local go_sem] coO eNd eU deO peO cuO liO thO hiO noO eIn
theorem kPut1 (A : Dv) (J : JT) (hr : Rd A 0) (a : Nat) (ha : a < 30) (W : Nat → Int) (sl : List Nat) (c : Nat) (hn : Nd A a W sl c) (key v : Int) (i : Nat) (hi : FndI W sl key i) (hf : i < sl.length ∧ W (4 + sl.getD i default) = key) : ACalls Tryz.prog 13 [.agg [.ifc 43 (.loc 4 0), .p (eP a)], .p (.v (.int .u64 key)), .p (.v (.int .u64 v))] [deO A 1 2 3 4, peO A, cuO A, liO A J 12, thO A 0 0 20, thO A 1 0 20, thO A 2 0 20, thO A 3 0 20, thO A 4 0 20, thO A 5 0 20, thO A 6 0 20, thO A 7 0 20, hiO A J 0, hiO A J 1, hiO A J 2, hiO A J 3, hiO A J 4, hiO A J 5, hiO A J 6, hiO A J 7, noO A 0, noO A 1, noO A 2, noO A 3, noO A 4, noO A 5, noO A 6, noO A 7] (.tup [.p (.view 3 ((cmt (wO a (16 + sl.getD i default)) v).map eIn)), .p (.v (.int .i64 0))]) [deO A 1 2 3 4, peO A, cuO A, liO A J 12, thO A 0 0 20, thO A 1 0 20, thO A 2 0 20, thO A 3 0 20, thO A 4 0 20, thO A 5 0 20, thO A 6 0 20, thO A 7 0 20, hiO A J 0, hiO A J 1, hiO A J 2, hiO A J 3, hiO A J 4, hiO A J 5, hiO A J 6, hiO A J 7, noO A 0, noO A 1, noO A 2, noO A 3, noO A 4, noO A 5, noO A 6, noO A 7] := by
 refine yA (E := E) (fn := Tryz.f13) 119 [.tmp 6, .tmp 7] rfl rfl rfl rfl (by decide) rfl rfl ?_
 have k1 := kRead0 A J hr a ha W sl c hn
 have k2 := kFind W sl (c % 4096) hn.so key i hi
 obtain ⟨f1, f2⟩ := hf
 have hx := sl_digit hn.so f1
 rw [decide_eq_true f1, decide_eq_true f2] at k2
 have h2 := hn.so.2.2
 have h3 := hn.w3
 generalize hxx : sl.getD i default = x at *
 have k3 := kLat A J 0 (by omega) a ha (16 + x) (by omega)
 have k5 := kCommit0 (wO a (16 + x)) v
 have w5 : IntKind.i64.wrap (16 + (x : Int)) = 16 + (x : Int) := by rw [IntKind.wrap_i64]; omega
 repeat' (first
  | (with_reducible first | apply zY | apply zT | apply zM | apply zN | apply zO | refine chk_ok (by kernel_rfl) ?_)
  | ((with_reducible first | apply zP | apply zQ | apply zR | apply zL) <;> intro h <;> try (exfalso; first | omega | exact h rfl | (revert h; decide) | (cases h; done)))
  | ((with_reducible show False); omega)
  | ((first | (with_reducible first | apply zW | apply zV | apply zU | apply zS | apply zX | show VX _ _ _ _ _ _ _ | show vstep _ _ _ _ _ | show vskip _ _ _ | show withV _ _) | ((with_reducible show endA _ _ _ _ _ _ _); simp -implicitDefEqProofs only [endA]) | (with_reducible first | refine zB default (by first | omega | (simp only [LN, hxx, w5]; omega)) (by first | omega | (simp only [LN, hxx, w5]; omega)) ?_ | refine zC default (by first | omega | (simp only [LN, hxx, w5]; omega)) ?_ | refine And.intro (by first | decide | omega | assumption | (simp only [LN, hxx, w5]; omega)) ?_) | ((with_reducible apply zD); (exact k5)) | ((with_reducible apply zE); (exact k5); rfl) | ((with_reducible apply zF); (exact k5)) | (with_reducible first | apply zG | apply zH | apply zI | apply hidePI_own) | ((with_reducible apply zJ); (first | exact k1 | exact k2 | exact k3 | fail)) | ((with_reducible show pickE _ _ _); first | refine zA _ ⟨by omega, by rfl⟩ ?_ | refine zA _ (by rfl) ?_) | fail); try simp -dsimp -implicitDefEqProofs (maxSteps := 1000000) (disch := first | omega | (simp only [LN, hxx, w5]; omega)) only [go_sem, hxx, w5])
  | fail)
 all_goals first | omega
theorem kPut2 (A : Dv) (J : JT) (hr : Rd A 0) (a : Nat) (ha : a < 30) (W : Nat → Int) (sl : List Nat) (c : Nat) (hn : Nd A a W sl c) (key v : Int) (i : Nat) (hi : FndI W sl key i) (hf : ¬ (i < sl.length ∧ W (4 + sl.getD i default) = key)) (h12 : sl.length = 12) : ACalls Tryz.prog 13 [.agg [.ifc 43 (.loc 4 0), .p (eP a)], .p (.v (.int .u64 key)), .p (.v (.int .u64 v))] [deO A 1 2 3 4, peO A, cuO A, liO A J 12, thO A 0 0 20, thO A 1 0 20, thO A 2 0 20, thO A 3 0 20, thO A 4 0 20, thO A 5 0 20, thO A 6 0 20, thO A 7 0 20, hiO A J 0, hiO A J 1, hiO A J 2, hiO A J 3, hiO A J 4, hiO A J 5, hiO A J 6, hiO A J 7, noO A 0, noO A 1, noO A 2, noO A 3, noO A 4, noO A 5, noO A 6, noO A 7] (.tup [.p (.view 3 []), .p (.v (.int .i64 4))]) [deO A 1 2 3 4, peO A, cuO A, liO A J 12, thO A 0 0 20, thO A 1 0 20, thO A 2 0 20, thO A 3 0 20, thO A 4 0 20, thO A 5 0 20, thO A 6 0 20, thO A 7 0 20, hiO A J 0, hiO A J 1, hiO A J 2, hiO A J 3, hiO A J 4, hiO A J 5, hiO A J 6, hiO A J 7, noO A 0, noO A 1, noO A 2, noO A 3, noO A 4, noO A 5, noO A 6, noO A 7] := by
 refine yA (E := E) (fn := Tryz.f13) 119 [.tmp 6, .tmp 7] rfl rfl rfl rfl (by decide) rfl rfl ?_
 have k1 := kRead0 A J hr a ha W sl c hn
 have k2 := kFind W sl (c % 4096) hn.so key i hi
 have hb : (decide (i < sl.length) && decide (W (4 + sl.getD i default) = key)) = false := by simpa using hf
 rw [hb] at k2
 have h3 := hn.w3
 repeat' (first
  | (with_reducible first | apply zY | apply zT | apply zM | apply zN | apply zO | refine chk_ok (by kernel_rfl) ?_)
  | ((with_reducible first | apply zP | apply zQ | apply zR | apply zL) <;> intro h <;> try (exfalso; first | omega | exact h rfl | (revert h; decide) | (cases h; done)))
  | ((with_reducible show False); omega)
  | ((first | (with_reducible first | apply zW | apply zV | apply zU | apply zS | apply zX | show VX _ _ _ _ _ _ _ | show vstep _ _ _ _ _ | show vskip _ _ _ | show withV _ _) | ((with_reducible show endA _ _ _ _ _ _ _); simp -implicitDefEqProofs only [endA]) | (with_reducible first | refine zB default (by first | omega | (simp only [LN, h12]; omega)) (by first | omega | (simp only [LN, h12]; omega)) ?_ | refine zC default (by first | omega | (simp only [LN, h12]; omega)) ?_ | refine And.intro (by first | decide | omega | assumption | (simp only [LN, h12]; omega)) ?_) | (with_reducible first | apply zG | apply zH | apply zI | apply hidePI_own) | ((with_reducible apply zJ); (first | exact k1 | exact k2 | fail)) | ((with_reducible show pickE _ _ _); first | refine zA _ ⟨by omega, by rfl⟩ ?_ | refine zA _ (by rfl) ?_) | fail); try simp -dsimp -implicitDefEqProofs (maxSteps := 1000000) (disch := first | omega | (simp only [LN, h12]; omega)) only [go_sem, h12])
  | fail)
 all_goals first | omega
def pre5 (o4 o16 l4 l16 : Nat) (key v : Int) : List (Int × Int × Int) := [(1, o4, key), (1, o16, v), (2, l4, 0), (2, l16, 0), (3, 0, 0)]
def insP (a fr : Nat) (key v : Int) (w : Nat) : List (Int × Int × Int) := pre5 (wO a (4 + fr)) (wO a (16 + fr)) (64 * (wO a (4 + fr) / 64)) (64 * (wO a (16 + fr) / 64)) key v ++ cmt (wO a 0) w
theorem kPut3 (A : Dv) (J : JT) (hr : Rd A 0) (a : Nat) (ha : a < 30) (W : Nat → Int) (sl : List Nat) (c : Nat) (hn : Nd A a W sl c) (key v : Int) (i : Nat) (hi : FndI W sl key i) (hf : ¬ (i < sl.length ∧ W (4 + sl.getD i default) = key)) (h12 : sl.length < 12) (fr : Nat) (hf0 : fr < 12) (hf1 : sB sl sl.length fr = false) (hf2 : ∀ j, j < fr → sB sl sl.length j = true) (hs : Sl (sl.take i ++ fr :: sl.drop i)) : ACalls Tryz.prog 13 [.agg [.ifc 43 (.loc 4 0), .p (eP a)], .p (.v (.int .u64 key)), .p (.v (.int .u64 v))] [deO A 1 2 3 4, peO A, cuO A, liO A J 12, thO A 0 0 20, thO A 1 0 20, thO A 2 0 20, thO A 3 0 20, thO A 4 0 20, thO A 5 0 20, thO A 6 0 20, thO A 7 0 20, hiO A J 0, hiO A J 1, hiO A J 2, hiO A J 3, hiO A J 4, hiO A J 5, hiO A J 6, hiO A J 7, noO A 0, noO A 1, noO A 2, noO A 3, noO A 4, noO A 5, noO A 6, noO A 7] (.tup [.p (.view 3 ((insP a fr key v (perm (sl.take i ++ fr :: sl.drop i) (c % 4096 + 1))).map eIn)), .p (.v (.int .i64 0))]) [deO A 1 2 3 4, peO A, cuO A, liO A J 12, thO A 0 0 20, thO A 1 0 20, thO A 2 0 20, thO A 3 0 20, thO A 4 0 20, thO A 5 0 20, thO A 6 0 20, thO A 7 0 20, hiO A J 0, hiO A J 1, hiO A J 2, hiO A J 3, hiO A J 4, hiO A J 5, hiO A J 6, hiO A J 7, noO A 0, noO A 1, noO A 2, noO A 3, noO A 4, noO A 5, noO A 6, noO A 7] := by
 refine yA (E := E) (fn := Tryz.f13) 119 [.tmp 6, .tmp 7] rfl rfl rfl rfl (by decide) rfl rfl ?_
 have k1 := kRead0 A J hr a ha W sl c hn
 have k2 := kFind W sl (c % 4096) hn.so key i hi
 have hb : (decide (i < sl.length) && decide (W (4 + sl.getD i default) = key)) = false := by simpa using hf
 rw [hb] at k2
 have h3 := hn.w3
 have k3 := kUnused sl hn.so fr (by omega) hf1 hf2
 have k4 := kLat A J 0 (by omega) a ha (4 + fr) (by omega)
 have k5 := kLat A J 0 (by omega) a ha (16 + fr) (by omega)
 have hw4 := wO_def a (4 + fr)
 have hw16 := wO_def a (16 + fr)
 have k6 := qLine (wO a (4 + fr)) (by omega)
 have k7 := qLine (wO a (16 + fr)) (by omega)
 have k8 := kLat A J 0 (by omega) a ha 0 (by omega)
 have k9 := kIns sl (by omega) i hi.1 fr
 have k10 := kOrder (sl.take i ++ fr :: sl.drop i) hs (c % 4096 + 1) (by omega)
 rw [List.map_append, List.map_cons] at k10
 have k11 := kCommit (pre5 (wO a (4 + fr)) (wO a (16 + fr)) (64 * (wO a (4 + fr) / 64)) (64 * (wO a (16 + fr) / 64)) key v) (by simp [pre5]) (wO a 0) (perm (sl.take i ++ fr :: sl.drop i) (c % 4096 + 1) : Nat)
 have hne : ¬ 64 * (wO a (16 + fr) / 64) = 64 * (wO a (4 + fr) / 64) := by omega
 rw [show pre5 (wO a (4 + fr)) (wO a (16 + fr)) (64 * (wO a (4 + fr) / 64)) (64 * (wO a (16 + fr) / 64)) key v ++ cmt (wO a 0) (perm (sl.take i ++ fr :: sl.drop i) (c % 4096 + 1) : Nat) = insP a fr key v (perm (sl.take i ++ fr :: sl.drop i) (c % 4096 + 1)) from rfl] at k11
 generalize perm (sl.take i ++ fr :: sl.drop i) (c % 4096 + 1) = pm at *
 generalize insP a fr key v pm = pr at *
 have w5 : IntKind.i64.wrap (4 + (fr : Int)) = 4 + (fr : Int) := by rw [IntKind.wrap_i64]; omega
 have w6 : IntKind.i64.wrap (16 + (fr : Int)) = 16 + (fr : Int) := by rw [IntKind.wrap_i64]; omega
 have w4 : IntKind.u64.wrap (((c % 4096 : Nat) : Int) + 1) = ((c % 4096 + 1 : Nat) : Int) := (u64w (by omega) (by omega)).trans (by omega)
 generalize 64 * (wO a (16 + fr) / 64) = l16 at *
 generalize 64 * (wO a (4 + fr) / 64) = l4 at *
 have hneI : ¬ (l16 : Int) = (l4 : Int) := by omega
 repeat' (first
  | (with_reducible first | apply zY | apply zT | apply zM | apply zN | apply zO | refine chk_ok (by kernel_rfl) ?_)
  | ((with_reducible first | apply zP | apply zQ | apply zR | apply zL) <;> intro h <;> try (exfalso; first | omega | exact h rfl | (revert h; decide) | (cases h; done)))
  | ((with_reducible show False); omega)
  | ((first | (with_reducible first | apply zW | apply zV | apply zU | apply zS | apply zX | show VX _ _ _ _ _ _ _ | show vstep _ _ _ _ _ | show vskip _ _ _ | show withV _ _) | ((with_reducible show endA _ _ _ _ _ _ _); simp -implicitDefEqProofs only [endA]) | (with_reducible first | refine zB default (by first | omega | (simp only [LN, w4, w5, w6, hneI]; omega)) (by first | omega | (simp only [LN, w4, w5, w6, hneI]; omega)) ?_ | refine zC default (by first | omega | (simp only [LN, w4, w5, w6, hneI]; omega)) ?_ | refine And.intro (by first | decide | omega | assumption | (simp only [LN, w4, w5, w6, hneI]; omega)) ?_) | ((with_reducible apply zD); (first | exact k3 | exact k6 | exact k7 | exact k9 | exact k10 | fail)) | ((with_reducible apply zE); (first | exact k3 | exact k6 | exact k7 | exact k9 | exact k10 | fail); rfl) | ((with_reducible apply zF); (first | exact k3 | exact k6 | exact k7 | exact k9 | exact k10 | fail)) | (with_reducible first | apply zG | apply zH | apply zI | apply hidePI_own) | ((with_reducible apply zJ); (first | exact k1 | exact k2 | exact k4 | exact k5 | exact k8 | exact k11 | fail)) | ((with_reducible show pickE _ _ _); first | refine zA _ ⟨by omega, by rfl⟩ ?_ | refine zA _ (by rfl) ?_) | fail); try simp -dsimp -implicitDefEqProofs (maxSteps := 1000000) (disch := first | omega | (simp only [LN, w4, w5, w6, hneI]; omega)) only [go_sem, w4, w5, w6, hneI])
  | fail)
 all_goals first | omega
end Go.Proofs.YtegekpjkbedngaaGreat
