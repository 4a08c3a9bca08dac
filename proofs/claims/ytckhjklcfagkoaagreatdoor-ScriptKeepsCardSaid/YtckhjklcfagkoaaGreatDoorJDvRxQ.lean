/- Contracts of functions of this program, and the plain facts that they rest on. No conditions. -/
import Derived.Test.YtckhjklcfagkoaaGreatDoorJDvR0Q
import Derived.Test.YtckhjklcfagkoaaGreatDoorJScIQ
import Derived.Test.YtckhjklcfagkoaaGreatDoorJDvOQ
set_option linter.unusedSimpArgs false
set_option linter.unusedVariables false
namespace Go.Proofs.YtckhjklcfagkoaaGreatDoor
set_option maxHeartbeats 4000000
set_option maxRecDepth 100000
open Go Go.Ab
attribute [local irreducible] callK callF loopQ vstep vskip pickE hideP
def nmO (D:Dv) (es:Array MapEntry) (cl q i:Nat):Ob:=match Nat.beq i q with
 | true=>.mpx (some .i64) es cl
 | false=>noO D i
attribute [local go_sem] deO peO cuO liO thO hiO noO nmO
theorem tFence (A:Dv) (J:JT) (k:Nat) (hk:k<8) (h:WF A) (hn:NoteOk A k) (hj:JOk A J):ACallsX Tryz.prog 43 [.loc (4+k) 0] (dvL A J) (fun J2:{ J2:JT // JOk (A.fence k) J2 }=>.p (.tup [])) (fun J2:{ J2:JT // JOk (A.fence k) J2 }=>(dv2 (A.fence k) J2.1)):=by
 refine yC (E:=E) (fn:=Tryz.f43) 57 [] rfl rfl rfl rfl (by decide) rfl (fun _=>rfl) ?_
 have kc:=tCnt A J k hk true
 by_cases hc:A.cntB true=true
 ·rw [hc] at kc
  have hB:=h.cnt k true
  have hnB:=hn.cnt k true
  have hjB:JOk (A.cnt k true) J:=by intro r hr;rw [jk_cnt,(cnt_p A k true).2.2.2.2.1];exact hj r hr
  have hf:A.fence k={ fencS (A.cnt k true) k (fun _=>True) with note:=upd (A.cnt k true).note k (fun _=>none) }:=if_pos hc
  generalize A.cnt k true=B at *
  obtain ⟨q,hq⟩:∃ q:Nat,q=k:=⟨_,rfl⟩
  rw [← hq] at hnB
  rcases lt8 hk with rfl | rfl | rfl | rfl | rfl | rfl | rfl | rfl
  all_goals
   repeat' ((fail_if_success (with_reducible show awp _ _ (Code.region 1 _ _) _ _));first
    | (with_reducible first | apply zY | apply zT | apply zM | apply zN | apply zO | refine qK ?_ | (show False;omega))
    | ((with_reducible first | apply zP | apply zQ | apply zR | apply zL)<;>intro h<;>try (exfalso;first | omega | exact h rfl | (revert h;decide) | (cases h;done)))
    | ((first | (with_reducible first | apply zW | apply zV | apply zU | apply zS | apply zX | show VX _ _ _ _ _ _ _ | show vstep _ _ _ _ _ | show vskip _ _ _ | show withV _ _ | apply qN | apply qR | refine zB default ?_ (by first | omega | (simp only [LN,hq];omega)) (by first | omega | (simp only [LN,hq];omega)) | refine zC default ?_ (by first | omega | (simp only [LN,hq];omega)) | refine qI ?_ (by first | decide | omega | assumption | (simp only [LN,hq];omega))) | (with_reducible first | apply zG | apply zH | apply zI) | ((with_reducible apply zJ);(first | exact kc)) | ((with_reducible show pickE _ _ _);refine qA _ ?_));try simp -dsimp -implicitDefEqProofs (maxSteps:=1000000) (disch:=first | omega | (simp only [LN,hq];omega)) only [go_sem,hq])
   )
   refine r_openM (18+q) (some .i64) (.i .u64 (B.note q)) (by subst hq;rfl) fun es cl hm=>?_
   simp -dsimp -implicitDefEqProofs (maxSteps:=1000000) (disch:=first | omega | (simp only [LN,hq];omega)) only [go_sem,hq]
   repeat' ((fail_if_success (with_reducible show awp _ _ (Code.region 2 _ _) _ _));first
    | (with_reducible first | apply zY | apply zT | apply zM | apply zN | apply zO | refine qK ?_ | (show False;omega))
    | ((with_reducible first | apply zP | apply zQ | apply zR | apply zL)<;>intro h<;>try (exfalso;first | omega | exact h rfl | (revert h;decide) | (cases h;done)))
    | ((first | (with_reducible first | apply zW | apply zV | apply zU | apply zS | apply zX | show VX _ _ _ _ _ _ _ | show vstep _ _ _ _ _ | show vskip _ _ _ | show withV _ _ | apply qN | apply qR | refine zB default ?_ (by first | omega | (simp only [LN,hq];omega)) (by first | omega | (simp only [LN,hq];omega)) | refine zC default ?_ (by first | omega | (simp only [LN,hq];omega)) | refine qI ?_ (by first | decide | omega | assumption | (simp only [LN,hq];omega))) | ((with_reducible show pickE _ _ _);refine qA _ ?_));try simp -dsimp -implicitDefEqProofs (maxSteps:=1000000) (disch:=first | omega | (simp only [LN,hq];omega)) only [go_sem,hq])
   )
   have hst:=(MapKept.stamped_iff es cl).1 hm.st
   refine r_loop (α:=Array Nat × Dv × (JT)) (fun x=>⟨57,[(0,some (.loc (4+q) 0)),(23,some (.loc 26 0))],[some (deO x.2.1 1 2 3 4),some (peO x.2.1),some (cuO x.2.1),some (liO x.2.1 x.2.2 27),some (thO x.2.1 0 0 18),some (thO x.2.1 1 0 18),some (thO x.2.1 2 0 18),some (thO x.2.1 3 0 18),some (thO x.2.1 4 0 18),some (thO x.2.1 5 0 18),some (thO x.2.1 6 0 18),some (thO x.2.1 7 0 18),some (Ob.dead),some (Ob.dead),some (Ob.dead),some (Ob.dead),some (Ob.dead),some (Ob.dead),some (nmO x.2.1 es cl q 0),some (nmO x.2.1 es cl q 1),some (nmO x.2.1 es cl q 2),some (nmO x.2.1 es cl q 3),some (nmO x.2.1 es cl q 4),some (nmO x.2.1 es cl q 5),some (nmO x.2.1 es cl q 6),some (nmO x.2.1 es cl q 7),some (Ob.it (.mref (18+q)) cl x.1 cl),some (hiO x.2.1 x.2.2 0),some (hiO x.2.1 x.2.2 1),some (hiO x.2.1 x.2.2 2),some (hiO x.2.1 x.2.2 3),some (hiO x.2.1 x.2.2 4),some (hiO x.2.1 x.2.2 5)]⟩) (fun x=>x.2.1=fencS B q (Saw es x.1)∧JOk x.2.1 x.2.2) (fun x=>(leftOf es x.1).size) (#[],B,J) ?_ ?_ ?_
   ·refine ⟨(fencS_none hB ?_ ?_).symm,hjB⟩
    ·rintro r _ ⟨e,_,_,hs⟩;simp at hs
    ·rintro r _ ⟨e,_,_,hs⟩;simp at hs
   ·refine wk_auto ?_
    simp -dsimp -implicitDefEqProofs (maxSteps:=1000000) (disch:=first | omega | (simp only [LN,hq];omega)) only [go_sem,hq]
   ·rintro ⟨seen,D,J2⟩ ⟨hD,hJ2⟩
    simp only at hD hJ2
    simp -dsimp -implicitDefEqProofs (maxSteps:=1000000) (disch:=first | omega | (simp only [LN,hq];omega)) only [go_sem,hq]
    repeat' ((fail_if_success (with_reducible show awp _ _ (Code.region 2 _ _) _ _));first
     | (with_reducible first | apply zY | apply zT | apply zM | apply zN | apply zO | refine qK ?_ | (show False;omega))
     | ((with_reducible first | apply zP | apply zQ | apply zR | apply zL)<;>intro h<;>try (exfalso;first | omega | exact h rfl | (revert h;decide) | (cases h;done)))
     | ((first | (with_reducible first | apply zW | apply zV | apply zU | apply zS | apply zX | show VX _ _ _ _ _ _ _ | show vstep _ _ _ _ _ | show vskip _ _ _ | show withV _ _ | apply qN | apply qR | refine zB default ?_ (by first | omega | (simp only [LN,hq];omega)) (by first | omega | (simp only [LN,hq];omega)) | refine zC default ?_ (by first | omega | (simp only [LN,hq];omega)) | refine qI ?_ (by first | decide | omega | assumption | (simp only [LN,hq];omega))) | ((with_reducible show pickE _ _ _);refine qA _ ?_));try simp -dsimp -implicitDefEqProofs (maxSteps:=1000000) (disch:=first | omega | (simp only [LN,hq];omega)) only [go_sem,hq])
    )
    have hDw:WF D:=hD ▸ wf_fencS hB hnB _
    have hDn:D.n=B.n:=by rw [hD];rfl
    have h6:=hB.n6
    refine r_next (it:=23) (t:=24) (k:=26) (m:=18+q) (since:=cl) (last:=cl) (cl:=cl) (seen:=seen) (kk:=some .i64) (es:=es) (by subst hq;rfl) (by subst hq;rfl) (by subst hq;rfl) (by show 24<57;decide) (by subst hq;rfl) (by subst hq;rfl) (by subst hq;rfl) hst.1 (Nat.le_refl _) ?_ ?_ ?_
    ·intro e he
     obtain ⟨r,v,_,e1,_,e2,_⟩:=entry_is hnB hm he
     rw [e1,e2];exact ⟨rfl,rfl⟩
    ·intro h0
     have hDa:D=fencS B q (fun _=>True):=hD.trans (fencS_all (fun r hr=>(hB.len r hr).1) h6 hnB hm h0)
     subst hDa
     repeat' ((fail_if_success (with_reducible show awp _ _ (Code.region 7 _ _) _ _));first
      | (with_reducible first | apply zY | apply zT | apply zM | apply zN | apply zO | refine qK ?_ | (show False;omega))
      | ((with_reducible first | apply zP | apply zQ | apply zR | apply zL)<;>intro h<;>try (exfalso;first | omega | exact h rfl | (revert h;decide) | (cases h;done)))
      | ((first | (with_reducible first | apply zW | apply zV | apply zU | apply zS | apply zX | show VX _ _ _ _ _ _ _ | show vstep _ _ _ _ _ | show vskip _ _ _ | show withV _ _ | apply qN | apply qR | refine zB default ?_ (by first | omega | (simp only [LN,hq];omega)) (by first | omega | (simp only [LN,hq];omega)) | refine zC default ?_ (by first | omega | (simp only [LN,hq];omega)) | refine qI ?_ (by first | decide | omega | assumption | (simp only [LN,hq];omega))) | ((with_reducible show pickE _ _ _);refine qA _ ?_));try simp -dsimp -implicitDefEqProofs (maxSteps:=1000000) (disch:=first | omega | (simp only [LN,hq];omega)) only [go_sem,hq])
     )
     refine r_shutM (18+q) (some .i64) es cl (.i .u64 (B.note q)) hm (by subst hq;rfl) ?_
     simp -dsimp -implicitDefEqProofs (maxSteps:=1000000) (disch:=first | omega | (simp only [LN,hq];omega)) only [go_sem,hq]
     repeat' (first
      | (with_reducible first | apply zY | apply zT | apply zM | apply zN | apply zO | refine qK ?_ | (show False;omega))
      | ((with_reducible first | apply zP | apply zQ | apply zR | apply zL)<;>intro h<;>try (exfalso;first | omega | exact h rfl | (revert h;decide) | (cases h;done)))
      | ((first | (with_reducible first | apply zW | apply zV | apply zU | apply zS | apply zX | show VX _ _ _ _ _ _ _ | show vstep _ _ _ _ _ | show vskip _ _ _ | show withV _ _ | apply qN | apply qR | refine zB default ?_ (by first | omega | (simp only [LN,hq];omega)) (by first | omega | (simp only [LN,hq];omega)) | refine zC default ?_ (by first | omega | (simp only [LN,hq];omega)) | refine qI ?_ (by first | decide | omega | assumption | (simp only [LN,hq];omega))) | ((with_reducible show pickE _ _ _);refine qA _ ?_));try simp -dsimp -implicitDefEqProofs (maxSteps:=1000000) (disch:=first | omega | (simp only [LN,hq];omega)) only [go_sem,hq])
     )
     (refine endX_i (⟨J2,by subst hq;rw [hf];exact hJ2⟩) ?_;simp -implicitDefEqProofs only [endA];(simp -dsimp -implicitDefEqProofs (maxSteps:=1000000) (disch:=first | omega | (simp only [LN,hf,hq];omega)) only [go_sem,hf,hq];try trivial))
     simp [jk,upd,fencS,hq]
    ·intro e he
     obtain ⟨hmem,hns⟩:=left_mem he
     obtain ⟨r,v,hr,hke,hno,hva,hv0,hv1⟩:=entry_is hnB hm hmem
     have hnew:=saw_new hm.st he hke
     have hDd:D.done r=B.done r:=by rw [hD];exact if_neg hnew
     have hDh:D.hist r=B.hist r:=by rw [hD];exact if_neg hnew
     have hlr:=hB.len r (by omega)
     obtain ⟨κ,hκ⟩:∃ κ,κ=kF B q r:=⟨_,rfl⟩
     have hkf:κ=(v - B.done r).toNat:=by rw [hκ];unfold kF;rw [hno]
     repeat' ((fail_if_success (with_reducible show awp _ _ (Code.region 3 _ _) _ _));first
      | (with_reducible first | apply zY | apply zT | apply zM | apply zN | apply zO | refine qK ?_ | (show False;omega))
      | ((with_reducible first | apply zP | apply zQ | apply zR | apply zL)<;>intro h<;>try (exfalso;first | omega | exact h rfl | (revert h;decide) | (cases h;done)))
      | ((first | (with_reducible first | apply zW | apply zV | apply zU | apply zS | apply zX | show VX _ _ _ _ _ _ _ | show vstep _ _ _ _ _ | show vskip _ _ _ | show withV _ _ | apply qN | apply qR | refine zB default ?_ (by first | omega | (simp only [LN,hq,hke,hva];omega)) (by first | omega | (simp only [LN,hq,hke,hva];omega)) | refine zC default ?_ (by first | omega | (simp only [LN,hq,hke,hva];omega)) | refine qI ?_ (by first | decide | omega | assumption | (simp only [LN,hq,hke,hva];omega))) | ((with_reducible show pickE _ _ _);refine qA _ ?_));try simp -dsimp -implicitDefEqProofs (maxSteps:=1000000) (disch:=first | omega | (simp only [LN,hq,hke,hva];omega)) only [go_sem,hq,hke,hva])
     )
     repeat' (first
      | (with_reducible first | apply zY | apply zT | apply zM | apply zN | apply zO | refine qK ?_ | (show False;omega))
      | ((with_reducible first | apply zP | apply zQ | apply zR | apply zL)<;>intro h<;>try (exfalso;first | omega | exact h rfl | (revert h;decide) | (cases h;done)))
      | ((first | (with_reducible first | apply zW | apply zV | apply zU | apply zS | apply zX | show VX _ _ _ _ _ _ _ | show vstep _ _ _ _ _ | show vskip _ _ _ | show withV _ _ | apply qN | apply qR | refine zB default ?_ (by first | omega | (simp only [LN,hq,hke,hva];omega)) (by first | omega | (simp only [LN,hq,hke,hva];omega)) | refine zC default ?_ (by first | omega | (simp only [LN,hq,hke,hva];omega)) | refine qI ?_ (by first | decide | omega | assumption | (simp only [LN,hq,hke,hva];omega))) | ((with_reducible show pickE _ _ _);refine qA _ ?_));try simp -dsimp -implicitDefEqProofs (maxSteps:=1000000) (disch:=first | omega | (simp only [LN,hq,hke,hva];omega)) only [go_sem,hq,hke,hva])
     )
     refine zA e (by simp [hmem,hke,hva];exact hst.2.1) ?_
     simp -dsimp -implicitDefEqProofs (maxSteps:=1000000) (disch:=first | omega | (simp only [LN,hq,hke,hva];omega)) only [go_sem,hq,hke,hva]
     repeat' ((fail_if_success (with_reducible show awp _ _ (Code.region 6 _ _) _ _));first
      | (with_reducible first | apply zY | apply zT | apply zM | apply zN | apply zO | refine qK ?_ | (show False;omega))
      | ((with_reducible first | apply zP | apply zQ | apply zR | apply zL)<;>intro h<;>try (exfalso;first | omega | exact h rfl | (revert h;decide) | (cases h;done)))
      | ((first | (with_reducible first | apply zW | apply zV | apply zU | apply zS | apply zX | show VX _ _ _ _ _ _ _ | show vstep _ _ _ _ _ | show vskip _ _ _ | show withV _ _ | apply qN | apply qR | refine zB default ?_ (by first | omega | (simp only [LN,hq,hke,hva,hDd];omega)) (by first | omega | (simp only [LN,hq,hke,hva,hDd];omega)) | refine zC default ?_ (by first | omega | (simp only [LN,hq,hke,hva,hDd];omega)) | refine qI ?_ (by first | decide | omega | assumption | (simp only [LN,hq,hke,hva,hDd];omega))) | ((with_reducible show pickE _ _ _);refine qA _ ?_));try simp -dsimp -implicitDefEqProofs (maxSteps:=1000000) (disch:=first | omega | (simp only [LN,hq,hke,hva,hDd];omega)) only [go_sem,hq,hke,hva,hDd])
     )
     ·have hgt:B.done r<v:=by omega
      have hkle:κ≤(D.hist r).length:=by rw [hDh,hkf];omega
      have e1:IntKind.u64.wrap (v - B.done r)=((κ:Nat):Int):=by rw [hkf,IntKind.wrap_u64];omega
      have e2:IntKind.i64.wrap ((κ:Nat):Int)=((κ:Nat):Int):=by rw [hkf,IntKind.wrap_i64];omega
      have hjl:(jk D J2 r).length≤1000000000:=by have:=hJ2 r (by omega);rw [hDd] at this;omega
      have hrn:r<D.n:=by omega
      repeat' (first
       | (with_reducible first | apply zY | apply zT | apply zM | apply zN | apply zO | refine qK ?_ | (show False;omega))
       | ((with_reducible first | apply zP | apply zQ | apply zR | apply zL)<;>intro h<;>try (exfalso;first | omega | exact h rfl | (revert h;decide) | (cases h;done)))
       | ((first | (with_reducible first | apply zW | apply zV | apply zU | apply zS | apply zX | show VX _ _ _ _ _ _ _ | show vstep _ _ _ _ _ | show vskip _ _ _ | show withV _ _ | apply qN | apply qR | refine zB default ?_ (by first | omega | (simp only [LN,hq,hke,hva,e1,e2];omega)) (by first | omega | (simp only [LN,hq,hke,hva,e1,e2];omega)) | refine zC default ?_ (by first | omega | (simp only [LN,hq,hke,hva,e1,e2];omega)) | refine qI ?_ (by first | decide | omega | assumption | (simp only [LN,hq,hke,hva,e1,e2];omega))) | (with_reducible first | apply zG | apply zH | apply zI) | ((with_reducible apply zJ);(first | exact dPersist0 es cl D J2 hDw r (κ) hrn hkle hjl | exact dPersist1 es cl D J2 hDw r (κ) hrn hkle hjl | exact dPersist2 es cl D J2 hDw r (κ) hrn hkle hjl | exact dPersist3 es cl D J2 hDw r (κ) hrn hkle hjl | exact dPersist4 es cl D J2 hDw r (κ) hrn hkle hjl | exact dPersist5 es cl D J2 hDw r (κ) hrn hkle hjl | exact dPersist6 es cl D J2 hDw r (κ) hrn hkle hjl | exact dPersist7 es cl D J2 hDw r (κ) hrn hkle hjl)) | ((with_reducible show pickE _ _ _);refine qA _ ?_));try simp -dsimp -implicitDefEqProofs (maxSteps:=1000000) (disch:=first | omega | (simp only [LN,hq,hke,hva,e1,e2];omega)) only [go_sem,hq,hke,hva,e1,e2])
      )
      refine zZ (seen.push e.born,D.persist r (κ),jper D J2 r (κ)) (And.intro ?_ ?_) (left_lt he) ?_
      ·subst hq
       show D.persist r κ=_
       rw [hD,hκ];exact fencS_step hB hnB hr hnew (saw_push hm.st he hke)
      ·exact hJ2.persist (fun i hi=>(hDw.len i hi).1) r _ hkle
      ·simp -dsimp -implicitDefEqProofs (maxSteps:=1000000) (disch:=first | omega | (simp only [LN,hq];omega)) only [go_sem,hq]
     ·have hkz:κ=0:=by rw [hkf];omega
      have hst2:=fencS_step hB hnB hr hnew (saw_push hm.st he hke)
      rw [← hκ,hkz,persist_0] at hst2
      refine zZ (seen.push e.born,D,J2) ⟨by subst hq;exact hD.trans hst2,hJ2⟩ (left_lt he) ?_
      simp -dsimp -implicitDefEqProofs (maxSteps:=1000000) (disch:=first | omega | (simp only [LN,hq];omega)) only [go_sem,hq]
 ·simp only [Bool.not_eq_true] at hc
  rw [hc] at kc
  have hf:A.fence k=A.cnt k true:=by unfold Dv.fence;rw [hc];rfl
  have hjB:JOk (A.cnt k true) J:=by intro r hr;rw [jk_cnt,(cnt_p A k true).2.2.2.2.1];exact hj r hr
  repeat' (first
   | (with_reducible first | apply zY | apply zT | apply zM | apply zN | apply zO | refine qK ?_ | (show False;omega))
   | ((with_reducible first | apply zP | apply zQ | apply zR | apply zL)<;>intro h<;>try (exfalso;first | omega | exact h rfl | (revert h;decide) | (cases h;done)))
   | ((first | (with_reducible first | apply zW | apply zV | apply zU | apply zS | apply zX | show VX _ _ _ _ _ _ _ | show vstep _ _ _ _ _ | show vskip _ _ _ | show withV _ _ | apply qN | apply qR | refine zB default ?_ | refine zC default ?_ | refine qI ?_) | (with_reducible first | apply zG | apply zH | apply zI) | ((with_reducible apply zJ);(first | exact kc)) | ((with_reducible show pickE _ _ _);refine qA _ ?_));try simp -dsimp -implicitDefEqProofs (maxSteps:=1000000) (disch:=first | omega | (simp only [LN];omega)) only [go_sem])
  )
  (refine endX_i (⟨J,by rw [hf];exact hjB⟩) ?_;simp -implicitDefEqProofs only [endA];(simp -dsimp -implicitDefEqProofs (maxSteps:=1000000) (disch:=first | omega | (simp only [LN,hf];omega)) only [go_sem,hf];try trivial))
end Go.Proofs.YtckhjklcfagkoaaGreatDoor
namespace Go.Proofs.YtckhjklcfagkoaaGreatDoor
set_option maxHeartbeats 4000000
set_option maxRecDepth 100000
open Go Go.Ab
attribute [local irreducible] callK callF loopQ vstep vskip pickE hideP
attribute [local go_sem] eE eU deO peO cuO liO thO hiO noO
theorem dStep4 (A:Dv) (J:JT) (N:Nat) (h:Inv A J N) (hN:N<1000000000) (x:Ev) (R:Rng x) (hv:okE x=true) (hk:x.k=4):ACallsX Tryz.prog 11 [.loc 0 0,.p (eE x)] (dvL A J) (fun g:{ J2:JT // Inv (A.step x) J2 (N+1) }=>.tup [.loc 0 0,.p (.v (.bool (A.stepB x))),.p (.v (.int .i64 (A.stepE x)))]) (fun g:{ J2:JT // Inv (A.step x) J2 (N+1) }=>(dv2 (A.step x) g.1)):=by
 refine yC (E:=E) (fn:=Tryz.f11) 95 [.tmp 4,.tmp 5,.tmp 6] rfl rfl rfl rfl (by decide) rfl (fun _=>rfl) ?_
 have kv:=sValid x (by have:=okE_t hv;unfold okK at this;omega)
 rw [hv] at kv
 have hro:=R.o
 have hrv:=R.v
 obtain ⟨e,h1,h2⟩:=ev_4 (okE_t hv) hk
 obtain ⟨t,ht⟩:=Int.eq_ofNat_of_zero_le h1
 have ht8:t<8:=by omega
 rw [ht] at e
 subst e
 have e1:A.step ⟨4,(t:Int),0,0,0,0,0,[]⟩=A.fence t:=by unfold Dv.step;rw [hv];rfl
 have e2:A.stepB ⟨4,(t:Int),0,0,0,0,0,[]⟩=false:=by unfold Dv.stepB;rw [hv];rfl
 have e3:A.stepE ⟨4,(t:Int),0,0,0,0,0,[]⟩=if (A.fence t).off=true then 3 else 0:=by unfold Dv.stepE;rw [hv,e1];simp
 have kt:=dThread6 A J t ht8
 have ks:=tFence A J t ht8 h.wf (h.no t ht8) h.jo
 have hI:=fun (J2:JT) (hj:JOk (A.fence t) J2)=>h.fence t ht8 hj
 have kf:=fun J2=>dOff6 (A.fence t) J2
 generalize hB:A.fence t=B at *
 repeat' (first
  | (with_reducible first | apply zY | apply zT | apply zM | apply zN | apply zO | refine qK ?_ | (show False;omega))
  | ((with_reducible first | apply zP | apply zQ | apply zR | apply zL)<;>intro h<;>try (exfalso;first | omega | exact h rfl | (revert h;decide) | (cases h;done)))
  | ((with_reducible first | refine r_gr0 [44] ?_ | refine r_gr1 [44] ?_ | refine r_gr2 [44] ?_ | refine r_gr3 [44] ?_ | refine r_gr4 [44] ?_ | refine r_gr5 [44] ?_ | refine r_gr6 [44] ?_ | refine r_gr7 [44] ?_ | refine r_gr8 [44] ?_ | refine r_gr9 [44] ?_ | refine r_gr10 [44] ?_);simp -dsimp -implicitDefEqProofs (maxSteps:=1000000) (disch:=first | omega | (simp only [LN];omega)) only [go_sem])
  | ((first | (with_reducible first | apply zW | apply zV | apply zU | apply zS | apply zX | show VX _ _ _ _ _ _ _ | show vstep _ _ _ _ _ | show vskip _ _ _ | show withV _ _ | apply qN | apply qR | refine zB default ?_ | refine zC default ?_ | refine qI ?_) | ((with_reducible apply zD);(exact kv)) | ((with_reducible apply zE);(exact kv);rfl) | ((with_reducible apply zF);(exact kv)) | (with_reducible first | apply zG | apply zH | apply zI) | ((with_reducible apply zJ);(first | exact kt | exact kf _)) | ((with_reducible apply zK);(first | exact ks);intro gq) | ((with_reducible show pickE _ _ _);refine qA _ ?_));try simp -dsimp -implicitDefEqProofs (maxSteps:=1000000) (disch:=first | omega | (simp only [LN];omega)) only [go_sem])
 )
 all_goals
  (refine endX_i (⟨gq.1,by rw [e1];exact (hI gq.1 gq.2).le (by omega)⟩) ?_;simp -implicitDefEqProofs only [endA];(simp -dsimp -implicitDefEqProofs (maxSteps:=1000000) (disch:=first | omega | (simp only [LN,e1,e2,e3];omega)) only [go_sem,e1,e2,e3];try trivial))
  all_goals first | (simp [*];done) | (simp_all;done)
theorem dStep5 (A:Dv) (J:JT) (N:Nat) (h:Inv A J N) (hN:N<1000000000) (x:Ev) (R:Rng x) (hv:okE x=true) (hk:x.k=5):ACallsX Tryz.prog 11 [.loc 0 0,.p (eE x)] (dvL A J) (fun g:{ J2:JT // Inv (A.step x) J2 (N+1) }=>.tup [.loc 0 0,.p (.v (.bool (A.stepB x))),.p (.v (.int .i64 (A.stepE x)))]) (fun g:{ J2:JT // Inv (A.step x) J2 (N+1) }=>(dv2 (A.step x) g.1)):=by
 refine yC (E:=E) (fn:=Tryz.f11) 95 [.tmp 4,.tmp 5,.tmp 6] rfl rfl rfl rfl (by decide) rfl (fun _=>rfl) ?_
 have kv:=sValid x (by have:=okE_t hv;unfold okK at this;omega)
 rw [hv] at kv
 have hro:=R.o
 have hrv:=R.v
 obtain ⟨e,h1,h2⟩:=ev_5 (okE_t hv) hk
 generalize x.ln=ln at *
 generalize x.n=n at *
 subst e
 have e1:A.step ⟨5,0,0,0,0,ln,n,[]⟩=A.wb ln n:=by unfold Dv.step;rw [hv];rfl
 have e2:A.stepB ⟨5,0,0,0,0,ln,n,[]⟩=A.wbB ln n:=by unfold Dv.stepB;rw [hv];rfl
 have e3:A.stepE ⟨5,0,0,0,0,ln,n,[]⟩=0:=by unfold Dv.stepE;rw [hv];simp
 have kt:=dThread6 A J 0 (by decide)
 have ks:=dWriteBack6 A J h.wf (h.jl (by omega)) ln n
 have hI:=h.wb ln n
 generalize hB:A.wb ln n=B at *
 repeat' (first
  | (with_reducible first | apply zY | apply zT | apply zM | apply zN | apply zO | refine qK ?_ | (show False;omega))
  | ((with_reducible first | apply zP | apply zQ | apply zR | apply zL)<;>intro h<;>try (exfalso;first | omega | exact h rfl | (revert h;decide) | (cases h;done)))
  | ((first | (with_reducible first | apply zW | apply zV | apply zU | apply zS | apply zX | show VX _ _ _ _ _ _ _ | show vstep _ _ _ _ _ | show vskip _ _ _ | show withV _ _ | apply qN | apply qR | refine zB default ?_ | refine zC default ?_ | refine qI ?_) | ((with_reducible apply zD);(exact kv)) | ((with_reducible apply zE);(exact kv);rfl) | ((with_reducible apply zF);(exact kv)) | (with_reducible first | apply zG | apply zH | apply zI) | ((with_reducible apply zJ);(first | exact kt | exact ks)) | ((with_reducible show pickE _ _ _);refine qA _ ?_));try simp -dsimp -implicitDefEqProofs (maxSteps:=1000000) (disch:=first | omega | (simp only [LN];omega)) only [go_sem])
 )
 all_goals
  (refine endX_i (⟨jwb A J ln n,by rw [e1];exact hI.le (by omega)⟩) ?_;simp -implicitDefEqProofs only [endA];(simp -dsimp -implicitDefEqProofs (maxSteps:=1000000) (disch:=first | omega | (simp only [LN,e1,e2,e3];omega)) only [go_sem,e1,e2,e3];try trivial))
  all_goals first | (simp [*];done) | (simp_all;done)
theorem dStep6 (A:Dv) (J:JT) (N:Nat) (h:Inv A J N) (hN:N<1000000000) (x:Ev) (R:Rng x) (hv:okE x=true) (hk:x.k=6):ACallsX Tryz.prog 11 [.loc 0 0,.p (eE x)] (dvL A J) (fun g:{ J2:JT // Inv (A.step x) J2 (N+1) }=>.tup [.loc 0 0,.p (.v (.bool (A.stepB x))),.p (.v (.int .i64 (A.stepE x)))]) (fun g:{ J2:JT // Inv (A.step x) J2 (N+1) }=>(dv2 (A.step x) g.1)):=by
 refine yC (E:=E) (fn:=Tryz.f11) 95 [.tmp 4,.tmp 5,.tmp 6] rfl rfl rfl rfl (by decide) rfl (fun _=>rfl) ?_
 have kv:=sValid x (by have:=okE_t hv;unfold okK at this;omega)
 rw [hv] at kv
 have hro:=R.o
 have hrv:=R.v
 obtain ⟨e,h1,h2⟩:=ev_6 (okE_t hv) hk
 generalize x.n=n at *
 subst e
 have e1:A.step ⟨6,0,0,0,0,0,n,[]⟩=A.arm n:=by unfold Dv.step;rw [hv];rfl
 have e2:A.stepB ⟨6,0,0,0,0,0,n,[]⟩=false:=by unfold Dv.stepB;rw [hv];rfl
 have e3:A.stepE ⟨6,0,0,0,0,0,n,[]⟩=0:=by unfold Dv.stepE;rw [hv];simp
 have kt:=dThread6 A J 0 (by decide)
 have ks:=dArm6 A J n
 have hI:=h.arm n
 generalize hB:A.arm n=B at *
 repeat' (first
  | (with_reducible first | apply zY | apply zT | apply zM | apply zN | apply zO | refine qK ?_ | (show False;omega))
  | ((with_reducible first | apply zP | apply zQ | apply zR | apply zL)<;>intro h<;>try (exfalso;first | omega | exact h rfl | (revert h;decide) | (cases h;done)))
  | ((first | (with_reducible first | apply zW | apply zV | apply zU | apply zS | apply zX | show VX _ _ _ _ _ _ _ | show vstep _ _ _ _ _ | show vskip _ _ _ | show withV _ _ | apply qN | apply qR | refine zB default ?_ | refine zC default ?_ | refine qI ?_) | ((with_reducible apply zD);(exact kv)) | ((with_reducible apply zE);(exact kv);rfl) | ((with_reducible apply zF);(exact kv)) | (with_reducible first | apply zG | apply zH | apply zI) | ((with_reducible apply zJ);(first | exact kt | exact ks)) | ((with_reducible show pickE _ _ _);refine qA _ ?_));try simp -dsimp -implicitDefEqProofs (maxSteps:=1000000) (disch:=first | omega | (simp only [LN];omega)) only [go_sem])
 )
 all_goals
  (refine endX_i (⟨J,by rw [e1];exact hI.le (by omega)⟩) ?_;simp -implicitDefEqProofs only [endA];(simp -dsimp -implicitDefEqProofs (maxSteps:=1000000) (disch:=first | omega | (simp only [LN,e1,e2,e3];omega)) only [go_sem,e1,e2,e3];try trivial))
  all_goals first | (simp [*];done) | (simp_all;done)
theorem dStep7 (A:Dv) (J:JT) (N:Nat) (h:Inv A J N) (hN:N<1000000000) (x:Ev) (hv:okE x=true) (hk:x.k=7):ACalls Tryz.prog 11 [.loc 0 0,.p (eE x)] (dvL A J) (.tup [.loc 26 0,.p (.v (.bool false)),.p (.v (.int .i64 0))]) (dvL A J++[deO (A.step x) 27 28 29 30,peO (A.step x),cuO (A.step x),liO (A.step x) J0 38,thO (A.step x) 0 26 44,thO (A.step x) 1 26 44,thO (A.step x) 2 26 44,thO (A.step x) 3 26 44,thO (A.step x) 4 26 44,thO (A.step x) 5 26 44,thO (A.step x) 6 26 44,thO (A.step x) 7 26 44,hiO (A.step x) J0 0,hiO (A.step x) J0 1,hiO (A.step x) J0 2,hiO (A.step x) J0 3,hiO (A.step x) J0 4,hiO (A.step x) J0 5,noO (A.step x) 0,noO (A.step x) 1,noO (A.step x) 2,noO (A.step x) 3,noO (A.step x) 4,noO (A.step x) 5,noO (A.step x) 6,noO (A.step x) 7]):=by
 refine yA (E:=E) (fn:=Tryz.f11) 95 [.tmp 4,.tmp 5,.tmp 6] rfl rfl rfl rfl (by decide) rfl rfl ?_
 have kv:=sValid x (by have:=okE_t hv;unfold okK at this;omega)
 rw [hv] at kv
 obtain ⟨e,h1⟩:=ev_7 (okE_t hv) hk
 generalize x.ch=ch at *
 subst e
 have e1:A.step ⟨7,0,0,0,0,0,0,ch⟩=A.crash ch:=by unfold Dv.step;rw [hv];rfl
 have kt:=dThread6 A J 0 (by decide)
 have ks:=dCrash6 A J h.wf (h.jl (by omega)) ch (by omega)
 rw [e1]
 generalize hB:A.crash ch=B at *
 repeat' (first
  | (with_reducible first | apply zY | apply zT | apply zM | apply zN | apply zO | refine qK ?_ | (show False;omega))
  | ((with_reducible first | apply zP | apply zQ | apply zR | apply zL)<;>intro h<;>try (exfalso;first | omega | exact h rfl | (revert h;decide) | (cases h;done)))
  | ((first | (with_reducible first | apply zW | apply zV | apply zU | apply zS | apply zX | show VX _ _ _ _ _ _ _ | show vstep _ _ _ _ _ | show vskip _ _ _ | show withV _ _ | apply qN | apply qR | refine zB default ?_ | refine zC default ?_ | refine qI ?_) | ((with_reducible apply zD);(exact kv)) | ((with_reducible apply zE);(exact kv);rfl) | ((with_reducible apply zF);(exact kv)) | (with_reducible first | apply zG | apply zH | apply zI) | ((with_reducible apply zJ);(first | exact kt | exact ks)) | ((with_reducible show pickE _ _ _);refine qA _ ?_));try simp -dsimp -implicitDefEqProofs (maxSteps:=1000000) (disch:=first | omega | (simp only [LN];omega)) only [go_sem])
 )
end Go.Proofs.YtckhjklcfagkoaaGreatDoor
