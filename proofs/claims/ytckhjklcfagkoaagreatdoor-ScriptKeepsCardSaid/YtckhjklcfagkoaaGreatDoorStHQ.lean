/- Contracts of functions of this program, and the plain facts that they rest on. No conditions. -/
import Derived.Test.YtckhjklcfagkoaaGreatDoorJRvQQ
set_option linter.unusedSectionVars false
set_option linter.unusedSimpArgs false
set_option warn.classDefReducibility false
set_option linter.unusedVariables false
namespace Go.Proofs.YtckhjklcfagkoaaGreatDoor
set_option maxHeartbeats 4000000
set_option maxRecDepth 100000
open Go Go.Ab
attribute [local irreducible] callK callF loopQ vstep vskip pickE hideP
open Go.RowKit
theorem Inv.jz {A:Dv} {J:JT} {N:Nat} (h:Inv A J N):Inv A J0 N:=⟨h.wf,h.no,fun r hr=>by rw [jk_J0];exact (h.wf.len r hr).1,h.bd⟩
open Classical in
theorem Inv.stepz {A:Dv} {N:Nat} (h:Inv A J0 N) (hN:N<1000000000) {x:Ev} (R:Rng x):Inv (A.step x) J0 (N+1):=by
 unfold Dv.step
 by_cases hv:okE x=true
 ·rw [if_pos hv]
  have hok:=okE_t hv
  by_cases k1:x.k=1
  ·rw [if_pos k1];exact (h.store hN _ R.o.1 R.v true).jz
  rw [if_neg k1]
  by_cases k2:x.k=2
  ·rw [if_pos k2];exact (h.cas hN _ R.o.1 R.v true).jz
  rw [if_neg k2]
  by_cases k3:x.k=3
  ·rw [if_pos k3];exact (h.flush _ R.o.1).le (by omega)
  rw [if_neg k3]
  by_cases k4:x.k=4
  ·rw [if_pos k4]
   have hk:x.th.toNat<8:=by unfold okK at hok;omega
   refine (h.fence x.th.toNat hk (J2:=J0) fun r hr=>?_).le (by omega)
   rw [jk_J0]
   unfold Dv.fence
   split
   ·have hB:=h.cnt x.th.toNat true
    show (0:Int)≤(fencS (A.cnt x.th.toNat true) x.th.toNat fun _=>True).done r
    rw [(fencS_hd _ _ _ _).2,if_pos trivial]
    have:=(hB.wf.len r hr).1
    omega
   ·exact ((h.cnt x.th.toNat true).wf.len r hr).1
  rw [if_neg k4]
  by_cases k5:x.k=5
  ·rw [if_pos k5];exact (h.wb _ _).jz.le (by omega)
  rw [if_neg k5]
  by_cases k6:x.k=6
  ·rw [if_pos k6];exact (h.arm _).le (by omega)
  rw [if_neg k6]
  by_cases k7:x.k=7
  ·exact h.crash _
  ·exfalso;unfold okK at hok;omega
 ·rw [if_neg hv];exact h.le (by omega)
def rRunR (c:Bool):AV:=match c with
 | false=>.loc 0 0
 | true=>.loc 2 0
def rRunL (A:Dv) (M:MT) (c:Bool):List Ob:=match c with
 | false=>[rdO A M 1,rlO A]
 | true=>[.dead,.dead,rdO A M 3,rlO A]
attribute [local go_sem] rE rdO rlO lns_len rRunR rRunL
theorem rRun (A:Dv) (M:MT) (N:Nat) (h:Inv A J0 N) (hR0:RInv A M N) (l:List Ev) (hl:N+l.length<1000000) (hR:∀ x,x∈l→Rng x∧x.ch.length≤1000000) :
  ACallsX Tryz.prog 18 [.loc 0 0,.p (.view 8 (l.map rE))] [rdO A M 1,rlO A] (fun g:{ g:Bool × (MT) // RInv (A.run l).1 g.2 (N+l.length) }=>.tup [rRunR g.1.1,.p (.v (.int .i64 (A.run l).2))]) (fun g=>rRunL (A.run l).1 g.1.2 g.1.1):=by
 refine yC (E:=E) (fn:=Tryz.f18) 35 [.tmp 4,.tmp 5] rfl rfl rfl rfl (by decide) rfl (fun g=>by obtain ⟨⟨c,J2⟩,_⟩:=g;cases c<;>rfl) ?_
 repeat' ((fail_if_success (with_reducible show awp _ _ (Code.seq (Code.region 99 _ _) _) _ _));first
  | (with_reducible first | apply zY | apply zT | apply zM | apply zN | apply zO | refine qK ?_ | (show False;omega))
  | ((with_reducible first | apply zP | apply zQ | apply zR | apply zL)<;>intro h<;>try (exfalso;first | omega | exact h rfl | (revert h;decide) | (cases h;done)))
  | ((first | (with_reducible first | apply zW | apply zV | apply zU | apply zS | apply zX | show VX _ _ _ _ _ _ _ | show vstep _ _ _ _ _ | show vskip _ _ _ | show withV _ _ | apply qN | apply qR | refine zB default ?_ | refine zC default ?_ | refine qI ?_) | ((with_reducible show pickE _ _ _);refine qA _ ?_));try simp -dsimp -implicitDefEqProofs (maxSteps:=1000000) (disch:=first | omega | (simp only [LN];omega)) only [go_sem])
 )
 refine r_loop (α:=Nat × Bool × Dv × (MT)) (fun x=>match x with
  | (i,false,D,K)=>⟨35,[(0,some (.loc 0 0)),(11,some (.p (.view 8 (l.map rE)))),(12,some (.p (.v (.int .i64 l.length)))),(13,some (.p (.v (.int .i64 i))))],[some (rdO D K 1),some (rlO D)]⟩
  | (i,true,D,K)=>⟨35,[(0,some (.loc 2 0)),(11,some (.p (.view 8 (l.map rE)))),(12,some (.p (.v (.int .i64 l.length)))),(13,some (.p (.v (.int .i64 i))))],[some .dead,some .dead,some (rdO D K 3),some (rlO D)]⟩)
  (fun x=>x.1≤l.length∧(Inv x.2.2.1 J0 (N+x.1)∧RInv x.2.2.1 x.2.2.2 (N+x.1))∧A.run l=x.2.2.1.run (l.drop x.1)) (fun x=>l.length - x.1) (0,false,A,M) ?_ ?_ ?_
 ·exact ⟨Nat.zero_le _,⟨h,hR0⟩,by rw [List.drop_zero]⟩
 ·refine wk_auto ?_
  simp -dsimp -implicitDefEqProofs (maxSteps:=1000000) (disch:=first | omega | (simp only [LN];omega)) only [go_sem]
 ·rintro ⟨i,c,D,K⟩ ⟨h1,⟨hI,hRI⟩,hrun⟩
  simp only at h1 hI hRI hrun
  by_cases hi:i<l.length
  ·have hm:l.getD i default∈l:=getD_in hi
   obtain ⟨hRx,hcx⟩:=hR _ hm
   have hdr:l.drop i=l.getD i default::l.drop (i+1):=by rw [List.drop_eq_getElem_cons hi,List.getD_eq_getElem?_getD,List.getElem?_eq_getElem hi];rfl
   rw [hdr] at hrun
   have hstop:=run_stop (A:=D) (x:=l.getD i default) (l:=l.drop (i+1))
   have hgo:=run_go (A:=D) (x:=l.getD i default) (l:=l.drop (i+1))
   have hI2:Inv (D.step (l.getD i default)) J0 (N+(i+1)):=hI.stepz (by omega) hRx
   by_cases hx:okE (l.getD i default)=true∧(l.getD i default).k=7
   ·have k7:=rStep7 D K (N+i) hRI (l.getD i default) hx.1 hx.2
    have e0:=step7_e (A:=D) hx
    rw [hgo (.inl e0)] at hrun
    have hR2:RInv (D.step (l.getD i default)) M0 (N+(i+1)):=by rw [step_7 hx];exact (RInv.crash ⟨hI.wf.n0,hI.wf.n6⟩ _ (by rw [← step_7 hx];exact hI2.wf)).le (by omega)
    generalize hxx:l.getD i default=x at *
    generalize hB:D.step x=B at *
    cases c
    all_goals
     repeat' (first
      | (with_reducible first | apply zY | apply zT | apply zM | apply zN | apply zO | refine qK ?_ | (show False;omega))
      | ((with_reducible first | apply zP | apply zQ | apply zR | apply zL)<;>intro h<;>try (exfalso;first | omega | exact h rfl | (revert h;decide) | (cases h;done)))
      | ((first | (with_reducible first | apply zW | apply zV | apply zU | apply zS | apply zX | show VX _ _ _ _ _ _ _ | show vstep _ _ _ _ _ | show vskip _ _ _ | show withV _ _ | apply qN | apply qR | refine zB default ?_ (by first | omega | (simp only [LN,hxx];omega)) (by first | omega | (simp only [LN,hxx];omega)) | refine zC default ?_ (by first | omega | (simp only [LN,hxx];omega)) | refine qI ?_ (by first | decide | omega | assumption | (simp only [LN,hxx];omega))) | (with_reducible first | apply zG | apply zH | apply zI) | ((with_reducible apply zJ);(first | exact k7)) | ((with_reducible show pickE _ _ _);refine qA _ ?_));try simp -dsimp -implicitDefEqProofs (maxSteps:=1000000) (disch:=first | omega | (simp only [LN,hxx];omega)) only [go_sem,hxx])
     )
     all_goals first
      | omega
      | (refine zZ (i+1,true,B,M0) ⟨by show i+1≤_;omega,⟨hI2,hR2⟩,hrun⟩ (by show l.length - (i+1)<l.length - i;omega) ?_;(simp -dsimp -implicitDefEqProofs (maxSteps:=1000000) (disch:=first | omega | (simp only [LN];omega)) only [go_sem];try trivial))
   ·have ks:=rStepX D K (N+i) hRI (by omega) hI.no (l.getD i default) hRx hcx hx
    have hR2:RInv (D.step (l.getD i default)) (Mv D K (l.getD i default)) (N+(i+1)):=hRI.step hI.no hRx hI2.wf
    generalize hxx:l.getD i default=x at *
    generalize hB:D.step x=B at *
    generalize hE:D.stepE x=e at *
    generalize Mv D K x=K2 at *
    cases c
    ·repeat' (first
      | (with_reducible first | apply zY | apply zT | apply zM | apply zN | apply zO | refine qK ?_ | (show False;omega))
      | ((with_reducible first | apply zP | apply zQ | apply zR | apply zL)<;>intro h<;>try (exfalso;first | omega | exact h rfl | (revert h;decide) | (cases h;done)))
      | ((first | (with_reducible first | apply zW | apply zV | apply zU | apply zS | apply zX | show VX _ _ _ _ _ _ _ | show vstep _ _ _ _ _ | show vskip _ _ _ | show withV _ _ | apply qN | apply qR | refine zB default ?_ (by first | omega | (simp only [LN,hxx];omega)) (by first | omega | (simp only [LN,hxx];omega)) | refine zC default ?_ (by first | omega | (simp only [LN,hxx];omega)) | refine qI ?_ (by first | decide | omega | assumption | (simp only [LN,hxx];omega))) | (with_reducible first | apply zG | apply zH | apply zI) | ((with_reducible apply zJ);(first | exact ks)) | ((with_reducible show pickE _ _ _);refine qA _ ?_));try simp -dsimp -implicitDefEqProofs (maxSteps:=1000000) (disch:=first | omega | (simp only [LN,hxx];omega)) only [go_sem,hxx])
     )
     all_goals first
      | omega
      | (refine zZ (i+1,false,B,K2) ⟨by show i+1≤_;omega,⟨hI2,hR2⟩,by rw [hrun];exact hgo (by omega)⟩ (by show l.length - (i+1)<l.length - i;omega) ?_;(simp -dsimp -implicitDefEqProofs (maxSteps:=1000000) (disch:=first | omega | (simp only [LN];omega)) only [go_sem];try trivial))
      | (have hrn:=hrun.trans (hstop (by assumption) (by assumption));(refine endX_i (⟨(false,K2),by rw [hrn];exact hR2.le (by omega)⟩) ?_;simp -implicitDefEqProofs only [endA];(simp -dsimp -implicitDefEqProofs (maxSteps:=1000000) (disch:=first | omega | (simp only [LN,hrn];omega)) only [go_sem,hrn];try trivial)))
    ·repeat' (first
      | (with_reducible first | apply zY | apply zT | apply zM | apply zN | apply zO | refine qK ?_ | (show False;omega))
      | ((with_reducible first | apply zP | apply zQ | apply zR | apply zL)<;>intro h<;>try (exfalso;first | omega | exact h rfl | (revert h;decide) | (cases h;done)))
      | ((first | (with_reducible first | apply zW | apply zV | apply zU | apply zS | apply zX | show VX _ _ _ _ _ _ _ | show vstep _ _ _ _ _ | show vskip _ _ _ | show withV _ _ | apply qN | apply qR | refine zB default ?_ (by first | omega | (simp only [LN,hxx];omega)) (by first | omega | (simp only [LN,hxx];omega)) | refine zC default ?_ (by first | omega | (simp only [LN,hxx];omega)) | refine qI ?_ (by first | decide | omega | assumption | (simp only [LN,hxx];omega))) | (with_reducible first | apply zG | apply zH | apply zI) | ((with_reducible apply zJ);(first | exact ks)) | ((with_reducible show pickE _ _ _);refine qA _ ?_));try simp -dsimp -implicitDefEqProofs (maxSteps:=1000000) (disch:=first | omega | (simp only [LN,hxx];omega)) only [go_sem,hxx])
     )
     all_goals first
      | omega
      | (refine zZ (i+1,true,B,K2) ⟨by show i+1≤_;omega,⟨hI2,hR2⟩,by rw [hrun];exact hgo (by omega)⟩ (by show l.length - (i+1)<l.length - i;omega) ?_;(simp -dsimp -implicitDefEqProofs (maxSteps:=1000000) (disch:=first | omega | (simp only [LN];omega)) only [go_sem];try trivial))
      | (have hrn:=hrun.trans (hstop (by assumption) (by assumption));(refine endX_i (⟨(true,K2),by rw [hrn];exact hR2.le (by omega)⟩) ?_;simp -implicitDefEqProofs only [endA];(simp -dsimp -implicitDefEqProofs (maxSteps:=1000000) (disch:=first | omega | (simp only [LN,hrn];omega)) only [go_sem,hrn];try trivial)))
  ·obtain rfl:i=l.length:=by omega
   rw [List.drop_length,run_nil] at hrun
   cases c
   ·repeat' (first
     | (with_reducible first | apply zY | apply zT | apply zM | apply zN | apply zO | refine qK ?_ | (show False;omega))
     | ((with_reducible first | apply zP | apply zQ | apply zR | apply zL)<;>intro h<;>try (exfalso;first | omega | exact h rfl | (revert h;decide) | (cases h;done)))
     | ((first | (with_reducible first | apply zW | apply zV | apply zU | apply zS | apply zX | show VX _ _ _ _ _ _ _ | show vstep _ _ _ _ _ | show vskip _ _ _ | show withV _ _ | apply qN | apply qR | refine zB default ?_ | refine zC default ?_ | refine qI ?_) | ((with_reducible show pickE _ _ _);refine qA _ ?_));try simp -dsimp -implicitDefEqProofs (maxSteps:=1000000) (disch:=first | omega | (simp only [LN];omega)) only [go_sem])
    )
    all_goals first | omega | ((refine endX_i (⟨(false,K),by rw [hrun];exact hRI⟩) ?_;simp -implicitDefEqProofs only [endA];(simp -dsimp -implicitDefEqProofs (maxSteps:=1000000) (disch:=first | omega | (simp only [LN,hrun];omega)) only [go_sem,hrun];try trivial)))
   ·repeat' (first
     | (with_reducible first | apply zY | apply zT | apply zM | apply zN | apply zO | refine qK ?_ | (show False;omega))
     | ((with_reducible first | apply zP | apply zQ | apply zR | apply zL)<;>intro h<;>try (exfalso;first | omega | exact h rfl | (revert h;decide) | (cases h;done)))
     | ((first | (with_reducible first | apply zW | apply zV | apply zU | apply zS | apply zX | show VX _ _ _ _ _ _ _ | show vstep _ _ _ _ _ | show vskip _ _ _ | show withV _ _ | apply qN | apply qR | refine zB default ?_ | refine zC default ?_ | refine qI ?_) | ((with_reducible show pickE _ _ _);refine qA _ ?_));try simp -dsimp -implicitDefEqProofs (maxSteps:=1000000) (disch:=first | omega | (simp only [LN];omega)) only [go_sem])
    )
    all_goals first | omega | ((refine endX_i (⟨(true,K),by rw [hrun];exact hRI⟩) ?_;simp -implicitDefEqProofs only [endA];(simp -dsimp -implicitDefEqProofs (maxSteps:=1000000) (disch:=first | omega | (simp only [LN,hrun];omega)) only [go_sem,hrun];try trivial)))
end Go.Proofs.YtckhjklcfagkoaaGreatDoor
