/- Contracts of functions of this program, and the plain facts that they rest on. No conditions. -/
import Derived.Test.YtckhjklcfagkoaaGreatDoorJDvOQ
import Derived.Test.YtckhjklcfagkoaaGreatDoorJDvRxQ
import Derived.Test.YtckhjklcfagkoaaGreatDoorJScIQ
set_option linter.unusedSimpArgs false
set_option linter.unusedVariables false
namespace Go.Proofs.YtckhjklcfagkoaaGreatDoor
set_option maxHeartbeats 4000000
set_option maxRecDepth 100000
open Go Go.Ab
attribute [local irreducible] callK callF loopQ vstep vskip pickE hideP
attribute [local go_sem] eE eU deO peO cuO liO thO hiO noO
theorem dStepX (A:Dv) (J:JT) (N:Nat) (h:Inv A J N) (hN:N<1000000000) (x:Ev) (R:Rng x) (hc:x.ch.length≤1000000) (hx:¬ (okE x=true∧x.k=7)) :
  ACallsX Tryz.prog 11 [.loc 0 0,.p (eE x)] (dvL A J) (fun _:{ J2:JT // Inv (A.step x) J2 (N+1) }=>.tup [.loc 0 0,.p (.v (.bool (A.stepB x))),.p (.v (.int .i64 (A.stepE x)))]) (fun g=>(dv2 (A.step x) g.1)):=by
 cases hv:okE x with
 | false=>exact dStepN A J N h x hc hv
 | true =>
  have hk:=okE_t hv
  have hks:x.k=1∨x.k=2∨x.k=3∨x.k=4∨x.k=5∨x.k=6:=by have:¬ x.k=7:=fun e=>hx ⟨hv,e⟩;unfold okK at hk;omega
  rcases hks with e | e | e | e | e | e
  ·exact dStep1 A J N h hN x R hv e
  ·exact dStep2 A J N h hN x R hv e
  ·exact dStep3 A J N h hN x R hv e
  ·exact dStep4 A J N h hN x R hv e
  ·exact dStep5 A J N h hN x R hv e
  ·exact dStep6 A J N h hN x R hv e
noncomputable def Dv.run (A:Dv):List Ev→Dv × Int
 | []=>(A,0)
 | x::l=>if A.stepE x≠0∧A.stepE x≠3 then (A.step x,A.stepE x) else (A.step x).run l
theorem run_stop {A:Dv} {x:Ev} {l:List Ev} (h:¬ A.stepE x=0) (h2:¬ A.stepE x=3):A.run (x::l)=(A.step x,A.stepE x):=if_pos ⟨h,h2⟩
theorem run_go {A:Dv} {x:Ev} {l:List Ev} (h:A.stepE x=0∨A.stepE x=3):A.run (x::l)=(A.step x).run l:=if_neg (by rintro ⟨h1,h2⟩;rcases h with h | h<;>contradiction)
theorem run_nil (A:Dv):A.run []=(A,0):=rfl
theorem step_7 {A:Dv} {x:Ev} (h:okE x=true∧x.k=7):A.step x=A.crash x.ch:=by unfold Dv.step;rw [if_pos h.1,h.2];rfl
theorem step7_e {A:Dv} {x:Ev} (h:okE x=true∧x.k=7):A.stepE x=0:=by unfold Dv.stepE;rw [h.1,h.2];simp
def runR (c:Bool):AV:=match c with
 | false=>.loc 0 0
 | true=>.loc 26 0
def runL (A:Dv) (J:JT) (c:Bool):List Ob:=match c with
 | false=>[deO A 1 2 3 4,peO A,cuO A,liO A J 26,thO A 0 0 18,thO A 1 0 18,thO A 2 0 18,thO A 3 0 18,thO A 4 0 18,thO A 5 0 18,thO A 6 0 18,thO A 7 0 18,.dead,.dead,.dead,.dead,.dead,.dead,noO A 0,noO A 1,noO A 2,noO A 3,noO A 4,noO A 5,noO A 6,noO A 7,hiO A J 0,hiO A J 1,hiO A J 2,hiO A J 3,hiO A J 4,hiO A J 5]
 | true=>[.dead,.dead,.dead,.dead,.dead,.dead,.dead,.dead,.dead,.dead,.dead,.dead,.dead,.dead,.dead,.dead,.dead,.dead,.dead,.dead,.dead,.dead,.dead,.dead,.dead,.dead,deO A 27 28 29 30,peO A,cuO A,liO A J 38,thO A 0 26 44,thO A 1 26 44,thO A 2 26 44,thO A 3 26 44,thO A 4 26 44,thO A 5 26 44,thO A 6 26 44,thO A 7 26 44,hiO A J 0,hiO A J 1,hiO A J 2,hiO A J 3,hiO A J 4,hiO A J 5,noO A 0,noO A 1,noO A 2,noO A 3,noO A 4,noO A 5,noO A 6,noO A 7]
attribute [local go_sem] runR runL
theorem dRun (A:Dv) (J:JT) (N:Nat) (h:Inv A J N) (l:List Ev) (hl:N+l.length<1000000000) (hR:∀ x,x∈l→Rng x∧x.ch.length≤1000000) :
  ACallsX Tryz.prog 16 [.loc 0 0,.p (.view 8 (l.map eE))] (dvL A J) (fun g:{ g:Bool × (JT) // Inv (A.run l).1 g.2 (N+l.length) }=>.tup [runR g.1.1,.p (.v (.int .i64 (A.run l).2))]) (fun g=>runL (A.run l).1 g.1.2 g.1.1):=by
 refine yC (E:=E) (fn:=Tryz.f16) 35 [.tmp 4,.tmp 5] rfl rfl rfl rfl (by decide) rfl (fun g=>by obtain ⟨⟨c,J2⟩,_⟩:=g;cases c<;>rfl) ?_
 repeat' ((fail_if_success (with_reducible show awp _ _ (Code.seq (Code.region 99 _ _) _) _ _));first
  | (with_reducible first | apply zY | apply zT | apply zM | apply zN | apply zO | refine qK ?_ | (show False;omega))
  | ((with_reducible first | apply zP | apply zQ | apply zR | apply zL)<;>intro h<;>try (exfalso;first | omega | exact h rfl | (revert h;decide) | (cases h;done)))
  | ((first | (with_reducible first | apply zW | apply zV | apply zU | apply zS | apply zX | show VX _ _ _ _ _ _ _ | show vstep _ _ _ _ _ | show vskip _ _ _ | show withV _ _ | apply qN | apply qR | refine zB default ?_ | refine zC default ?_ | refine qI ?_) | ((with_reducible show pickE _ _ _);refine qA _ ?_));try simp -dsimp -implicitDefEqProofs (maxSteps:=1000000) (disch:=first | omega | (simp only [LN];omega)) only [go_sem])
 )
 refine r_loop (α:=Nat × Bool × Dv × (JT)) (fun x=>match x with
  | (i,false,D,K)=>⟨35,[(0,some (.loc 0 0)),(11,some (.p (.view 8 (l.map eE)))),(12,some (.p (.v (.int .i64 l.length)))),(13,some (.p (.v (.int .i64 i))))],[some (deO D 1 2 3 4),some (peO D),some (cuO D),some (liO D K 26),some (thO D 0 0 18),some (thO D 1 0 18),some (thO D 2 0 18),some (thO D 3 0 18),some (thO D 4 0 18),some (thO D 5 0 18),some (thO D 6 0 18),some (thO D 7 0 18),some (.dead),some (.dead),some (.dead),some (.dead),some (.dead),some (.dead),some (noO D 0),some (noO D 1),some (noO D 2),some (noO D 3),some (noO D 4),some (noO D 5),some (noO D 6),some (noO D 7),some (hiO D K 0),some (hiO D K 1),some (hiO D K 2),some (hiO D K 3),some (hiO D K 4),some (hiO D K 5)]⟩
  | (i,true,D,K)=>⟨35,[(0,some (.loc 26 0)),(11,some (.p (.view 8 (l.map eE)))),(12,some (.p (.v (.int .i64 l.length)))),(13,some (.p (.v (.int .i64 i))))],[some .dead,some .dead,some .dead,some .dead,some .dead,some .dead,some .dead,some .dead,some .dead,some .dead,some .dead,some .dead,some .dead,some .dead,some .dead,some .dead,some .dead,some .dead,some .dead,some .dead,some .dead,some .dead,some .dead,some .dead,some .dead,some .dead,some (deO D 27 28 29 30),some (peO D),some (cuO D),some (liO D K 38),some (thO D 0 26 44),some (thO D 1 26 44),some (thO D 2 26 44),some (thO D 3 26 44),some (thO D 4 26 44),some (thO D 5 26 44),some (thO D 6 26 44),some (thO D 7 26 44),some (hiO D K 0),some (hiO D K 1),some (hiO D K 2),some (hiO D K 3),some (hiO D K 4),some (hiO D K 5),some (noO D 0),some (noO D 1),some (noO D 2),some (noO D 3),some (noO D 4),some (noO D 5),some (noO D 6),some (noO D 7)]⟩)
  (fun x=>x.1≤l.length∧Inv x.2.2.1 x.2.2.2 (N+x.1)∧A.run l=x.2.2.1.run (l.drop x.1)) (fun x=>l.length - x.1) (0,false,A,J) ?_ ?_ ?_
 ·exact ⟨Nat.zero_le _,h,by rw [List.drop_zero]⟩
 ·refine wk_auto ?_
  simp -dsimp -implicitDefEqProofs (maxSteps:=1000000) (disch:=first | omega | (simp only [LN];omega)) only [go_sem]
 ·rintro ⟨i,c,D,K⟩ ⟨h1,hI,hrun⟩
  simp only at h1 hI hrun
  by_cases hi:i<l.length
  ·have hm:l.getD i default∈l:=by rw [List.getD_eq_getElem?_getD,List.getElem?_eq_getElem hi];exact List.getElem_mem hi
   obtain ⟨hRx,hcx⟩:=hR _ hm
   have hdr:l.drop i=l.getD i default::l.drop (i+1):=by rw [List.drop_eq_getElem_cons hi,List.getD_eq_getElem?_getD,List.getElem?_eq_getElem hi];rfl
   rw [hdr] at hrun
   have hstop:=run_stop (A:=D) (x:=l.getD i default) (l:=l.drop (i+1))
   have hgo:=run_go (A:=D) (x:=l.getD i default) (l:=l.drop (i+1))
   by_cases hx:okE (l.getD i default)=true∧(l.getD i default).k=7
   ·have k7:=dStep7 D K (N+i) hI (by omega) (l.getD i default) hx.1 hx.2
    have e0:=step7_e (A:=D) hx
    rw [hgo (.inl e0)] at hrun
    have hI2:Inv (D.step (l.getD i default)) J0 (N+(i+1)):=by
     rw [step_7 hx];exact hI.crash _
    generalize hxx:l.getD i default=x at *
    generalize hB:D.step x=B at *
    cases c
    all_goals
     repeat' (first
      | (with_reducible first | apply zY | apply zT | apply zM | apply zN | apply zO | refine qK ?_ | (show False;omega))
      | ((with_reducible first | apply zP | apply zQ | apply zR | apply zL)<;>intro h<;>try (exfalso;first | omega | exact h rfl | (revert h;decide) | (cases h;done)))
      | ((first | (with_reducible first | apply zW | apply zV | apply zU | apply zS | apply zX | show VX _ _ _ _ _ _ _ | show vstep _ _ _ _ _ | show vskip _ _ _ | show withV _ _ | apply qN | apply qR | refine zB default ?_ (by first | omega | (simp only [LN,hxx];omega)) (by first | omega | (simp only [LN,hxx];omega)) | refine zC default ?_ (by first | omega | (simp only [LN,hxx];omega)) | refine qI ?_ (by first | decide | omega | assumption | (simp only [LN,hxx];omega))) | (with_reducible first | apply zG | apply zH | apply zI) | ((with_reducible apply zJ);(first | exact k7)) | ((with_reducible show pickE _ _ _);refine qA _ ?_));try simp -dsimp -implicitDefEqProofs (maxSteps:=1000000) (disch:=first | omega | (simp only [LN,hxx];omega)) only [go_sem,hxx])
     )
     all_goals first
      | omega
      | (refine zZ (i+1,true,B,J0) ⟨by show i+1≤_;omega,hI2,hrun⟩ (by show l.length - (i+1)<l.length - i;omega) ?_;(simp -dsimp -implicitDefEqProofs (maxSteps:=1000000) (disch:=first | omega | (simp only [LN];omega)) only [go_sem];try trivial))
   ·have ks:=dStepX D K (N+i) hI (by omega) (l.getD i default) hRx hcx hx
    generalize hxx:l.getD i default=x at *
    generalize hB:D.step x=B at *
    generalize hE:D.stepE x=e at *
    cases c
    ·repeat' (first
      | (with_reducible first | apply zY | apply zT | apply zM | apply zN | apply zO | refine qK ?_ | (show False;omega))
      | ((with_reducible first | apply zP | apply zQ | apply zR | apply zL)<;>intro h<;>try (exfalso;first | omega | exact h rfl | (revert h;decide) | (cases h;done)))
      | ((with_reducible first | refine r_gr0 [12] ?_ | refine r_gr1 [12] ?_ | refine r_gr2 [12] ?_ | refine r_gr3 [12] ?_ | refine r_gr4 [12] ?_ | refine r_gr5 [12] ?_ | refine r_gr6 [12] ?_ | refine r_gr7 [12] ?_ | refine r_gr8 [12] ?_ | refine r_gr9 [12] ?_ | refine r_gr10 [12] ?_);simp -dsimp -implicitDefEqProofs (maxSteps:=1000000) (disch:=first | omega | (simp only [LN,hxx];omega)) only [go_sem,hxx])
      | ((first | (with_reducible first | apply zW | apply zV | apply zU | apply zS | apply zX | show VX _ _ _ _ _ _ _ | show vstep _ _ _ _ _ | show vskip _ _ _ | show withV _ _ | apply qN | apply qR | refine zB default ?_ (by first | omega | (simp only [LN,hxx];omega)) (by first | omega | (simp only [LN,hxx];omega)) | refine zC default ?_ (by first | omega | (simp only [LN,hxx];omega)) | refine qI ?_ (by first | decide | omega | assumption | (simp only [LN,hxx];omega))) | ((with_reducible apply zK);(first | exact ks);intro gq) | ((with_reducible show pickE _ _ _);refine qA _ ?_));try simp -dsimp -implicitDefEqProofs (maxSteps:=1000000) (disch:=first | omega | (simp only [LN,hxx];omega)) only [go_sem,hxx])
     )
     all_goals first
      | omega
      | (refine zZ (i+1,false,B,gq.1) ⟨by show i+1≤_;omega,gq.2,by rw [hrun];exact hgo (by omega)⟩ (by show l.length - (i+1)<l.length - i;omega) ?_;(simp -dsimp -implicitDefEqProofs (maxSteps:=1000000) (disch:=first | omega | (simp only [LN];omega)) only [go_sem];try trivial))
      | (have hrn:=hrun.trans (hstop (by assumption) (by assumption));(refine endX_i (⟨(false,gq.1),by rw [hrn];exact gq.2.le (by omega)⟩) ?_;simp -implicitDefEqProofs only [endA];(simp -dsimp -implicitDefEqProofs (maxSteps:=1000000) (disch:=first | omega | (simp only [LN,hrn];omega)) only [go_sem,hrn];try trivial)))
    ·repeat' (first
      | (with_reducible first | apply zY | apply zT | apply zM | apply zN | apply zO | refine qK ?_ | (show False;omega))
      | ((with_reducible first | apply zP | apply zQ | apply zR | apply zL)<;>intro h<;>try (exfalso;first | omega | exact h rfl | (revert h;decide) | (cases h;done)))
      | ((with_reducible first | refine r_gr0 [12] ?_ | refine r_gr1 [12] ?_ | refine r_gr2 [12] ?_ | refine r_gr3 [12] ?_ | refine r_gr4 [12] ?_ | refine r_gr5 [12] ?_ | refine r_gr6 [12] ?_ | refine r_gr7 [12] ?_ | refine r_gr8 [12] ?_ | refine r_gr9 [12] ?_ | refine r_gr10 [12] ?_);simp -dsimp -implicitDefEqProofs (maxSteps:=1000000) (disch:=first | omega | (simp only [LN,hxx];omega)) only [go_sem,hxx])
      | ((first | (with_reducible first | apply zW | apply zV | apply zU | apply zS | apply zX | show VX _ _ _ _ _ _ _ | show vstep _ _ _ _ _ | show vskip _ _ _ | show withV _ _ | apply qN | apply qR | refine zB default ?_ (by first | omega | (simp only [LN,hxx];omega)) (by first | omega | (simp only [LN,hxx];omega)) | refine zC default ?_ (by first | omega | (simp only [LN,hxx];omega)) | refine qI ?_ (by first | decide | omega | assumption | (simp only [LN,hxx];omega))) | ((with_reducible apply zK);(first | exact ks);intro gq) | ((with_reducible show pickE _ _ _);refine qA _ ?_));try simp -dsimp -implicitDefEqProofs (maxSteps:=1000000) (disch:=first | omega | (simp only [LN,hxx];omega)) only [go_sem,hxx])
     )
     all_goals first
      | omega
      | (refine zZ (i+1,true,B,gq.1) ⟨by show i+1≤_;omega,gq.2,by rw [hrun];exact hgo (by omega)⟩ (by show l.length - (i+1)<l.length - i;omega) ?_;(simp -dsimp -implicitDefEqProofs (maxSteps:=1000000) (disch:=first | omega | (simp only [LN];omega)) only [go_sem];try trivial))
      | (have hrn:=hrun.trans (hstop (by assumption) (by assumption));(refine endX_i (⟨(true,gq.1),by rw [hrn];exact gq.2.le (by omega)⟩) ?_;simp -implicitDefEqProofs only [endA];(simp -dsimp -implicitDefEqProofs (maxSteps:=1000000) (disch:=first | omega | (simp only [LN,hrn];omega)) only [go_sem,hrn];try trivial)))
  ·obtain rfl:i=l.length:=by omega
   rw [List.drop_length,run_nil] at hrun
   cases c
   ·repeat' (first
     | (with_reducible first | apply zY | apply zT | apply zM | apply zN | apply zO | refine qK ?_ | (show False;omega))
     | ((with_reducible first | apply zP | apply zQ | apply zR | apply zL)<;>intro h<;>try (exfalso;first | omega | exact h rfl | (revert h;decide) | (cases h;done)))
     | ((first | (with_reducible first | apply zW | apply zV | apply zU | apply zS | apply zX | show VX _ _ _ _ _ _ _ | show vstep _ _ _ _ _ | show vskip _ _ _ | show withV _ _ | apply qN | apply qR | refine zB default ?_ | refine zC default ?_ | refine qI ?_) | ((with_reducible show pickE _ _ _);refine qA _ ?_));try simp -dsimp -implicitDefEqProofs (maxSteps:=1000000) (disch:=first | omega | (simp only [LN];omega)) only [go_sem])
    )
    all_goals first | omega | ((refine endX_i (⟨(false,K),by rw [hrun];exact hI⟩) ?_;simp -implicitDefEqProofs only [endA];(simp -dsimp -implicitDefEqProofs (maxSteps:=1000000) (disch:=first | omega | (simp only [LN,hrun];omega)) only [go_sem,hrun];try trivial)))
   ·repeat' (first
     | (with_reducible first | apply zY | apply zT | apply zM | apply zN | apply zO | refine qK ?_ | (show False;omega))
     | ((with_reducible first | apply zP | apply zQ | apply zR | apply zL)<;>intro h<;>try (exfalso;first | omega | exact h rfl | (revert h;decide) | (cases h;done)))
     | ((first | (with_reducible first | apply zW | apply zV | apply zU | apply zS | apply zX | show VX _ _ _ _ _ _ _ | show vstep _ _ _ _ _ | show vskip _ _ _ | show withV _ _ | apply qN | apply qR | refine zB default ?_ | refine zC default ?_ | refine qI ?_) | ((with_reducible show pickE _ _ _);refine qA _ ?_));try simp -dsimp -implicitDefEqProofs (maxSteps:=1000000) (disch:=first | omega | (simp only [LN];omega)) only [go_sem])
    )
    all_goals first | omega | ((refine endX_i (⟨(true,K),by rw [hrun];exact hI⟩) ?_;simp -implicitDefEqProofs only [endA];(simp -dsimp -implicitDefEqProofs (maxSteps:=1000000) (disch:=first | omega | (simp only [LN,hrun];omega)) only [go_sem,hrun];try trivial)))
end Go.Proofs.YtckhjklcfagkoaaGreatDoor
namespace Go.Proofs.YtckhjklcfagkoaaGreatDoor
open Go Go.Ab
attribute [local irreducible] callK callF loopQ vstep vskip pickE hideP
set_option maxRecDepth 100000
theorem wrdU_dig (l:List UInt8) (o k:Nat):∀ K,k<K→wrdU l o K / 256 ^ k % 256=bytU l o k
 | 0,h=>absurd h (by omega)
 | K+1,h=>by
  have hb:=bytU_lt l o k
  rw [wrdU]
  by_cases e:k=K
  ·subst e
   rw [Nat.add_mul_div_right _ _ (Nat.pow_pos (by decide)),Nat.div_eq_of_lt (wrdU_lt l o k)];omega
  ·have hlt:k<K:=by omega
   have e2:256 ^ K=256 ^ (K - k - 1)*256*256 ^ k:=by rw [← Nat.pow_succ,← Nat.pow_add];congr 1;omega
   rw [e2,← Nat.mul_assoc,Nat.add_mul_div_right _ _ (Nat.pow_pos (by decide)),← Nat.mul_assoc,Nat.add_mul_mod_self_right]
   exact wrdU_dig l o k K hlt
theorem pB_fW (p:List UInt8) (n m:Nat) (hp:p.length=64*n) (hm:m=64*n):pB (fW p (8*n) m) m=p:=by
 subst hm
 unfold pB
 refine List.ext_getElem (by simp;omega) fun j h1 h2=>?_
 simp only [List.length_map,List.length_range] at h1
 simp only [List.getElem_map,List.getElem_range]
 unfold byW
 rw [fW_get _ _ _ _ (by omega),show min 8 (64*n - 8*(j / 8))=8 by omega]
 have e:=wrdU_dig p (8*(j / 8)) (j % 8) 8 (by omega)
 have e2:bytU p (8*(j / 8)) (j % 8)=(p[j]).toNat:=by
  unfold bytU
  rw [show 8*(j / 8)+j % 8=j by omega,List.getD_eq_getElem?_getD,List.getElem?_eq_getElem (by omega)];rfl
 have e3:(2:Int) ^ (j % 8*8)=((256 ^ (j % 8):Nat):Int):=by rw [Nat.mul_comm];exact pow8U _
 rw [e3,IntKind.wrap_u8]
 have e4:((wrdU p (8*(j / 8)) 8:Nat):Int) / ((256 ^ (j % 8):Nat):Int) % 256=((p[j].toNat:Nat):Int):=by
  rw [← e2,← e];norm_cast
 rw [e4]
 simp
theorem pB_crash (A:Dv) (c:List UInt8):pB (A.crash c).per (64*(A.crash c).n)=pB (imgC A c) (64*A.n):=pB_fW _ A.n _ (pB_len _ _) rfl
end Go.Proofs.YtckhjklcfagkoaaGreatDoor
namespace Go.Proofs.YtckhjklcfagkoaaGreatDoor
set_option maxHeartbeats 4000000
set_option maxRecDepth 100000
open Go Go.Ab
attribute [local irreducible] callK callF loopQ vstep vskip pickE hideP
def vsA:List Ev:=[⟨1,0,0,7,0,0,0,[]⟩,⟨3,0,0,0,0,0,0,[]⟩,⟨4,0,0,0,0,0,0,[]⟩,⟨7,0,0,0,0,0,0,[]⟩]
theorem num_0:numL 0=[48]:=by simp [numL,Lib.itoa,Lib.decDigits]
theorem num_7:numL 7=[55]:=by simp [numL,Lib.itoa,Lib.decDigits]
theorem vsA_ok:∀ x,x∈vsA→okE x=true:=by
 intro x hx
 simp only [vsA,List.mem_cons,List.not_mem_nil,or_false] at hx
 rcases hx with rfl | rfl | rfl | rfl<;>decide
theorem vsA_rng:∀ x,x∈vsA→Rng x:=by
 intro x hx
 simp only [vsA,List.mem_cons,List.not_mem_nil,or_false] at hx
 rcases hx with rfl | rfl | rfl | rfl<;>exact ⟨by decide,by decide,by decide,by decide,by decide,by decide⟩
theorem vsA_tx:txL vsA=[115,116,111,114,101,32,48,32,48,32,55,10,102,108,117,115,104,32,48,32,48,10,102,101,110,99,101,32,48,10,99,114,97,115,104,32,45,10]:=by
 have e1:=vsA_ok
 simp only [vsA,txL,lnE] at *
 rw [if_pos (e1 _ (by simp)),if_pos (e1 _ (by simp)),if_pos (e1 _ (by simp)),if_pos (e1 _ (by simp))]
 simp [txE,wsE,joinL,num_0,num_7,chL]
def Z8:List Int:=List.replicate 8 0
def A1:Dv:={ n:=1,per:=Z8,cur:=Z8.set 0 7,hist:=upd (fun _=>[]) 0 [(0,7)],done:=fun _=>0,err:=fun _=>0,note:=fun _ _=>none,off:=false,armed:=false,left:=0,ex:=1 }
theorem aw_1:(Dv.fresh 1 Z8).step ⟨1,0,0,7,0,0,0,[]⟩=A1∧(Dv.fresh 1 Z8).stepE ⟨1,0,0,7,0,0,0,[]⟩=0:=by
 have hv:okE ⟨1,0,0,7,0,0,0,[]⟩=true:=by decide
 have e:(Dv.fresh 1 Z8).step ⟨1,0,0,7,0,0,0,[]⟩=A1:=by
  unfold Dv.step;rw [if_pos hv]
  simp [Dv.store,Dv.cntB,Dv.cnt,Dv.isW,Dv.fresh,Dv.put,A1,IntKind.wrap_u64]
 refine ⟨e,?_⟩
 unfold Dv.stepE;rw [if_pos hv,e]
 simp [A1,Dv.isW,Dv.fresh]
noncomputable def A2:Dv:={ A1 with note:=upd (fun _ _=>none) 0 (updF (fun _=>none) (.int .i64 0) (some 1)),ex:=2 }
theorem aw_2:A1.step ⟨3,0,0,0,0,0,0,[]⟩=A2∧A1.stepE ⟨3,0,0,0,0,0,0,[]⟩=0:=by
 have hv:okE ⟨3,0,0,0,0,0,0,[]⟩=true:=by decide
 have e:A1.step ⟨3,0,0,0,0,0,0,[]⟩=A2:=by
  unfold Dv.step;rw [if_pos hv]
  simp [Dv.flush,Dv.cntB,Dv.cnt,Dv.isB,Dv.noted,A1,A2,IntKind.wrap_u64,upd]
 refine ⟨e,?_⟩
 unfold Dv.stepE;rw [if_pos hv,e]
 simp [A1,A2,Dv.isB]
theorem aw_3:(A2.step ⟨4,0,0,0,0,0,0,[]⟩).n=1∧(A2.step ⟨4,0,0,0,0,0,0,[]⟩).per.getD 0 0=7∧A2.stepE ⟨4,0,0,0,0,0,0,[]⟩=0:=by
 have hv:okE ⟨4,0,0,0,0,0,0,[]⟩=true:=by decide
 have e:A2.step ⟨4,0,0,0,0,0,0,[]⟩=A2.fence 0:=by unfold Dv.step;rw [if_pos hv];rfl
 have hc:A2.cntB true=true:=by simp [Dv.cntB,A2,A1]
 have hf:A2.fence 0={ fencS (A2.cnt 0 true) 0 (fun _=>True) with note:=upd (A2.cnt 0 true).note 0 (fun _=>none) }:=if_pos hc
 have hcn:A2.cnt 0 true={ A2 with ex:=3 }:=by simp [Dv.cnt,A2,A1,IntKind.wrap_u64]
 refine ⟨by rw [e,fence_n];rfl,?_,?_⟩
 ·rw [e,hf,hcn]
  show (fencS { A2 with ex:=3 } 0 (fun _=>True)).per.getD 0 0=7
  rw [fencS_per,contS_get _ _ _ (by decide)]
  have hk:kF { A2 with ex:=3 } 0 0=1:=by simp [kF,A2,A1,upd,updF]
  simp only [if_true,Nat.zero_div,hk]
  simp [A2,A1,upd,appL,Z8]
 ·unfold Dv.stepE;rw [if_pos hv,e,hf,hcn]
  simp [fencS,A2,A1]
theorem pB_get0 (ws:List Int) (m:Nat) (h:0<m):(pB ws m).getD 0 0=UInt8.ofNat (byW ws 0).toNat:=by
 simp [pB,List.getD_eq_getElem?_getD,h]
theorem byL_0g (ws:List Int) (m:Nat) (h:0<m):(byL ws m m)[0]? = some (.v (.int .u8 (byW ws 0))):=by
 simp [byL,h]
theorem crash_byte (P:Dv) (h1:P.n=1) (h2:P.per.getD 0 0=7):byW (P.crash []).per 0=7:=by
 have e:=pB_crash P []
 have e2:imgC P []=P.per:=by unfold imgC;exact if_pos rfl
 have en:(P.crash []).n=1:=h1
 rw [e2,h1,en] at e
 have e4:byW P.per 0=7:=by
  unfold byW;rw [Nat.zero_div,h2,IntKind.wrap_u8];decide
 have e5:=pB_get0 (P.crash []).per (64*1) (by decide)
 rw [e,pB_get0 P.per (64*1) (by decide),e4] at e5
 have h1:0≤byW (P.crash []).per 0∧byW (P.crash []).per 0<256:=by unfold byW;rw [IntKind.wrap_u8];omega
 generalize byW (P.crash []).per 0=y at *
 have h3:(UInt8.ofNat y.toNat).toNat=7:=by rw [← e5];rfl
 rw [UInt8.toNat_ofNat'] at h3
 omega
theorem aw_run:∃ F:Dv,(Dv.fresh 1 Z8).run vsA=(F,0)∧F.n=1∧byW F.per 0=7:=by
 obtain ⟨a1,a2⟩:=aw_1
 obtain ⟨b1,b2⟩:=aw_2
 obtain ⟨c1,c2,c3⟩:=aw_3
 have h7:okE ⟨7,0,0,0,0,0,0,[]⟩=true∧(⟨7,0,0,0,0,0,0,[]⟩:Ev).k=7:=⟨by decide,rfl⟩
 have e:(Dv.fresh 1 Z8).run vsA=((A2.step ⟨4,0,0,0,0,0,0,[]⟩).step ⟨7,0,0,0,0,0,0,[]⟩,0):=by
  rw [vsA,run_go (.inl a2),a1,run_go (.inl b2),b1,run_go (.inl c3),run_go (.inl (step7_e h7)),run_nil]
 rw [step_7 h7] at e
 generalize A2.step ⟨4,0,0,0,0,0,0,[]⟩=P at *
 exact ⟨P.crash [],e,c1,crash_byte P c1 c2⟩
attribute [local go_sem] eE eT eU deO peO cuO liO thO hiO noO runR runL
theorem vsA_len:vsA.length=4:=rfl
attribute [local irreducible] vsA txL
theorem sAwake :PCalls Tryz.prog 9 [] (.v (.bool true)):=by
 refine yB (E:=E) (fn:=Tryz.f9) 43 [.tmp 0] rfl rfl rfl rfl (by decide) rfl ?_
 have kp:=sParse vsA vsA_rng vsA_ok (by rw [vsA_len];decide)
 rw [vsA_tx] at kp
 have kn:=dNew6 1 (by decide)
 obtain ⟨F,hr,hn,hb⟩:=aw_run
 have kr:=dRun (Dv.fresh 1 Z8) J0 0 (Inv.fresh 1 _ (by decide) (by decide) (by simp [Z8])) vsA (by rw [vsA_len];decide) (fun x hx=>⟨vsA_rng x hx,by have:=okE_t (vsA_ok x hx);unfold okK at this;omega⟩)
 rw [hr] at kr
 repeat' (first
  | (with_reducible first | apply zY | apply zT | apply zM | apply zN | apply zO | refine qK ?_ | (show False;omega))
  | ((with_reducible first | apply zP | apply zQ | apply zR | apply zL)<;>intro h<;>try (exfalso;first | omega | exact h rfl | (revert h;decide) | (cases h;done)))
  | ((with_reducible first | refine r_gr0 [17] ?_ | refine r_gr1 [17] ?_ | refine r_gr2 [17] ?_ | refine r_gr3 [17] ?_ | refine r_gr4 [17] ?_ | refine r_gr5 [17] ?_ | refine r_gr6 [17] ?_ | refine r_gr7 [17] ?_ | refine r_gr8 [17] ?_ | refine r_gr9 [17] ?_ | refine r_gr10 [17] ?_);simp -dsimp -implicitDefEqProofs (maxSteps:=1000000) (disch:=first | omega | (simp only [LN,vsA_len];omega)) only [go_sem,vsA_len])
  | ((first | (with_reducible first | apply zW | apply zV | apply zU | apply zS | apply zX | show VX _ _ _ _ _ _ _ | show vstep _ _ _ _ _ | show vskip _ _ _ | show withV _ _ | apply qN | apply qR | refine zB default ?_ (by first | omega | (simp only [LN,vsA_len];omega)) (by first | omega | (simp only [LN,vsA_len];omega)) | refine zC default ?_ (by first | omega | (simp only [LN,vsA_len];omega)) | refine qI ?_ (by first | decide | omega | assumption | (simp only [LN,vsA_len];omega))) | ((with_reducible apply zD);(exact kp)) | ((with_reducible apply zE);(exact kp);rfl) | ((with_reducible apply zF);(exact kp)) | (with_reducible first | apply zG | apply zH | apply zI) | ((with_reducible apply zJ);(first | exact kn)) | ((with_reducible apply zK);(first | exact kr);intro gq) | ((with_reducible show pickE _ _ _);refine qA _ ?_));try simp -dsimp -implicitDefEqProofs (maxSteps:=1000000) (disch:=first | omega | (simp only [LN,vsA_len];omega)) only [go_sem,vsA_len])
 )
 all_goals try omega
 obtain ⟨⟨c,J2⟩,hI⟩:=gq
 simp only at hI
 have kd:=dPers6 F J2 hI.wf
 have hg:=byL_0g F.per (64*F.n) (by omega)
 cases c
 all_goals
  simp -dsimp -implicitDefEqProofs (maxSteps:=1000000) (disch:=first | omega | (simp only [LN];omega)) only [go_sem]
  repeat' (first
   | (with_reducible first | apply zY | apply zT | apply zM | apply zN | apply zO | refine qK ?_ | (show False;omega))
   | ((with_reducible first | apply zP | apply zQ | apply zR | apply zL)<;>intro h<;>try (exfalso;first | omega | exact h rfl | (revert h;decide) | (cases h;done)))
   | ((first | (with_reducible first | apply zW | apply zV | apply zU | apply zS | apply zX | show VX _ _ _ _ _ _ _ | show vstep _ _ _ _ _ | show vskip _ _ _ | show withV _ _ | apply qN | apply qR | refine zB default ?_ (by first | omega | (simp only [LN,hb];omega)) (by first | omega | (simp only [LN,hb];omega)) | refine zC default ?_ (by first | omega | (simp only [LN,hb];omega)) | refine qI ?_ (by first | decide | omega | assumption | (simp only [LN,hb];omega))) | (with_reducible first | apply zG | apply zH | apply zI) | ((with_reducible apply zJ);(first | exact kd)) | ((with_reducible show pickE _ _ _);refine qA _ ?_));try simp -dsimp -implicitDefEqProofs (maxSteps:=1000000) (disch:=first | omega | (simp only [LN,hb];omega)) only [go_sem,hb])
  )
  refine zA _ hg ?_
  simp -dsimp -implicitDefEqProofs (maxSteps:=1000000) (disch:=first | omega | (simp only [LN,hb];omega)) only [go_sem,hb]
  repeat' (first
   | (with_reducible first | apply zY | apply zT | apply zM | apply zN | apply zO | refine qK ?_ | (show False;omega))
   | ((with_reducible first | apply zP | apply zQ | apply zR | apply zL)<;>intro h<;>try (exfalso;first | omega | exact h rfl | (revert h;decide) | (cases h;done)))
   | ((first | (with_reducible first | apply zW | apply zV | apply zU | apply zS | apply zX | show VX _ _ _ _ _ _ _ | show vstep _ _ _ _ _ | show vskip _ _ _ | show withV _ _ | apply qN | apply qR | refine zB default ?_ (by first | omega | (simp only [LN,hb];omega)) (by first | omega | (simp only [LN,hb];omega)) | refine zC default ?_ (by first | omega | (simp only [LN,hb];omega)) | refine qI ?_ (by first | decide | omega | assumption | (simp only [LN,hb];omega))) | ((with_reducible show pickE _ _ _);refine qA _ ?_));try simp -dsimp -implicitDefEqProofs (maxSteps:=1000000) (disch:=first | omega | (simp only [LN,hb];omega)) only [go_sem,hb])
  )
  all_goals first | rfl | omega
end Go.Proofs.YtckhjklcfagkoaaGreatDoor
namespace Go.Proofs.YtckhjklcfagkoaaGreatDoor
set_option maxHeartbeats 4000000
set_option maxRecDepth 100000
open Go Go.Ab
attribute [local irreducible] callK callF loopQ vstep vskip pickE hideP
open Go.RowKit
attribute [local go_sem] eE rE
def plE (x:Ev):Ev:={ x with k:=x.k % 256,ch:=if 600<x.ch.length then x.ch.take 600 else x.ch }
theorem plE_rng {x:Ev} (R:Rng x):Rng (plE x):=⟨R.th,R.o,R.v,R.w,R.ln,R.n⟩
theorem plE_k (x:Ev):0≤(plE x).k∧(plE x).k≤255:=by show 0≤x.k % 256∧x.k % 256≤255;omega
theorem plE_ch (x:Ev):(plE x).ch.length≤600:=by
 show (if 600<x.ch.length then x.ch.take 600 else x.ch).length≤600
 split
 ·simp;omega
 ·omega
theorem tmod_rng (k:Int):-255≤k.tmod 256∧k.tmod 256≤255∧(k.tmod 256+256).tmod 256=k % 256:=by
 have h1:-255≤k.tmod 256∧k.tmod 256≤255:=by
  have:=Int.tmod_lt_of_pos k (show (0:Int)<256 by decide)
  have h2:=Int.lt_tmod_of_pos k (show (0:Int)<256 by decide)
  omega
 refine ⟨h1.1,h1.2,?_⟩
 rw [Int.tmod_eq_emod_of_nonneg (by omega)]
 have e:=Int.tmod_eq_emod (a:=k) (b:=256)
 split at e<;>omega
theorem bPlain (x:Ev) (hc:x.ch.length≤140737488355328):PCalls Tryz.prog 32 [rE x] (rE (plE x)):=by
 refine yB (E:=E) (fn:=Tryz.f32) 18 [.cell 2 35] rfl rfl rfl rfl (by decide) rfl ?_
 obtain ⟨h1,h2,h3⟩:=tmod_rng x.k
 have e1:IntKind.i64.wrap (x.k.tmod 256+256)=x.k.tmod 256+256:=i64w (by omega) (by omega)
 have e2:IntKind.i64.wrap (256+x.k.tmod 256)=x.k.tmod 256+256:=by rw [Int.add_comm];exact e1
 have e3:256+x.k.tmod 256=x.k.tmod 256+256:=Int.add_comm _ _
 by_cases hl:600<x.ch.length
 ·have ep:plE x={ x with k:=x.k % 256,ch:=x.ch.take 600 }:=by unfold plE;rw [if_pos hl]
  rw [ep]
  repeat' (first
   | (with_reducible first | apply zY | apply zT | apply zM | apply zN | apply zO | refine qK ?_ | (show False;omega))
   | ((with_reducible first | apply zP | apply zQ | apply zR | apply zL)<;>intro h<;>try (exfalso;first | omega | exact h rfl | (revert h;decide) | (cases h;done)))
   | ((first | (with_reducible first | apply zW | apply zV | apply zU | apply zS | apply zX | show VX _ _ _ _ _ _ _ | show vstep _ _ _ _ _ | show vskip _ _ _ | show withV _ _ | apply qN | apply qR | refine zB default ?_ (by first | omega | (simp only [LN,e1,e2,e3,h3];omega)) (by first | omega | (simp only [LN,e1,e2,e3,h3];omega)) | refine zC default ?_ (by first | omega | (simp only [LN,e1,e2,e3,h3];omega)) | refine qI ?_ (by first | decide | omega | assumption | (simp only [LN,e1,e2,e3,h3];omega))) | ((with_reducible show pickE _ _ _);refine qA _ ?_));try simp -dsimp -implicitDefEqProofs (maxSteps:=1000000) (disch:=first | omega | (simp only [LN,e1,e2,e3,h3];omega)) only [go_sem,e1,e2,e3,h3])
  )
  all_goals first | omega | (simp;done)
 ·have ep:plE x={ x with k:=x.k % 256 }:=by unfold plE;rw [if_neg hl]
  rw [ep]
  repeat' (first
   | (with_reducible first | apply zY | apply zT | apply zM | apply zN | apply zO | refine qK ?_ | (show False;omega))
   | ((with_reducible first | apply zP | apply zQ | apply zR | apply zL)<;>intro h<;>try (exfalso;first | omega | exact h rfl | (revert h;decide) | (cases h;done)))
   | ((first | (with_reducible first | apply zW | apply zV | apply zU | apply zS | apply zX | show VX _ _ _ _ _ _ _ | show vstep _ _ _ _ _ | show vskip _ _ _ | show withV _ _ | apply qN | apply qR | refine zB default ?_ (by first | omega | (simp only [LN,e1,e2,e3,h3];omega)) (by first | omega | (simp only [LN,e1,e2,e3,h3];omega)) | refine zC default ?_ (by first | omega | (simp only [LN,e1,e2,e3,h3];omega)) | refine qI ?_ (by first | decide | omega | assumption | (simp only [LN,e1,e2,e3,h3];omega))) | ((with_reducible show pickE _ _ _);refine qA _ ?_));try simp -dsimp -implicitDefEqProofs (maxSteps:=1000000) (disch:=first | omega | (simp only [LN,e1,e2,e3,h3];omega)) only [go_sem,e1,e2,e3,h3])
  )
  all_goals first | omega | (simp;done)
end Go.Proofs.YtckhjklcfagkoaaGreatDoor
