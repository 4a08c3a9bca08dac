/- Contracts of functions of this program, and the plain facts that they rest on. No conditions. -/
import Derived.Test.YtckhjklcfagkoaaGreatDoorJRvLQ
import Derived.Test.YtckhjklcfagkoaaGreatDoorJDvU2Q
import Derived.Test.YtckhjklcfagkoaaGreatDoorJKpLQ
import Derived.Test.YtckhjklcfagkoaaGreatDoorAc4
import Derived.Test.YtckhjklcfagkoaaGreatDoorJBldQ
set_option linter.unusedSectionVars false
set_option linter.unusedSimpArgs false
set_option warn.classDefReducibility false
set_option linter.unusedVariables false
namespace Go.Proofs.YtckhjklcfagkoaaGreatDoor
set_option maxHeartbeats 4000000
set_option maxRecDepth 100000
open Go Go.Ab
attribute [local irreducible] callK callF loopQ vstep vskip pickE hideP
theorem bMod (a n:Int) (hn:0<n∧n≤1000000) (ha:-9223372036854775808≤a∧a≤9223372036854775807):PCalls Tryz.prog 77 [.v (.int .i64 a),.v (.int .i64 n)] (.v (.int .i64 (a % n))):=by
 refine yB (E:=E) (fn:=Tryz.f77) 12 [.tmp 4] rfl rfl rfl rfl (by decide) rfl ?_
 have h0:n≠0:=by omega
 have hb:=Int.emod_nonneg a h0
 have hl:=Int.emod_lt_of_pos a hn.1
 have hna:((n.natAbs:Nat):Int)=n:=by omega
 have ht:a.tmod n=a % n∨a.tmod n=a % n - n:=by
  rw [Int.tmod_eq_emod]
  split
  ·exact .inl (by omega)
  ·exact .inr (by rw [hna])
 have e0:IntKind.i64.wrap (a.tmod n)=a.tmod n:=by rw [IntKind.wrap_i64];omega
 have e1:IntKind.i64.wrap (a.tmod n+n)=a.tmod n+n:=by rw [IntKind.wrap_i64];omega
 have e2:(a.tmod n+n).tmod n=a % n:=by
  rw [Int.tmod_eq_emod_of_nonneg (by omega),Int.add_emod_right]
  rcases ht with ht | ht
  ·rw [ht,Int.emod_emod]
  ·rw [ht,Int.sub_emod_right,Int.emod_emod]
 have e3:IntKind.i64.wrap (a % n)=a % n:=by
  have:=Int.emod_nonneg a h0
  have:=Int.emod_lt_of_pos a hn.1
  rw [IntKind.wrap_i64];omega
 repeat' (first
  | (with_reducible first | apply zY | apply zT | apply zM | apply zN | apply zO | refine qK ?_ | (show False;omega))
  | ((with_reducible first | apply zP | apply zQ | apply zR | apply zL)<;>intro h)
  | ((first | (with_reducible first | apply zW | apply zV | apply zU | apply zS | apply zX | show VX _ _ _ _ _ _ _ | show vstep _ _ _ _ _ | show vskip _ _ _ | show withV _ _ | apply qN | apply qR | refine zB default ?_ (by first | omega | (simp only [LN,e0,e1,e2,e3,h0];omega)) (by first | omega | (simp only [LN,e0,e1,e2,e3,h0];omega)) | refine zC default ?_ (by first | omega | (simp only [LN,e0,e1,e2,e3,h0];omega)) | refine qI ?_ (by first | decide | omega | assumption | (simp only [LN,e0,e1,e2,e3,h0];omega))) | ((with_reducible show pickE _ _ _);refine qA _ ?_));try simp -dsimp -implicitDefEqProofs (maxSteps:=1000000) (disch:=first | omega | (simp only [LN,e0,e1,e2,e3,h0];omega)) only [go_sem,e0,e1,e2,e3,h0])
 )
attribute [local go_sem] eWr
theorem bSameW (l:List (Int × Int)) (hl:l.length≤1000000000):PCalls Tryz.prog 57 [.view 2 (l.map eWr),.view 2 (l.map eWr)] (.v (.bool true)):=by
 refine yD ⟨_,rfl,rfl,by decide⟩ fun hf=>?_
 simp only [go_sem,big] at hf
 refine yB (E:=E) (fn:=Tryz.f57) 26 [.tmp 4] rfl rfl rfl rfl (by decide) rfl ?_
 repeat' (first
  | (with_reducible first | apply zY | apply zT | apply zM | apply zN | apply zO | refine qK ?_ | (show False;omega))
  | ((with_reducible first | apply zP | apply zQ | apply zR | apply zL)<;>intro h)
  | ((first | (with_reducible first | apply zW | apply zV | apply zU | apply zS | apply zX | show VX _ _ _ _ _ _ _ | show vstep _ _ _ _ _ | show vskip _ _ _ | show withV _ _ | apply qN | apply qR | refine zB default ?_ | refine zC default ?_ | refine qI ?_) | ((with_reducible show pickE _ _ _);refine qA _ ?_));try simp -dsimp -implicitDefEqProofs (maxSteps:=1000000) (disch:=first | omega | (simp only [LN];omega)) only [go_sem])
 )
 refine r_loopA (α:=Nat) [0,1,12] (fun i b=>[(13,aI i)]) (fun i b=>[]) (fun i=>[]) (fun i=>i≤l.length) (fun i=>l.length - i) (0) ?h0_1 ?hs0_1 ?I_1 ?hI_1 ?round_1
 case hI_1=>intro x;(simp -dsimp -implicitDefEqProofs (maxSteps:=1000000) (disch:=first | omega | (simp only [LN];omega)) only [go_sem])<;>exact rfl
 case hs0_1=>refine wk_auto ?_;(simp -dsimp -implicitDefEqProofs (maxSteps:=1000000) (disch:=first | omega | (simp only [LN];omega)) only [go_sem])<;>(try omega)
 case h0_1=>exact Nat.zero_le _
 case round_1 =>
  intro i hi
  have w3:IntKind.i64.wrap ((i:Int)+1)=((i+1:Nat):Int):=by rw [IntKind.wrap_i64];push_cast;omega
  repeat' (first
   | (with_reducible first | apply zY | apply zT | apply zM | apply zN | apply zO | refine qK ?_ | (show False;omega))
   | ((with_reducible first | apply zP | apply zQ | apply zR | apply zL)<;>intro h<;>try (exfalso;first | omega | exact h rfl | (revert h;decide) | (cases h;done)))
   | ((first | (with_reducible first | apply zW | apply zV | apply zU | apply zS | apply zX | show VX _ _ _ _ _ _ _ | show vstep _ _ _ _ _ | show vskip _ _ _ | show withV _ _ | apply qN | apply qR | refine zB default ?_ (by first | omega | (simp only [LN,w3];omega)) (by first | omega | (simp only [LN,w3];omega)) | refine zC default ?_ (by first | omega | (simp only [LN,w3];omega)) | refine qI ?_ (by first | decide | omega | assumption | (simp only [LN,w3];omega))) | ((with_reducible show pickE _ _ _);refine qA _ ?_));try simp -dsimp -implicitDefEqProofs (maxSteps:=1000000) (disch:=first | omega | (simp only [LN,w3];omega)) only [go_sem,w3])
  )
  all_goals first | omega | (refine zZ (i+1) ?_ ?_ ?_;(omega);(show _<_;omega);(simp -dsimp -implicitDefEqProofs (maxSteps:=1000000) (disch:=first | omega | (simp only [LN];omega)) only [go_sem];try trivial))
theorem acalls_sl0 {P:Program} {f:FuncId} {L L':List Ob} {r:AV} {i sz st:Nat} (hs:0<sz) (h:ACalls P f [.p (.v (.slice none 0 0))] L r L') (h':ACalls P f [.p (.nview sz [])] L r L'):ACalls P f [.sl i sz st 0] L r L':=by
 refine ⟨h.1,h.2.1,fun Z lb w vals ho hr=>?_⟩
 simp only [AReps] at hr
 obtain ⟨u,us,h1,h2,h3⟩:=hr
 simp only [ARep] at h2
 rcases h2 with ⟨_,_,_,rfl⟩ | ⟨b,cap,_,rfl,h4,_⟩
 ·exact h.2.2 Z lb w vals ho ⟨_,us,h1,⟨rfl,rfl⟩,h3⟩
 ·exact h'.2.2 Z lb w vals ho ⟨_,us,h1,⟨[],⟨b,st*sz,none⟩,cap,rfl,rfl,hs,fun x hx=>by simp at hx,Nat.zero_le _,h4,.inl rfl⟩,h3⟩
theorem dCloneE (es:List PV):ACalls Tryz.prog 64 [.p (.v (.slice none 0 0))] [.arr 2 es] (.p (.view 2 [])) [.arr 2 es]:=by
 refine yA (E:=E) (fn:=Tryz.f64) 8 [.tmp 2] rfl rfl rfl rfl (by decide) rfl rfl ?_
 repeat' (first
  | (with_reducible first | apply zY | apply zT | apply zM | apply zN | apply zO | refine qK ?_ | (show False;omega))
  | ((with_reducible first | apply zP | apply zQ | apply zR | apply zL)<;>intro h<;>try (exfalso;first | omega | exact h rfl | (revert h;decide) | (cases h;done)))
  | ((first | (with_reducible first | apply zW | apply zV | apply zU | apply zS | apply zX | show VX _ _ _ _ _ _ _ | show vstep _ _ _ _ _ | show vskip _ _ _ | show withV _ _ | apply qN | apply qR | refine zB default ?_ | refine zC default ?_ | refine qI ?_) | ((with_reducible show pickE _ _ _);refine qA _ ?_));try simp -dsimp -implicitDefEqProofs (maxSteps:=1000000) (disch:=first | omega | (simp only [LN];omega)) only [go_sem])
 )
theorem dCloneE2 (es:List PV):ACalls Tryz.prog 64 [.p (.nview 2 [])] [.arr 2 es] (.p (.view 2 [])) [.arr 2 es]:=by
 refine yA (E:=E) (fn:=Tryz.f64) 8 [.tmp 2] rfl rfl rfl rfl (by decide) rfl rfl ?_
 repeat' (first
  | (with_reducible first | apply zY | apply zT | apply zM | apply zN | apply zO | refine qK ?_ | (show False;omega))
  | ((with_reducible first | apply zP | apply zQ | apply zR | apply zL)<;>intro h<;>try (exfalso;first | omega | exact h rfl | (revert h;decide) | (cases h;done)))
  | ((first | (with_reducible first | apply zW | apply zV | apply zU | apply zS | apply zX | show VX _ _ _ _ _ _ _ | show vstep _ _ _ _ _ | show vskip _ _ _ | show withV _ _ | apply qN | apply qR | refine zB default ?_ | refine zC default ?_ | refine qI ?_) | ((with_reducible show pickE _ _ _);refine qA _ ?_));try simp -dsimp -implicitDefEqProofs (maxSteps:=1000000) (disch:=first | omega | (simp only [LN];omega)) only [go_sem])
 )
theorem dCloneN (es:List PV) (st n:Nat) (h0:0<n) (hn:st+n≤es.length) (hl:es.length≤1000000000):ACalls Tryz.prog 64 [.sl 0 2 st n] [.arr 2 es] (.p (.view 2 ((es.drop st).take n))) [.arr 2 es]:=by
 refine yA (E:=E) (fn:=Tryz.f64) 8 [.tmp 2] rfl rfl rfl rfl (by decide) rfl rfl ?_
 have hl2:((es.drop st).take n).length=n:=by rw [List.length_take,List.length_drop];omega
 cases st with
 | zero =>
  rw [List.drop_zero] at hl2 ⊢
  repeat' (first
   | (with_reducible first | apply zY | apply zT | apply zM | apply zN | apply zO | refine qK ?_ | (show False;omega))
   | ((with_reducible first | apply zP | apply zQ | apply zR | apply zL)<;>intro h<;>try (exfalso;first | omega | exact h rfl | (revert h;decide) | (cases h;done)))
   | ((first | (with_reducible first | apply zW | apply zV | apply zU | apply zS | apply zX | show VX _ _ _ _ _ _ _ | show vstep _ _ _ _ _ | show vskip _ _ _ | show withV _ _ | apply qN | apply qR | refine zB default ?_ (by first | omega | (simp only [LN,hl2];omega)) (by first | omega | (simp only [LN,hl2];omega)) | refine zC default ?_ (by first | omega | (simp only [LN,hl2];omega)) | refine qI ?_ (by first | decide | omega | assumption | (simp only [LN,hl2];omega))) | ((with_reducible show pickE _ _ _);refine qA _ ?_));try simp -dsimp -implicitDefEqProofs (maxSteps:=1000000) (disch:=first | omega | (simp only [LN,hl2];omega)) only [go_sem,hl2])
  )
 | succ st =>
  repeat' (first
   | (with_reducible first | apply zY | apply zT | apply zM | apply zN | apply zO | refine qK ?_ | (show False;omega))
   | ((with_reducible first | apply zP | apply zQ | apply zR | apply zL)<;>intro h<;>try (exfalso;first | omega | exact h rfl | (revert h;decide) | (cases h;done)))
   | ((first | (with_reducible first | apply zW | apply zV | apply zU | apply zS | apply zX | show VX _ _ _ _ _ _ _ | show vstep _ _ _ _ _ | show vskip _ _ _ | show withV _ _ | apply qN | apply qR | refine zB default ?_ (by first | omega | (simp only [LN,hl2];omega)) (by first | omega | (simp only [LN,hl2];omega)) | refine zC default ?_ (by first | omega | (simp only [LN,hl2];omega)) | refine qI ?_ (by first | decide | omega | assumption | (simp only [LN,hl2];omega))) | ((with_reducible show pickE _ _ _);refine qA _ ?_));try simp -dsimp -implicitDefEqProofs (maxSteps:=1000000) (disch:=first | omega | (simp only [LN,hl2];omega)) only [go_sem,hl2])
  )
theorem dCloneW (es:List PV) (st n:Nat) (hn:st+n≤es.length) (hl:es.length≤1000000000):ACalls Tryz.prog 64 [.sl 0 2 st n] [.arr 2 es] (.p (.view 2 ((es.drop st).take n))) [.arr 2 es]:=by
 rcases Nat.eq_zero_or_pos n with rfl | h0
 ·rw [List.take_zero];exact acalls_sl0 (by decide) (dCloneE es) (dCloneE2 es)
 ·exact dCloneN es st n h0 hn hl
end Go.Proofs.YtckhjklcfagkoaaGreatDoor
namespace Go.Proofs.YtckhjklcfagkoaaGreatDoor
set_option maxHeartbeats 4000000
set_option maxRecDepth 100000
open Go Go.Ab
attribute [local irreducible] callK callF loopQ vstep vskip pickE hideP
attribute [local go_sem] eU deO peO cuO liO thO hiO noO
theorem dHist6 (A:Dv) (J:JT) (N:Nat) (h:Inv A J N) (hN:N≤1000000000) (r:Nat) (hr:r<A.n):ACalls Tryz.prog 58 [.loc 0 0,.p (.v (.int .i64 r))] (dvL A J) (.p (.view 2 ((A.hist r).map eWr))) (dvL A J):=by
 refine yA (E:=E) (fn:=Tryz.f58) 29 [.tmp 4] rfl rfl rfl rfl (by decide) rfl rfl ?_
 have h6:=h.wf.n6
 have hl:=h.jl hN r (by omega)
 have hb:=h.bd r (by omega)
 have hd:=h.wf.len r (by omega)
 have hj:=h.jo r (by omega)
 have kc:=dCloneW ((jk A J r).map eWr++(A.hist r).map eWr) (jk A J r).length (A.hist r).length (by simp) (by simp;omega)
 rw [show (((jk A J r).map eWr++(A.hist r).map eWr).drop (jk A J r).length).take (A.hist r).length=(A.hist r).map eWr from by
  rw [show (jk A J r).length=((jk A J r).map eWr).length by simp,List.drop_left,List.take_of_length_le (by simp)]] at kc
 rcases lt6 (show r<6 by omega) with rfl | rfl | rfl | rfl | rfl | rfl
 all_goals
  repeat' (first
   | (with_reducible first | apply zY | apply zT | apply zM | apply zN | apply zO | refine qK ?_ | (show False;omega))
   | ((with_reducible first | apply zP | apply zQ | apply zR | apply zL)<;>intro h<;>try (exfalso;first | omega | exact h rfl | (revert h;decide) | (cases h;done)))
   | ((first | (with_reducible first | apply zW | apply zV | apply zU | apply zS | apply zX | show VX _ _ _ _ _ _ _ | show vstep _ _ _ _ _ | show vskip _ _ _ | show withV _ _ | apply qN | apply qR | refine zB default ?_ | refine zC default ?_ | refine qI ?_) | (with_reducible first | apply zG | apply zH | apply zI) | ((with_reducible apply zJ);(first | exact kc)) | ((with_reducible show pickE _ _ _);refine qA _ ?_));try simp -dsimp -implicitDefEqProofs (maxSteps:=1000000) (disch:=first | omega | (simp only [LN];omega)) only [go_sem])
  )
  refine And.intro (by split<;>(simp<;>omega)) ?_
  repeat' (first
   | (with_reducible first | apply zY | apply zT | apply zM | apply zN | apply zO | refine qK ?_ | (show False;omega))
   | ((with_reducible first | apply zP | apply zQ | apply zR | apply zL)<;>intro h<;>try (exfalso;first | omega | exact h rfl | (revert h;decide) | (cases h;done)))
   | ((first | (with_reducible first | apply zW | apply zV | apply zU | apply zS | apply zX | show VX _ _ _ _ _ _ _ | show vstep _ _ _ _ _ | show vskip _ _ _ | show withV _ _ | apply qN | apply qR | refine zB default ?_ | refine zC default ?_ | refine qI ?_) | (with_reducible first | apply zG | apply zH | apply zI) | ((with_reducible apply zJ);(first | exact kc)) | ((with_reducible show pickE _ _ _);refine qA _ ?_));try simp -dsimp -implicitDefEqProofs (maxSteps:=1000000) (disch:=first | omega | (simp only [LN];omega)) only [go_sem])
  )
  all_goals first | omega
end Go.Proofs.YtckhjklcfagkoaaGreatDoor
namespace Go.Proofs.YtckhjklcfagkoaaGreatDoor
open Go Go.Ab
attribute [local irreducible] callK callF loopQ vstep vskip pickE hideP
set_option maxRecDepth 100000
def cpA (A:Dv) (i:Nat):Dv:={ Dv.fresh A.n A.per with cur:=A.cur,hist:=fun r=>if r<i then A.hist r else [],done:=fun r=>if r<i then A.done r else 0 }
theorem cp_n (A:Dv) (i:Nat):(cpA A i).n=A.n:=rfl
theorem cp_per (A:Dv) (i:Nat):(cpA A i).per=A.per:=rfl
theorem cp_cur (A:Dv) (i:Nat):(cpA A i).cur=A.cur:=rfl
theorem cp_err (A:Dv) (i k:Nat):(cpA A i).err k=0:=rfl
theorem cp_note (A:Dv) (i k:Nat):(cpA A i).note k=fun _=>none:=rfl
theorem cp_off (A:Dv) (i:Nat):(cpA A i).off=false:=rfl
theorem cp_armed (A:Dv) (i:Nat):(cpA A i).armed=false:=rfl
theorem cp_left (A:Dv) (i:Nat):(cpA A i).left=0:=rfl
theorem cp_ex (A:Dv) (i:Nat):(cpA A i).ex=0:=rfl
theorem jk_J0 (A:Dv) (r:Nat):jk A J0 r=[]:=by unfold jk;split<;>rfl
attribute [local go_sem] eU deO peO cuO liO thO hiO noO cp_n cp_per cp_cur cp_err cp_note cp_off cp_armed cp_left cp_ex jk_J0
end Go.Proofs.YtckhjklcfagkoaaGreatDoor
namespace Go.Proofs.YtckhjklcfagkoaaGreatDoor
set_option maxHeartbeats 4000000
set_option maxRecDepth 100000
open Go Go.Ab
attribute [local irreducible] callK callF loopQ vstep vskip pickE hideP
theorem acalls_nil2 {P:Program} {f:FuncId} {L L':List Ob} {r x:AV} {sz:Nat} (hs:0<sz) (h:ACalls P f [x,.p (.view sz [])] L r L'):ACalls P f [x,.p (.v (.slice none 0 0))] L r L':=by
 refine ⟨h.1,h.2.1,fun Z lb w vals ho hr=>h.2.2 Z lb w vals ho ?_⟩
 simp only [AReps] at hr ⊢
 obtain ⟨u,us,h1,h2,v,vs,h3,h4,h5⟩:=hr
 exact ⟨u,us,h1,h2,v,vs,h3,by simp only [ARep] at h4 ⊢;exact ple_rep _ _ _ (by simp [PLe,hs]) h4,h5⟩
theorem kC_nil (A:Dv) (r:Nat):kC A [] r=0:=by unfold kC;split<;>rfl
theorem contS_0 {A:Dv} (h:WF A):contS A (kC A [])=A.per:=by
 refine list_getD (by rw [contS_len,h.per]) fun j hj=>?_
 rw [contS_len] at hj
 rw [contS_get _ _ _ hj,kC_nil,List.take_zero];rfl
theorem byL_B (ws:List Int) (m:Nat):byL ws m m=(pB ws m).map eB:=byL_pB ws m
theorem tkB (ws:List Int) (m:Nat):List.take m ((pB ws m).map eB)=(pB ws m).map eB:=List.take_of_length_le (by rw [List.length_map,pB_len];exact Nat.le_refl _)
attribute [local go_sem] eU deO peO cuO liO thO hiO noO rdO rlO lns_len eNd
theorem bSame3 (A:Dv) (J:JT) (M:MT) (N:Nat) (hI:Inv A J N) (hN:N≤1000000) (hR:RInv A M N):ACalls Tryz.prog 14 [.loc 0 0,.loc 26 0] (dvL A J++[rdO A M 27,rlO A]) (.p (.v (.bool true))) (dvL A J++[rdO A M 27,rlO A]):=by
 refine yA (E:=E) (fn:=Tryz.f14) 153 [.tmp 4] rfl rfl rfl rfl (by decide) rfl rfl ?_
 have h6:=hI.wf.n6
 have k1:=dOff6 A J
 have k2:=dExec6 A J
 have k3:=dLines6 A J h6
 have k4:=dSize6 A J h6
 have k5:=dCur6 A J hI.wf
 have k6:=dPers6 A J hI.wf
 have k7:=dDirty6 A J hI.wf
 have r5:=rCurrent A M hR.wf hR.rg hR.cu
 have r6:=acalls_nil2 (by decide) (rCont A M hR.wf hR.rg [] (by simp) (fun r hr=>by rw [kC_nil];omega))
 rw [contS_0 hR.wf,oL_by,byL_B] at r6
 rw [oL_by,byL_B] at r5
 rw [byL_B] at k5 k6
 have r7:=rDirty A M hR.wf
 have a1:IntKind.i64.wrap (64*(A.n:Int))=((64*A.n:Nat):Int):=by rw [IntKind.wrap_i64];omega
 have a2:IntKind.u64.wrap ((64*A.n:Nat):Int)=((64*A.n:Nat):Int):=by rw [IntKind.wrap_u64];omega
 repeat' (first
  | (with_reducible first | apply zY | apply zT | apply zM | apply zN | apply zO | refine qK ?_ | (show False;omega))
  | ((with_reducible first | apply zP | apply zQ | apply zR | apply zL)<;>intro h<;>try (exfalso;first | omega | exact h rfl | (revert h;decide) | (cases h;done)))
  | ((first | (with_reducible first | apply zW | apply zV | apply zU | apply zS | apply zX | show VX _ _ _ _ _ _ _ | show vstep _ _ _ _ _ | show vskip _ _ _ | show withV _ _ | apply qN | apply qR | refine zB default ?_ (by first | omega | (simp only [LN,a1,a2,tkB,pB_len,Nat.min_self];omega)) (by first | omega | (simp only [LN,a1,a2,tkB,pB_len,Nat.min_self];omega)) | refine zC default ?_ (by first | omega | (simp only [LN,a1,a2,tkB,pB_len,Nat.min_self];omega)) | refine qI ?_ (by first | decide | omega | assumption | (simp only [LN,a1,a2,tkB,pB_len,Nat.min_self];omega))) | (with_reducible first | apply zG | apply zH | apply zI) | ((with_reducible apply zJ);(first | exact k1 | exact k2 | exact k3 | exact k4 | exact k5 | exact k6 | exact k7 | exact r5 | exact r6 | exact r7)) | ((with_reducible show pickE _ _ _);refine qA _ ?_));try simp -dsimp -implicitDefEqProofs (maxSteps:=1000000) (disch:=first | omega | (simp only [LN,a1,a2,tkB,pB_len,Nat.min_self];omega)) only [go_sem,a1,a2,tkB,pB_len,Nat.min_self])
 )
 refine r_loopA (α:=Nat) [0,1,5,6,81] (fun i b=>[(82,aI i)]) (fun i b=>[]) (fun i=>[]) (fun i=>i≤(dirL A A.n).length) (fun i=>(dirL A A.n).length - i) (0) ?h0_1 ?hs0_1 ?I_1 ?hI_1 ?round_1
 case hI_1=>intro x;(simp -dsimp -implicitDefEqProofs (maxSteps:=1000000) (disch:=first | omega | (simp only [LN];omega)) only [go_sem])<;>exact rfl
 case hs0_1=>refine wk_auto ?_;(simp -dsimp -implicitDefEqProofs (maxSteps:=1000000) (disch:=first | omega | (simp only [LN];omega)) only [go_sem])<;>(try omega)
 case h0_1=>exact Nat.zero_le _
 case round_1 =>
  intro i hi
  have hdl:=dirL_len A A.n
  have w3:IntKind.i64.wrap ((i:Int)+1)=((i+1:Nat):Int):=by rw [IntKind.wrap_i64];push_cast;omega
  by_cases hlt:i<(dirL A A.n).length
  ·repeat' (first
    | (with_reducible first | apply zY | apply zT | apply zM | apply zN | apply zO | refine qK ?_ | (show False;omega))
    | ((with_reducible first | apply zP | apply zQ | apply zR | apply zL)<;>intro h<;>try (exfalso;first | omega | exact h rfl | (revert h;decide) | (cases h;done)))
    | ((first | (with_reducible first | apply zW | apply zV | apply zU | apply zS | apply zX | show VX _ _ _ _ _ _ _ | show vstep _ _ _ _ _ | show vskip _ _ _ | show withV _ _ | apply qN | apply qR | refine zB default ?_ (by first | omega | (simp only [LN,w3];omega)) (by first | omega | (simp only [LN,w3];omega)) | refine zC default ?_ (by first | omega | (simp only [LN,w3];omega)) | refine qI ?_ (by first | decide | omega | assumption | (simp only [LN,w3];omega))) | ((with_reducible show pickE _ _ _);refine qA _ ?_));try simp -dsimp -implicitDefEqProofs (maxSteps:=1000000) (disch:=first | omega | (simp only [LN,w3];omega)) only [go_sem,w3])
   )
   all_goals first | omega | (refine zZ (i+1) ?_ ?_ ?_;(omega);(show _<_;omega);(simp -dsimp -implicitDefEqProofs (maxSteps:=1000000) (disch:=first | omega | (simp only [LN];omega)) only [go_sem];try trivial))
  ·obtain rfl:i=(dirL A A.n).length:=by omega
   clear w3
   repeat' (first
    | (with_reducible first | apply zY | apply zT | apply zM | apply zN | apply zO | refine qK ?_ | (show False;omega))
    | ((with_reducible first | apply zP | apply zQ | apply zR | apply zL)<;>intro h<;>try (exfalso;first | omega | exact h rfl | (revert h;decide) | (cases h;done)))
    | ((first | (with_reducible first | apply zW | apply zV | apply zU | apply zS | apply zX | show VX _ _ _ _ _ _ _ | show vstep _ _ _ _ _ | show vskip _ _ _ | show withV _ _ | apply qN | apply qR | refine zB default ?_ | refine zC default ?_ | refine qI ?_) | ((with_reducible show pickE _ _ _);refine qA _ ?_));try simp -dsimp -implicitDefEqProofs (maxSteps:=1000000) (disch:=first | omega | (simp only [LN];omega)) only [go_sem])
   )
   refine r_loopA (α:=Nat) [0,1,98,99] (fun r b=>[(100,aI r)]) (fun r b=>[]) (fun r=>[]) (fun r=>r≤A.n) (fun r=>A.n - r) (0) ?h0_2 ?hs0_2 ?I_2 ?hI_2 ?round_2
   case hI_2=>intro x;(simp -dsimp -implicitDefEqProofs (maxSteps:=1000000) (disch:=first | omega | (simp only [LN];omega)) only [go_sem])<;>exact rfl
   case hs0_2=>refine wk_auto ?_;(simp -dsimp -implicitDefEqProofs (maxSteps:=1000000) (disch:=first | omega | (simp only [LN];omega)) only [go_sem])<;>(try omega)
   case h0_2=>exact Nat.zero_le _
   case round_2 =>
    intro r hr
    have w3:IntKind.i64.wrap ((r:Int)+1)=((r+1:Nat):Int):=by rw [IntKind.wrap_i64];push_cast;omega
    by_cases hrn:r<A.n
    ·have kh:=dHist6 A J N hI (by omega) r hrn
     have hg:=lns_get A hrn
     have hll:=hI.wf.len r (by omega)
     have ks:=bSameW (A.hist r) (by omega)
     repeat' (first
      | (with_reducible first | apply zY | apply zT | apply zM | apply zN | apply zO | refine qK ?_ | (show False;omega))
      | ((with_reducible first | apply zP | apply zQ | apply zR | apply zL)<;>intro h<;>try (exfalso;first | omega | exact h rfl | (revert h;decide) | (cases h;done)))
      | ((first | (with_reducible first | apply zW | apply zV | apply zU | apply zS | apply zX | show VX _ _ _ _ _ _ _ | show vstep _ _ _ _ _ | show vskip _ _ _ | show withV _ _ | apply qN | apply qR | refine zB default ?_ (by first | omega | (simp only [LN,hg,lnP,w3];omega)) (by first | omega | (simp only [LN,hg,lnP,w3];omega)) | refine zC default ?_ (by first | omega | (simp only [LN,hg,lnP,w3];omega)) | refine qI ?_ (by first | decide | omega | assumption | (simp only [LN,hg,lnP,w3];omega))) | ((with_reducible apply zD);(exact ks)) | ((with_reducible apply zE);(exact ks);rfl) | ((with_reducible apply zF);(exact ks)) | (with_reducible first | apply zG | apply zH | apply zI) | ((with_reducible apply zJ);(first | exact kh)) | ((with_reducible show pickE _ _ _);refine qA _ ?_));try simp -dsimp -implicitDefEqProofs (maxSteps:=1000000) (disch:=first | omega | (simp only [LN,hg,lnP,w3];omega)) only [go_sem,hg,lnP,w3])
     )
     all_goals first | omega | (refine zZ (r+1) ?_ ?_ ?_;(omega);(show _<_;omega);(simp -dsimp -implicitDefEqProofs (maxSteps:=1000000) (disch:=first | omega | (simp only [LN];omega)) only [go_sem];try trivial))
    ·obtain rfl:r=A.n:=by omega
     clear w3
     repeat' (first
      | (with_reducible first | apply zY | apply zT | apply zM | apply zN | apply zO | refine qK ?_ | (show False;omega))
      | ((with_reducible first | apply zP | apply zQ | apply zR | apply zL)<;>intro h<;>try (exfalso;first | omega | exact h rfl | (revert h;decide) | (cases h;done)))
      | ((first | (with_reducible first | apply zW | apply zV | apply zU | apply zS | apply zX | show VX _ _ _ _ _ _ _ | show vstep _ _ _ _ _ | show vskip _ _ _ | show withV _ _ | apply qN | apply qR | refine zB default ?_ | refine zC default ?_ | refine qI ?_) | ((with_reducible show pickE _ _ _);refine qA _ ?_));try simp -dsimp -implicitDefEqProofs (maxSteps:=1000000) (disch:=first | omega | (simp only [LN];omega)) only [go_sem])
     )
     refine r_loopA (α:=Nat) [0,116] (fun k b=>[(117,aI k)]) (fun k b=>[]) (fun k=>[]) (fun k=>k≤8) (fun k=>8 - k) (0) ?h0_3 ?hs0_3 ?I_3 ?hI_3 ?round_3
     case hI_3=>intro x;(simp -dsimp -implicitDefEqProofs (maxSteps:=1000000) (disch:=first | omega | (simp only [LN];omega)) only [go_sem])<;>exact rfl
     case hs0_3=>refine wk_auto ?_;(simp -dsimp -implicitDefEqProofs (maxSteps:=1000000) (disch:=first | omega | (simp only [LN];omega)) only [go_sem])<;>(try omega)
     case h0_3=>exact Nat.zero_le _
     case round_3 =>
      intro k hk
      have w3:IntKind.i64.wrap ((k:Int)+1)=((k+1:Nat):Int):=by rw [IntKind.wrap_i64];push_cast;omega
      by_cases hk8:k<8
      ·have kt:=dThread6 A J k hk8
       have ke:=tErr6 A J k hk8
       have kd:=tID6 A J k hk8
       have kz:=tSize6 A J k hk8 h6
       repeat' (first
        | (with_reducible first | apply zY | apply zT | apply zM | apply zN | apply zO | refine qK ?_ | (show False;omega))
        | ((with_reducible first | apply zP | apply zQ | apply zR | apply zL)<;>intro h<;>try (exfalso;first | omega | exact h rfl | (revert h;decide) | (cases h;done)))
        | ((first | (with_reducible first | apply zW | apply zV | apply zU | apply zS | apply zX | show VX _ _ _ _ _ _ _ | show vstep _ _ _ _ _ | show vskip _ _ _ | show withV _ _ | apply qN | apply qR | refine zB default ?_ | refine zC default ?_ | refine qI ?_) | ((with_reducible show pickE _ _ _);refine qA _ ?_));try simp -dsimp -implicitDefEqProofs (maxSteps:=1000000) (disch:=first | omega | (simp only [LN];omega)) only [go_sem])
       )
       refine ⟨.p (.v (.int .i64 (A.err k))),by rcases lt8 hk8 with rfl | rfl | rfl | rfl | rfl | rfl | rfl | rfl<;>rfl,?_⟩
       repeat' (first
        | (with_reducible first | apply zY | apply zT | apply zM | apply zN | apply zO | refine qK ?_ | (show False;omega))
        | ((with_reducible first | apply zP | apply zQ | apply zR | apply zL)<;>intro h<;>try (exfalso;first | omega | exact h rfl | (revert h;decide) | (cases h;done)))
        | ((first | (with_reducible first | apply zW | apply zV | apply zU | apply zS | apply zX | show VX _ _ _ _ _ _ _ | show vstep _ _ _ _ _ | show vskip _ _ _ | show withV _ _ | apply qN | apply qR | refine zB default ?_ (by first | omega | (simp only [LN,w3];omega)) (by first | omega | (simp only [LN,w3];omega)) | refine zC default ?_ (by first | omega | (simp only [LN,w3];omega)) | refine qI ?_ (by first | decide | omega | assumption | (simp only [LN,w3];omega))) | (with_reducible first | apply zG | apply zH | apply zI) | ((with_reducible apply zJ);(first | exact kt | exact ke | exact kd | exact kz | exact k4)) | ((with_reducible show pickE _ _ _);refine qA _ ?_));try simp -dsimp -implicitDefEqProofs (maxSteps:=1000000) (disch:=first | omega | (simp only [LN,w3];omega)) only [go_sem,w3])
       )
       all_goals first | omega | (refine zZ (k+1) ?_ ?_ ?_;(omega);(show _<_;omega);(simp -dsimp -implicitDefEqProofs (maxSteps:=1000000) (disch:=first | omega | (simp only [LN];omega)) only [go_sem];try trivial))
      ·obtain rfl:k=8:=by omega
       repeat' (first
        | (with_reducible first | apply zY | apply zT | apply zM | apply zN | apply zO | refine qK ?_ | (show False;omega))
        | ((with_reducible first | apply zP | apply zQ | apply zR | apply zL)<;>intro h<;>try (exfalso;first | omega | exact h rfl | (revert h;decide) | (cases h;done)))
        | ((first | (with_reducible first | apply zW | apply zV | apply zU | apply zS | apply zX | show VX _ _ _ _ _ _ _ | show vstep _ _ _ _ _ | show vskip _ _ _ | show withV _ _ | apply qN | apply qR | refine zB default ?_ | refine zC default ?_ | refine qI ?_) | ((with_reducible show pickE _ _ _);refine qA _ ?_));try simp -dsimp -implicitDefEqProofs (maxSteps:=1000000) (disch:=first | omega | (simp only [LN];omega)) only [go_sem])
       )
       all_goals first | omega | rfl
end Go.Proofs.YtckhjklcfagkoaaGreatDoor
namespace Go.Proofs.YtckhjklcfagkoaaGreatDoor
open Go Go.Ab
attribute [local irreducible] callK callF loopQ vstep vskip pickE hideP
set_option maxRecDepth 100000
structure E3 where
 k:Int
 th:Int
 o:Int
 w:Int
 v:Int
 n:Int
instance:Inhabited E3:=⟨⟨0,0,0,0,0,0⟩⟩
def e3 (x:E3):PV:=.agg [.v (.int .i64 x.k),.v (.int .i64 x.th),.v (.int .u64 x.o),.v (.int .u64 x.w),.v (.int .u64 x.v),.v (.int .i64 x.n)]
structure Rng3 (x:E3):Prop where
 k:-9223372036854775808≤x.k∧x.k≤9223372036854775807
 th:-9223372036854775808≤x.th∧x.th≤9223372036854775807
 o:0≤x.o∧x.o≤18446744073709551615
 w:0≤x.w∧x.w≤18446744073709551615
 v:0≤x.v∧x.v≤18446744073709551615
 n:-9223372036854775808≤x.n∧x.n≤9223372036854775807
theorem Inv.onS {A:Dv} {J:JT} {N:Nat} (h:Inv A J N) (k:Nat) (v:Bool):Inv (A.onS k v) J N:=by
 by_cases hv:(!A.off && v)=true
 ·rw [onS_t hv];exact h
 ·simp only [Bool.not_eq_true] at hv
  rw [← cnt_f hv];exact h.cnt k v
theorem RInv.onS {A:Dv} {M:MT} {N:Nat} (h:RInv A M N) (k:Nat) (v:Bool):RInv (A.onS k v) M N:=by
 by_cases hv:(!A.off && v)=true
 ·rw [onS_t hv];exact h
 ·simp only [Bool.not_eq_true] at hv
  rw [← cnt_f hv];exact h.cnt k v
abbrev St3:=Dv × (JT) × (MT)
def Ok3 (N:Nat) (g:St3):Prop:=Inv g.1 g.2.1 N∧RInv g.1 g.2.2 N
abbrev G3 (N:Nat):={ g:St3 // Ok3 N g }
attribute [local go_sem] e3 eU deO peO cuO liO thO hiO noO rdO rlO lns_len
end Go.Proofs.YtckhjklcfagkoaaGreatDoor
namespace Go.Proofs.YtckhjklcfagkoaaGreatDoor
open Go Go.Ab
attribute [local irreducible] callK callF loopQ vstep vskip pickE hideP
set_option maxRecDepth 100000
attribute [local go_sem] e3 eU deO peO cuO liO thO hiO noO rdO rlO lns_len
end Go.Proofs.YtckhjklcfagkoaaGreatDoor
namespace Go.Proofs.YtckhjklcfagkoaaGreatDoor
set_option maxHeartbeats 4000000
set_option maxRecDepth 100000
open Go Go.Ab
attribute [local irreducible] callK callF loopQ vstep vskip pickE hideP
attribute [local go_sem] e3 eU deO peO cuO liO thO hiO noO rdO rlO lns_len
abbrev M0:MT:=fun _=>[]
theorem Ok3.fresh (n:Nat) (h:0<n∧n≤6):Ok3 0 (Dv.fresh n (List.replicate (8*n) 0),J0,M0):=by
 have hI:=Inv.fresh n (List.replicate (8*n) 0) h.1 h.2 (by simp)
 refine ⟨hI,RInv.fresh h hI.wf fun j=>?_⟩
 rw [List.getD_eq_getElem?_getD,List.getElem?_replicate]
 split<;>exact ⟨by decide,by decide⟩
theorem bBegin0 (a:Int) (ha:-9223372036854775808≤a∧a≤9223372036854775807) (n:Nat) (hn:(n:Int)=1+a % 6):ACalls Tryz.prog 28 [.p (.v (.int .i64 a))] [] (.tup [.loc 0 0,.loc 26 0]) (dvL (Dv.fresh n (List.replicate (8*n) 0)) J0++[rdO (Dv.fresh n (List.replicate (8*n) 0)) M0 27,rlO (Dv.fresh n (List.replicate (8*n) 0))]):=by
 refine yA (E:=E) (fn:=Tryz.f28) 20 [.tmp 2,.tmp 3] rfl rfl rfl rfl (by decide) rfl rfl ?_
 have h6:=Int.emod_nonneg a (show (6:Int)≠0 by decide)
 have h7:=Int.emod_lt_of_pos a (show (0:Int)<6 by decide)
 have m1:=bMod a 6 (by omega) ha
 have k1:=dNew6 n (by omega)
 have k2:=rNew n (by omega)
 have e1:IntKind.i64.wrap (1+a % 6)=(n:Int):=by rw [IntKind.wrap_i64];omega
 generalize Dv.fresh n (List.replicate (8*n) 0)=A at *
 repeat' (first
  | (with_reducible first | apply zY | apply zT | apply zM | apply zN | apply zO | refine qK ?_ | (show False;omega))
  | ((with_reducible first | apply zP | apply zQ | apply zR | apply zL)<;>intro h<;>try (exfalso;first | omega | exact h rfl | (revert h;decide) | (cases h;done)))
  | ((first | (with_reducible first | apply zW | apply zV | apply zU | apply zS | apply zX | show VX _ _ _ _ _ _ _ | show vstep _ _ _ _ _ | show vskip _ _ _ | show withV _ _ | apply qN | apply qR | refine zB default ?_ (by first | omega | (simp only [LN,e1];omega)) (by first | omega | (simp only [LN,e1];omega)) | refine zC default ?_ (by first | omega | (simp only [LN,e1];omega)) | refine qI ?_ (by first | decide | omega | assumption | (simp only [LN,e1];omega))) | ((with_reducible apply zD);(exact m1)) | ((with_reducible apply zE);(exact m1);rfl) | ((with_reducible apply zF);(exact m1)) | (with_reducible first | apply zG | apply zH | apply zI) | ((with_reducible apply zJ);(first | exact k1 | exact k2)) | ((with_reducible show pickE _ _ _);refine qA _ ?_));try simp -dsimp -implicitDefEqProofs (maxSteps:=1000000) (disch:=first | omega | (simp only [LN,e1];omega)) only [go_sem,e1])
 )
 all_goals first | omega
theorem Ok3.le {N N':Nat} {g:St3} (h:Ok3 N g) (hN:N≤N'):Ok3 N' g:=⟨h.1.le hN,h.2.le hN⟩
end Go.Proofs.YtckhjklcfagkoaaGreatDoor
namespace Go.Proofs.YtckhjklcfagkoaaGreatDoor
open Go Go.Ab
attribute [local irreducible] callK callF loopQ vstep vskip pickE hideP
open Go.RowKit
set_option maxRecDepth 100000
theorem few_rng2 {l:List Ev} {n:Nat} (hR:∀ x,x∈l→Rng x):∀ x,x∈fewE l n→Rng x∧(0≤x.k∧x.k≤255)∧x.ch.length≤600:=by
 intro x hx
 obtain ⟨y,hy,rfl⟩:=List.mem_map.1 hx
 exact ⟨plE_rng (hR y (List.mem_of_mem_take hy)),plE_k y,plE_ch y⟩
theorem few_len2 (l:List Ev) (n:Nat):(fewE l n).length≤n:=by unfold fewE;rw [List.length_map,List.length_take];omega
theorem rStepX (A:Dv) (M:MT) (N:Nat) (h:RInv A M N) (hN:N≤1000000) (hno:∀ k,k<8→NoteOk A k) (x:Ev) (R:Rng x) (hc:x.ch.length≤1000000) (hx:¬ (okE x=true∧x.k=7)) :
  ACalls Tryz.prog 13 [.loc 0 0,.p (rE x)] [rdO A M 1,rlO A] (.tup [.loc 0 0,.p (.v (.bool (A.stepB x))),.p (.v (.int .i64 (A.stepE x)))]) [rdO (A.step x) (Mv A M x) 1,rlO (A.step x)]:=by
 cases hv:okE x with
 | false=>exact rStepN A M x hc hv
 | true =>
  have hk:=okE_t hv
  have hks:x.k=1∨x.k=2∨x.k=3∨x.k=4∨x.k=5∨x.k=6:=by have:¬ x.k=7:=fun e=>hx ⟨hv,e⟩;unfold okK at hk;omega
  rcases hks with e | e | e | e | e | e
  ·exact rStep1 A M N h x R hv e
  ·exact rStep2 A M N h x R hv e
  ·exact rStep3 A M N h hN x R hv e
  ·exact rStep4 A M N h hN hno x R hv e
  ·exact rStep5 A M N h x R hv e
  ·exact rStep6 A M N h x R hv e
def nilE:PV:=.agg [.v (.int .u8 4),.v (.int .i64 0),.v (.int .u64 0),.v (.int .u64 0),.v (.int .u64 0),.v (.int .i64 0),.v (.int .i64 0),.v (.slice none 0 0)]
attribute [local go_sem] nilE
end Go.Proofs.YtckhjklcfagkoaaGreatDoor
