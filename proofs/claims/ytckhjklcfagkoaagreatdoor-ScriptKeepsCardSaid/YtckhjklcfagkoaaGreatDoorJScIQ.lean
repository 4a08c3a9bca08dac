/- Contracts of functions of this program, and the plain facts that they rest on. No conditions. -/
import Derived.Test.YtckhjklcfagkoaaGreatDoorJScGQ
import Derived.Test.YtckhjklcfagkoaaGreatDoorJDvAQ
import Derived.Test.YtckhjklcfagkoaaGreatDoorAc4
set_option linter.unusedSimpArgs false
set_option linter.unusedVariables false
namespace Go.Proofs.YtckhjklcfagkoaaGreatDoor
set_option maxHeartbeats 4000000
set_option maxRecDepth 100000
open Go Go.Ab
attribute [local irreducible] callK callF loopQ vstep vskip pickE hideP
open Go.RowKit
attribute [local go_sem] eE eT bs_inj ext_bs byteAt_bs
theorem tx_hd {x:Ev} (h:okE x=true):¬ txE x=[]∧¬ ((txE x).getD 0 0).toNat=35:=by
 have hk:=okE_t h
 have hks:x.k=1∨x.k=2∨x.k=3∨x.k=4∨x.k=5∨x.k=6∨x.k=7:=by unfold okK at hk;omega
 rcases hks with h | h | h | h | h | h | h<;>simp [txE,wsE,joinL,h]
theorem txL_drop {vs:List Ev} {j:Nat} (h:j<vs.length) (hv:okE (vs.getD j default)=true):txL (vs.drop j)=txE (vs.getD j default)++10::txL (vs.drop (j+1)):=by
 have e:vs.getD j default=vs[j]:=by simp [List.getD_eq_getElem?_getD,h]
 rw [List.drop_eq_getElem_cons h,txL,← e,lnE,hv,if_pos rfl,List.append_assoc];rfl
theorem txL_nil:txL []=[]:=rfl
theorem map_take1 {vs:List Ev} {j:Nat} (h:j<vs.length):(vs.take (j+1)).map eE=(vs.take j).map eE++[eE (vs.getD j default)]:=by
 rw [yE default h,List.map_append];rfl
theorem getD_all {p:Ev→Prop} {vs:List Ev} (h:∀ x,x∈vs→p x) {j:Nat} (hj:j<vs.length):p (vs.getD j default):=by
 have e:vs.getD j default=vs[j]:=by simp [List.getD_eq_getElem?_getD,hj]
 rw [e];exact h _ (List.getElem_mem hj)
attribute [local irreducible] txL txE
theorem sParse (vs:List Ev) (hR:∀ x,x∈vs→Rng x) (hv:∀ x,x∈vs→okE x=true) (hn:vs.length≤1000):PCalls Tryz.prog 26 [.v (.string (bs (txL vs)))] (.tup [.view 8 (vs.map eE),.v (.int .i64 0),.v (.int .i64 0)]):=by
 refine yB (E:=E) (fn:=Tryz.f26) 46 [.tmp 2,.tmp 3,.tmp 4] rfl rfl rfl rfl (by decide) rfl ?_
 repeat' (first
  | (with_reducible first | apply zY | apply zT | apply zM | apply zN | apply zO | refine qK ?_ | (show False;omega))
  | ((with_reducible first | apply zP | apply zQ | apply zR | apply zL)<;>intro h)
  | ((first | (with_reducible first | apply zW | apply zV | apply zU | apply zS | apply zX | show VX _ _ _ _ _ _ _ | show vstep _ _ _ _ _ | show vskip _ _ _ | show withV _ _ | apply qN | apply qR | refine zB default ?_ | refine zC default ?_ | refine qI ?_) | ((with_reducible show pickE _ _ _);refine qA _ ?_));try simp -dsimp -implicitDefEqProofs (maxSteps:=1000000) (disch:=first | omega | (simp only [LN];omega)) only [go_sem])
 )
 refine r_loopA (α:=Nat × Bool × Nat) [] (fun q b=>[(5,.sl b 8 0 q.1),(6,.p (.v (.string (bs (txL (vs.drop q.1)))))),(7,.p (.v (.bool q.2.1))),(8,aI q.2.2)]) (fun q b=>[]) (fun q=>[.arr 8 ((vs.take q.1).map eE)]) (fun q=>q.1≤vs.length∧(q.2.1=false→q.1=vs.length)∧q.2.2+q.2.1.toNat≤q.1+2) (fun q=>2*(vs.length - q.1)+q.2.1.toNat) ((0,true,1)) ?h0_1 ?hs0_1 ?I_1 ?hI_1 ?round_1
 case hI_1=>intro x;(simp -dsimp -implicitDefEqProofs (maxSteps:=1000000) (disch:=first | omega | (simp only [LN];omega)) only [go_sem])<;>exact rfl
 case hs0_1=>refine wk_auto ?_;(simp -dsimp -implicitDefEqProofs (maxSteps:=1000000) (disch:=first | omega | (simp only [LN,List.take_zero,List.drop_zero];omega)) only [go_sem,List.take_zero,List.drop_zero])<;>(try omega)
 case h0_1=>exact ⟨Nat.zero_le _,fun h=>Bool.noConfusion h,by decide⟩
 case round_1 =>
  rintro ⟨j,m,a⟩ ⟨h1,h2,h3⟩
  dsimp only at h1 h2 h3
  have hpos:=fun (x:Ev) (h:¬ txE x=[])=>List.length_pos_iff.2 h
  have htl:=txL_len (vs.drop (j+1)) (fun x hx=>hR x (List.mem_of_mem_drop hx))
  rw [List.length_drop] at htl
  cases m with
  | false =>
   obtain rfl:=h2 rfl
   have ht:=List.take_length (l:=vs)
   repeat' (first
    | (with_reducible first | apply zY | apply zT | apply zM | apply zN | apply zO | refine qK ?_ | (show False;omega))
    | ((with_reducible first | apply zP | apply zQ | apply zR | apply zL)<;>intro h<;>try (exfalso;first | omega | exact h rfl | (revert h;decide) | (cases h;done)))
    | ((first | (with_reducible first | apply zW | apply zV | apply zU | apply zS | apply zX | show VX _ _ _ _ _ _ _ | show vstep _ _ _ _ _ | show vskip _ _ _ | show withV _ _ | apply qN | apply qR | refine zB default ?_ (by first | omega | (simp only [LN,ht];omega)) (by first | omega | (simp only [LN,ht];omega)) | refine zC default ?_ (by first | omega | (simp only [LN,ht];omega)) | refine qI ?_ (by first | decide | omega | assumption | (simp only [LN,ht];omega))) | ((with_reducible show pickE _ _ _);refine qA _ ?_));try simp -dsimp -implicitDefEqProofs (maxSteps:=1000000) (disch:=first | omega | (simp only [LN,ht];omega)) only [go_sem,ht])
   )
   all_goals first | rfl | omega
  | true =>
   by_cases hj:j<vs.length
   ·have hvx:=getD_all hv hj
    have hRx:=getD_all hR hj
    have hs:=txL_drop hj hvx
    have hle:=txE_len hvx hRx
    have hm:=map_take1 hj
    obtain ⟨hne,h35⟩:=tx_hd hvx
    have hp0:=hpos _ hne
    simp only [Bool.toNat_true] at h3
    have kc:=lCutH (txE (vs.getD j default)) (txL (vs.drop (j+1))) 10 (txE_ns _) (by omega)
    have kp:=sLine (vs.getD j default) hRx hvx
    generalize vs.getD j default=x at *
    repeat' (first
     | (with_reducible first | apply zY | apply zT | apply zM | apply zN | apply zO | refine qK ?_ | (show False;omega))
     | ((with_reducible first | apply zP | apply zQ | apply zR | apply zL)<;>intro h<;>try (exfalso;first | omega | exact h rfl | (revert h;decide) | (cases h;done)))
     | ((first | (with_reducible first | apply zW | apply zV | apply zU | apply zS | apply zX | show VX _ _ _ _ _ _ _ | show vstep _ _ _ _ _ | show vskip _ _ _ | show withV _ _ | apply qN | apply qR | refine zB default ?_ (by first | omega | (simp only [LN,hs,hne,h35];omega)) (by first | omega | (simp only [LN,hs,hne,h35];omega)) | refine zC default ?_ (by first | omega | (simp only [LN,hs,hne,h35];omega)) | refine qI ?_ (by first | decide | omega | assumption | (simp only [LN,hs,hne,h35];omega))) | ((with_reducible apply zD);(first | exact kc | exact kp)) | ((with_reducible apply zE);(first | exact kc | exact kp);rfl) | ((with_reducible apply zF);(first | exact kc | exact kp)) | ((with_reducible show pickE _ _ _);refine qA _ ?_));try simp -dsimp -implicitDefEqProofs (maxSteps:=1000000) (disch:=first | omega | (simp only [LN,hs,hne,h35];omega)) only [go_sem,hs,hne,h35])
    )
    all_goals first | omega | contradiction | (refine zZ (j+1,true,a+1) ⟨by show j+1≤_;omega,fun h=>Bool.noConfusion h,by show a+1+1≤j+1+2;omega⟩ (by show 2*(vs.length - (j+1))+1<2*(vs.length - j)+1;omega) ?_;(simp -dsimp -implicitDefEqProofs (maxSteps:=1000000) (disch:=first | omega | (simp only [LN,hm];omega)) only [go_sem,hm];try trivial))
   ·obtain rfl:j=vs.length:=by omega
    simp only [Bool.toNat_true] at h3
    have e0:txL (vs.drop vs.length)=[]:=by rw [List.drop_length];exact txL_nil
    have kc:=lCutM [] 10 (by simp) (by decide)
    repeat' (first
     | (with_reducible first | apply zY | apply zT | apply zM | apply zN | apply zO | refine qK ?_ | (show False;omega))
     | ((with_reducible first | apply zP | apply zQ | apply zR | apply zL)<;>intro h<;>try (exfalso;first | omega | exact h rfl | (revert h;decide) | (cases h;done)))
     | ((first | (with_reducible first | apply zW | apply zV | apply zU | apply zS | apply zX | show VX _ _ _ _ _ _ _ | show vstep _ _ _ _ _ | show vskip _ _ _ | show withV _ _ | apply qN | apply qR | refine zB default ?_ (by first | omega | (simp only [LN,e0];omega)) (by first | omega | (simp only [LN,e0];omega)) | refine zC default ?_ (by first | omega | (simp only [LN,e0];omega)) | refine qI ?_ (by first | decide | omega | assumption | (simp only [LN,e0];omega))) | ((with_reducible apply zD);(exact kc)) | ((with_reducible apply zE);(exact kc);rfl) | ((with_reducible apply zF);(exact kc)) | ((with_reducible show pickE _ _ _);refine qA _ ?_));try simp -dsimp -implicitDefEqProofs (maxSteps:=1000000) (disch:=first | omega | (simp only [LN,e0];omega)) only [go_sem,e0])
    )
    all_goals first | omega | (exact absurd rfl h) | (refine zZ (vs.length,false,a+1) ⟨Nat.le_refl _,fun _=>rfl,by show a+1+0≤vs.length+2;omega⟩ (by show 2*(vs.length - vs.length)+0<2*(vs.length - vs.length)+1;omega) ?_;(simp -dsimp -implicitDefEqProofs (maxSteps:=1000000) (disch:=first | omega | (simp only [LN,e0];omega)) only [go_sem,e0];try trivial))
end Go.Proofs.YtckhjklcfagkoaaGreatDoor
namespace Go.Proofs.YtckhjklcfagkoaaGreatDoor
set_option maxHeartbeats 4000000
set_option maxRecDepth 100000
open Go Go.Ab
attribute [local irreducible] callK callF loopQ vstep vskip pickE hideP
theorem appL_nil (ws:List Int):appL ws []=ws:=rfl
theorem appL_step (ws:List Int) (l:List (Int × Int)) (i:Nat) (hi:i<l.length):((appL ws (l.take i)).map eU).set ((l.getD i default).1 / 8).toNat (.v (.int .u64 (l.getD i default).2))=(appL ws (l.take (i+1))).map eU:=by
 rw [yE default hi,appL_app]
 show _=((appL ws (l.take i)).set _ _).map eU
 rw [List.map_set];rfl
theorem pick_row {j l:List (Int × Int)} {i:Nat} (h:i<l.length):(j.map eWr++l.map eWr)[j.length+i]? = some (eWr (l.getD i default)):=by
 rw [List.getElem?_append_right (by simp)]
 simp [List.getD_eq_getElem?_getD,h]
theorem dApply (ws:List Int) (j l:List (Int × Int)) (m s k:Nat) (hm:ws.length=m) (hs:s=j.length) (hk:k≤l.length) (hb:m≤100000∧k≤1000000000) (hl:∀ x,x∈l→0≤x.1∧x.1 / 8<m):ACalls Tryz.prog 104 [.sl 0 1 0 m,.sl 1 2 s k] [.arr 1 (ws.map eU),.arr 2 (j.map eWr++l.map eWr)] (.p (.tup [])) [.arr 1 ((appL ws (l.take k)).map eU),.arr 2 (j.map eWr++l.map eWr)]:=by
 refine yA (E:=E) (fn:=Tryz.f104) 20 [] rfl rfl rfl rfl (by decide) rfl rfl ?_
 repeat' (first
  | (with_reducible first | apply zY | apply zT | apply zM | apply zN | apply zO | refine qK ?_ | (show False;omega))
  | ((with_reducible first | apply zP | apply zQ | apply zR | apply zL)<;>intro h)
  | ((first | (with_reducible first | apply zW | apply zV | apply zU | apply zS | apply zX | show VX _ _ _ _ _ _ _ | show vstep _ _ _ _ _ | show vskip _ _ _ | show withV _ _ | apply qN | apply qR | refine zB default ?_ | refine zC default ?_ | refine qI ?_) | ((with_reducible show pickE _ _ _);refine qA _ ?_));try simp -dsimp -implicitDefEqProofs (maxSteps:=1000000) (disch:=first | omega | (simp only [LN];omega)) only [go_sem])
 )
 refine r_loopA (α:=Nat) [0,6,7] (fun i b=>[(8,aI i)]) (fun i b=>[(0,.arr 1 ((appL ws (l.take i)).map eU))]) (fun i=>[]) (fun i=>i≤k) (fun i=>k - i) (0) ?h0_1 ?hs0_1 ?I_1 ?hI_1 ?round_1
 case hI_1=>intro x;(simp -dsimp -implicitDefEqProofs (maxSteps:=1000000) (disch:=first | omega | (simp only [LN];omega)) only [go_sem])<;>exact rfl
 case hs0_1=>refine wk_auto ?_;(simp -dsimp -implicitDefEqProofs (maxSteps:=1000000) (disch:=first | omega | (simp only [LN,appL_nil];omega)) only [go_sem,appL_nil])<;>(try omega)
 case h0_1=>exact Nat.zero_le _
 case round_1 =>
  intro i h1
  have hal:(appL ws (l.take i)).length=m:=by rw [appL_len];exact hm
  by_cases hi:i<k
  ·have hx:=hl (l.getD i default) (by rw [List.getD_eq_getElem?_getD,List.getElem?_eq_getElem (by omega)];exact List.getElem_mem _)
   have hst:=appL_step ws l i (by omega)
   have e1:(l.getD i default).1.tdiv 8=(l.getD i default).1 / 8:=Int.tdiv_eq_ediv_of_nonneg hx.1
   have e2:IntKind.u64.wrap ((l.getD i default).1 / 8)=(l.getD i default).1 / 8:=by rw [IntKind.wrap_u64];omega
   repeat' (first
    | (with_reducible first | apply zY | apply zT | apply zM | apply zN | apply zO | refine qK ?_ | (show False;omega))
    | ((with_reducible first | apply zP | apply zQ | apply zR | apply zL)<;>intro h<;>try (exfalso;first | omega | exact h rfl | (revert h;decide) | (cases h;done)))
    | ((first | (with_reducible first | apply zW | apply zV | apply zU | apply zS | apply zX | show VX _ _ _ _ _ _ _ | show vstep _ _ _ _ _ | show vskip _ _ _ | show withV _ _ | apply qN | apply qR | refine zB default ?_ (by first | omega | (simp only [LN,hal,e1,e2];omega)) (by first | omega | (simp only [LN,hal,e1,e2];omega)) | refine zC default ?_ (by first | omega | (simp only [LN,hal,e1,e2];omega)) | refine qI ?_ (by first | decide | omega | assumption | (simp only [LN,hal,e1,e2];omega))) | ((with_reducible show pickE _ _ _);refine qA _ ?_));try simp -dsimp -implicitDefEqProofs (maxSteps:=1000000) (disch:=first | omega | (simp only [LN,hal,e1,e2];omega)) only [go_sem,hal,e1,e2])
   )
   all_goals try omega
   refine zA (eWr (l.getD i default)) (by rw [hs];exact pick_row (by omega)) ?_
   simp -implicitDefEqProofs only [eWr]
   simp -dsimp -implicitDefEqProofs (maxSteps:=1000000) (disch:=first | omega | (simp only [LN];omega)) only [go_sem]
   repeat' (first
    | (with_reducible first | apply zY | apply zT | apply zM | apply zN | apply zO | refine qK ?_ | (show False;omega))
    | ((with_reducible first | apply zP | apply zQ | apply zR | apply zL)<;>intro h<;>try (exfalso;first | omega | exact h rfl | (revert h;decide) | (cases h;done)))
    | ((first | (with_reducible first | apply zW | apply zV | apply zU | apply zS | apply zX | show VX _ _ _ _ _ _ _ | show vstep _ _ _ _ _ | show vskip _ _ _ | show withV _ _ | apply qN | apply qR | refine zB default ?_ (by first | omega | (simp only [LN,hal,e1,e2];omega)) (by first | omega | (simp only [LN,hal,e1,e2];omega)) | refine zC default ?_ (by first | omega | (simp only [LN,hal,e1,e2];omega)) | refine qI ?_ (by first | decide | omega | assumption | (simp only [LN,hal,e1,e2];omega))) | ((with_reducible show pickE _ _ _);refine qA _ ?_));try simp -dsimp -implicitDefEqProofs (maxSteps:=1000000) (disch:=first | omega | (simp only [LN,hal,e1,e2];omega)) only [go_sem,hal,e1,e2])
   )
   all_goals first | omega | (refine zZ (i+1) ?_ ?_ ?_;(omega);(show _<_;omega);(simp -dsimp -implicitDefEqProofs (maxSteps:=1000000) (disch:=first | omega | (simp only [LN,hst];omega)) only [go_sem,hst];try trivial))
  ·obtain rfl:i=k:=by omega
   repeat' (first
    | (with_reducible first | apply zY | apply zT | apply zM | apply zN | apply zO | refine qK ?_ | (show False;omega))
    | ((with_reducible first | apply zP | apply zQ | apply zR | apply zL)<;>intro h<;>try (exfalso;first | omega | exact h rfl | (revert h;decide) | (cases h;done)))
    | ((first | (with_reducible first | apply zW | apply zV | apply zU | apply zS | apply zX | show VX _ _ _ _ _ _ _ | show vstep _ _ _ _ _ | show vskip _ _ _ | show withV _ _ | apply qN | apply qR | refine zB default ?_ (by first | omega | (simp only [LN,hal];omega)) (by first | omega | (simp only [LN,hal];omega)) | refine zC default ?_ (by first | omega | (simp only [LN,hal];omega)) | refine qI ?_ (by first | decide | omega | assumption | (simp only [LN,hal];omega))) | ((with_reducible show pickE _ _ _);refine qA _ ?_));try simp -dsimp -implicitDefEqProofs (maxSteps:=1000000) (disch:=first | omega | (simp only [LN,hal];omega)) only [go_sem,hal])
   )
   all_goals first | omega
end Go.Proofs.YtckhjklcfagkoaaGreatDoor
namespace Go.Proofs.YtckhjklcfagkoaaGreatDoor
set_option maxHeartbeats 4000000
set_option maxRecDepth 100000
open Go Go.Ab
attribute [local irreducible] callK callF loopQ vstep vskip pickE hideP
attribute [local go_sem] deO peO cuO liO thO hiO noO
def Dv.fail (A:Dv) (k:Nat) (e:Int):Dv:=if A.err k=0 then { A with err:=upd A.err k e } else A
def Dv.onS (A:Dv) (k:Nat) (v:Bool):Dv:=if A.off=true then A.fail k 3 else if v=true then A else A.fail k 2
def Dv.cnt (A:Dv) (k:Nat) (v:Bool):Dv:=if A.off=true then A.fail k 3 else if v=false then A.fail k 2 else if A.armed=true then (if A.left=0 then ({ A with off:=true }:Dv).fail k 3 else { A with left:=IntKind.i64.wrap (A.left - 1),ex:=IntKind.u64.wrap (A.ex+1) }) else { A with ex:=IntKind.u64.wrap (A.ex+1) }
def Dv.cntB (A:Dv) (v:Bool):Bool:=!A.off && (v && !(A.armed && decide (A.left=0)))
theorem tFail (A:Dv) (J:JT) (k:Nat) (hk:k<8) (e:Int):ACalls Tryz.prog 105 [.loc (4+k) 0,.p (.v (.int .i64 e))] (dvL A J) (.p (.tup [])) (dvL (A.fail k e) J):=by
 refine yA (E:=E) (fn:=Tryz.f105) 13 [] rfl rfl rfl rfl (by decide) rfl rfl ?_
 repeat' (first
  | (with_reducible first | apply zY | apply zT | apply zM | apply zN | apply zO | refine qK ?_ | (show False;omega))
  | ((with_reducible first | apply zP | apply zQ | apply zR | apply zL)<;>intro h)
  | ((first | (with_reducible first | apply zW | apply zV | apply zU | apply zS | apply zX | show VX _ _ _ _ _ _ _ | show vstep _ _ _ _ _ | show vskip _ _ _ | show withV _ _ | apply qN | apply qR | refine zB default ?_ | refine zC default ?_ | refine qI ?_) | ((with_reducible show pickE _ _ _);refine qA _ ?_));try simp -dsimp -implicitDefEqProofs (maxSteps:=1000000) (disch:=first | omega | (simp only [LN];omega)) only [go_sem])
 )
 all_goals (simp [Dv.fail,upd,jk,h])
end Go.Proofs.YtckhjklcfagkoaaGreatDoor
namespace Go.Proofs.YtckhjklcfagkoaaGreatDoor
set_option maxHeartbeats 4000000
set_option maxRecDepth 100000
open Go Go.Ab
attribute [local irreducible] callK callF loopQ vstep vskip pickE hideP
attribute [local go_sem] deO peO cuO liO thO hiO noO
def Dv.persist (A:Dv) (r k:Nat):Dv:={ A with per:=appL A.per ((A.hist r).take k),hist:=upd A.hist r ((A.hist r).drop k),done:=upd A.done r (A.done r+k) }
def jper (A:Dv) (J:JT) (r k:Nat):JT:=fun i=>if i=r then jk A J r++(A.hist r).take k else J i
theorem jk_per (A:Dv) (J:JT) (r k i:Nat) (h:k<(A.hist r).length):jk (A.persist r k) (jper A J r k) i=if i=r then jk A J r++(A.hist r).take k else jk A J i:=by
 unfold jk Dv.persist upd jper
 by_cases hi:i=r
 ·subst hi
  simp only [if_true]
  cases hd:(A.hist i).drop k with
  | nil=>have:=congrArg List.length hd;simp at this;omega
  | cons x l=>rfl
 ·simp only [if_neg hi]
theorem jk_perA (A:Dv) (J:JT) (r k i:Nat) (h:k=(A.hist r).length):jk (A.persist r k) (jper A J r k) i=if i=r then [] else jk A J i:=by
 unfold jk Dv.persist upd jper
 by_cases hi:i=r
 ·subst hi
  simp only [if_true]
  rw [show (A.hist i).drop k=[] from List.drop_of_length_le (by omega)]
 ·simp only [if_neg hi]
theorem per_p (A:Dv) (r k:Nat):(A.persist r k).n=A.n∧(A.persist r k).per=appL A.per ((A.hist r).take k)∧(A.persist r k).cur=A.cur∧(A.persist r k).err=A.err∧(A.persist r k).note=A.note∧(A.persist r k).off=A.off∧(A.persist r k).armed=A.armed∧(A.persist r k).left=A.left∧(A.persist r k).ex=A.ex:=⟨rfl,rfl,rfl,rfl,rfl,rfl,rfl,rfl,rfl⟩
theorem per_hist (A:Dv) (r k i:Nat):(A.persist r k).hist i=if i=r then (A.hist r).drop k else A.hist i:=rfl
theorem per_done (A:Dv) (r k i:Nat):(A.persist r k).done i=if i=r then A.done r+k else A.done i:=rfl
def noX (es:Nat→Array MapEntry) (cl:Nat→Nat) (k:Nat):Ob:=.mpx (some .i64) (es k) (cl k)
attribute [local go_sem] noX
theorem dPersistX (A:Dv) (J:JT) (es:Nat→Array MapEntry) (cl:Nat→Nat) (h:WF A) (r k:Nat) (hr:r<A.n) (hk:k≤(A.hist r).length) (hj:(jk A J r).length≤1000000000):ACalls Tryz.prog 81 [.loc 0 0,.p (.v (.int .i64 r)),.p (.v (.int .i64 k))] [deO A 1 2 3 4,peO A,cuO A,liO A J 12,thO A 0 0 18,thO A 1 0 18,thO A 2 0 18,thO A 3 0 18,thO A 4 0 18,thO A 5 0 18,thO A 6 0 18,thO A 7 0 18,hiO A J 0,hiO A J 1,hiO A J 2,hiO A J 3,hiO A J 4,hiO A J 5,noX es cl 0,noX es cl 1,noX es cl 2,noX es cl 3,noX es cl 4,noX es cl 5,noX es cl 6,noX es cl 7] (.p (.tup [])) [deO (A.persist r k) 1 2 3 4,peO (A.persist r k),cuO (A.persist r k),liO (A.persist r k) (jper A J r k) 26,thO (A.persist r k) 0 0 18,thO (A.persist r k) 1 0 18,thO (A.persist r k) 2 0 18,thO (A.persist r k) 3 0 18,thO (A.persist r k) 4 0 18,thO (A.persist r k) 5 0 18,thO (A.persist r k) 6 0 18,thO (A.persist r k) 7 0 18,.dead,.dead,.dead,.dead,.dead,.dead,noX es cl 0,noX es cl 1,noX es cl 2,noX es cl 3,noX es cl 4,noX es cl 5,noX es cl 6,noX es cl 7,hiO (A.persist r k) (jper A J r k) 0,hiO (A.persist r k) (jper A J r k) 1,hiO (A.persist r k) (jper A J r k) 2,hiO (A.persist r k) (jper A J r k) 3,hiO (A.persist r k) (jper A J r k) 4,hiO (A.persist r k) (jper A J r k) 5]:=by
 refine yA (E:=E) (fn:=Tryz.f81) 51 [] rfl rfl rfl rfl (by decide) rfl rfl ?_
 have h6:=h.n6
 have hp:=h.per
 have hl:=h.len r (by omega)
 have hh:=h.hist r (by omega)
 have e1:IntKind.u64.wrap (k:Int)=k:=by rw [IntKind.wrap_u64];omega
 have e2:IntKind.u64.wrap (A.done r+k)=A.done r+k:=by rw [IntKind.wrap_u64];omega
 have ka:=dApply A.per (jk A J r) (A.hist r) (8*A.n) (jk A J r).length k hp rfl hk (by omega) (fun x hx=>by have:=hh x hx;omega)
 by_cases hkn:k=(A.hist r).length
 ·have jp:=fun i=>jk_perA A J r k i hkn
  have hd:(A.hist r).drop k=[]:=List.drop_of_length_le (by omega)
  subst hkn
  have hs:r=0∨r=1∨r=2∨r=3∨r=4∨r=5:=by omega
  rcases hs with rfl | rfl | rfl | rfl | rfl | rfl
  all_goals
   repeat' (first
    | (with_reducible first | apply zY | apply zT | apply zM | apply zN | apply zO | refine qK ?_ | (show False;omega))
    | ((with_reducible first | apply zP | apply zQ | apply zR | apply zL)<;>intro h<;>try (exfalso;first | omega | exact h rfl | (revert h;decide) | (cases h;done)))
    | ((first | (with_reducible first | apply zW | apply zV | apply zU | apply zS | apply zX | show VX _ _ _ _ _ _ _ | show vstep _ _ _ _ _ | show vskip _ _ _ | show withV _ _ | apply qN | apply qR | refine zB default ?_ (by first | omega | (simp only [LN,e1,e2];omega)) (by first | omega | (simp only [LN,e1,e2];omega)) | refine zC default ?_ (by first | omega | (simp only [LN,e1,e2];omega)) | refine qI ?_ (by first | decide | omega | assumption | (simp only [LN,e1,e2];omega))) | (with_reducible first | apply zG | apply zH | apply zI) | ((with_reducible apply zJ);(first | exact ka)) | ((with_reducible show pickE _ _ _);refine qA _ ?_));try simp -dsimp -implicitDefEqProofs (maxSteps:=1000000) (disch:=first | omega | (simp only [LN,e1,e2];omega)) only [go_sem,e1,e2])
   )
   refine And.intro (by split<;>(simp<;>omega)) ?_
   repeat' (first
    | (with_reducible first | apply zY | apply zT | apply zM | apply zN | apply zO | refine qK ?_ | (show False;omega))
    | ((with_reducible first | apply zP | apply zQ | apply zR | apply zL)<;>intro h<;>try (exfalso;first | omega | exact h rfl | (revert h;decide) | (cases h;done)))
    | ((first | (with_reducible first | apply zW | apply zV | apply zU | apply zS | apply zX | show VX _ _ _ _ _ _ _ | show vstep _ _ _ _ _ | show vskip _ _ _ | show withV _ _ | apply qN | apply qR | refine zB default ?_ (by first | omega | (simp only [LN,e1,e2];omega)) (by first | omega | (simp only [LN,e1,e2];omega)) | refine zC default ?_ (by first | omega | (simp only [LN,e1,e2];omega)) | refine qI ?_ (by first | decide | omega | assumption | (simp only [LN,e1,e2];omega))) | (with_reducible first | apply zG | apply zH | apply zI) | ((with_reducible apply zJ);(first | exact ka)) | ((with_reducible show pickE _ _ _);refine qA _ ?_));try simp -dsimp -implicitDefEqProofs (maxSteps:=1000000) (disch:=first | omega | (simp only [LN,e1,e2];omega)) only [go_sem,e1,e2])
   )
   all_goals first | omega | (simp [jp,per_hist,per_done,per_p];done)
 ·have jp:=fun i=>jk_per A J r k i (by omega)
  have hs:r=0∨r=1∨r=2∨r=3∨r=4∨r=5:=by omega
  rcases hs with rfl | rfl | rfl | rfl | rfl | rfl
  all_goals
   repeat' (first
    | (with_reducible first | apply zY | apply zT | apply zM | apply zN | apply zO | refine qK ?_ | (show False;omega))
    | ((with_reducible first | apply zP | apply zQ | apply zR | apply zL)<;>intro h<;>try (exfalso;first | omega | exact h rfl | (revert h;decide) | (cases h;done)))
    | ((first | (with_reducible first | apply zW | apply zV | apply zU | apply zS | apply zX | show VX _ _ _ _ _ _ _ | show vstep _ _ _ _ _ | show vskip _ _ _ | show withV _ _ | apply qN | apply qR | refine zB default ?_ (by first | omega | (simp only [LN,e1,e2];omega)) (by first | omega | (simp only [LN,e1,e2];omega)) | refine zC default ?_ (by first | omega | (simp only [LN,e1,e2];omega)) | refine qI ?_ (by first | decide | omega | assumption | (simp only [LN,e1,e2];omega))) | (with_reducible first | apply zG | apply zH | apply zI) | ((with_reducible apply zJ);(first | exact ka)) | ((with_reducible show pickE _ _ _);refine qA _ ?_));try simp -dsimp -implicitDefEqProofs (maxSteps:=1000000) (disch:=first | omega | (simp only [LN,e1,e2];omega)) only [go_sem,e1,e2])
   )
   refine And.intro (by split<;>(simp<;>omega)) ?_
   repeat' (first
    | (with_reducible first | apply zY | apply zT | apply zM | apply zN | apply zO | refine qK ?_ | (show False;omega))
    | ((with_reducible first | apply zP | apply zQ | apply zR | apply zL)<;>intro h<;>try (exfalso;first | omega | exact h rfl | (revert h;decide) | (cases h;done)))
    | ((first | (with_reducible first | apply zW | apply zV | apply zU | apply zS | apply zX | show VX _ _ _ _ _ _ _ | show vstep _ _ _ _ _ | show vskip _ _ _ | show withV _ _ | apply qN | apply qR | refine zB default ?_ (by first | omega | (simp only [LN,e1,e2];omega)) (by first | omega | (simp only [LN,e1,e2];omega)) | refine zC default ?_ (by first | omega | (simp only [LN,e1,e2];omega)) | refine qI ?_ (by first | decide | omega | assumption | (simp only [LN,e1,e2];omega))) | (with_reducible first | apply zG | apply zH | apply zI) | ((with_reducible apply zJ);(first | exact ka)) | ((with_reducible show pickE _ _ _);refine qA _ ?_));try simp -dsimp -implicitDefEqProofs (maxSteps:=1000000) (disch:=first | omega | (simp only [LN,e1,e2];omega)) only [go_sem,e1,e2])
   )
   all_goals first | omega | (simp [jp,per_hist,per_done,per_p,Nat.min_eq_left hk];done)
end Go.Proofs.YtckhjklcfagkoaaGreatDoor
namespace Go.Proofs.YtckhjklcfagkoaaGreatDoor
set_option maxHeartbeats 4000000
set_option maxRecDepth 100000
open Go Go.Ab
attribute [local irreducible] callK callF loopQ vstep vskip pickE hideP
attribute [local go_sem] deO peO cuO liO thO hiO noO
theorem tOn (A:Dv) (J:JT) (k:Nat) (hk:k<8) (v:Bool):ACalls Tryz.prog 102 [.loc (4+k) 0,.p (.v (.bool v))] (dvL A J) (.p (.v (.bool (!A.off && v)))) (dvL (A.onS k v) J):=by
 refine yA (E:=E) (fn:=Tryz.f102) 20 [.tmp 4] rfl rfl rfl rfl (by decide) rfl rfl ?_
 repeat' (first
  | (with_reducible first | apply zY | apply zT | apply zM | apply zN | apply zO | refine qK ?_ | (show False;omega))
  | ((with_reducible first | apply zP | apply zQ | apply zR | apply zL)<;>intro h)
  | ((first | (with_reducible first | apply zW | apply zV | apply zU | apply zS | apply zX | show VX _ _ _ _ _ _ _ | show vstep _ _ _ _ _ | show vskip _ _ _ | show withV _ _ | apply qN | apply qR | refine zB default ?_ | refine zC default ?_ | refine qI ?_) | (with_reducible first | apply zG | apply zH | apply zI) | ((with_reducible apply zJ);(first | exact tFail A J _ hk 2 | exact tFail A J _ hk 3)) | ((with_reducible show pickE _ _ _);refine qA _ ?_));try simp -dsimp -implicitDefEqProofs (maxSteps:=1000000) (disch:=first | omega | (simp only [LN];omega)) only [go_sem])
 )
 all_goals (simp [Dv.onS, *])
theorem onS_t {A:Dv} {k:Nat} {v:Bool} (h:(!A.off && v)=true):A.onS k v=A:=by
 simp at h
 simp [Dv.onS,h]
theorem tOn1 (A:Dv) (J:JT) (k:Nat) (hk:k<8) (v:Bool) (h:(!A.off && v)=true):ACalls Tryz.prog 102 [.loc (4+k) 0,.p (.v (.bool v))] (dvL A J) (.p (.v (.bool true))) (dvL A J):=by
 have:=tOn A J k hk v
 rw [h,onS_t h] at this;exact this
theorem tOn0 (A:Dv) (J:JT) (k:Nat) (hk:k<8) (v:Bool) (h:(!A.off && v)=false):ACalls Tryz.prog 102 [.loc (4+k) 0,.p (.v (.bool v))] (dvL A J) (.p (.v (.bool false))) (dvL (A.onS k v) J):=by
 have:=tOn A J k hk v
 rw [h] at this;exact this
theorem dLines6 (A:Dv) (J:JT) (hn:A.n≤6):ACalls Tryz.prog 52 [.loc 0 0] (dvL A J) (.p (.v (.int .i64 A.n))) (dvL A J):=by
 refine yA (E:=E) (fn:=Tryz.f52) 10 [.tmp 2] rfl rfl rfl rfl (by decide) rfl rfl ?_
 repeat' (first
  | (with_reducible first | apply zY | apply zT | apply zM | apply zN | apply zO | refine qK ?_ | (show False;omega))
  | ((with_reducible first | apply zP | apply zQ | apply zR | apply zL)<;>intro h)
  | ((first | (with_reducible first | apply zW | apply zV | apply zU | apply zS | apply zX | show VX _ _ _ _ _ _ _ | show vstep _ _ _ _ _ | show vskip _ _ _ | show withV _ _ | apply qN | apply qR | refine zB default ?_ | refine zC default ?_ | refine qI ?_) | ((with_reducible show pickE _ _ _);refine qA _ ?_));try simp -dsimp -implicitDefEqProofs (maxSteps:=1000000) (disch:=first | omega | (simp only [LN];omega)) only [go_sem])
 )
theorem dSize6 (A:Dv) (J:JT) (hn:A.n≤6):ACalls Tryz.prog 42 [.loc 0 0] (dvL A J) (.p (.v (.int .u64 ((64*A.n:Nat):Int)))) (dvL A J):=by
 refine yA (E:=E) (fn:=Tryz.f42) 7 [.tmp 2] rfl rfl rfl rfl (by decide) rfl rfl ?_
 have e1:IntKind.u64.wrap (A.n:Int)=(A.n:Int):=by rw [IntKind.wrap_u64];omega
 have e2:IntKind.u64.wrap ((A.n:Int)*64)=((64*A.n:Nat):Int):=by rw [IntKind.wrap_u64];omega
 repeat' (first
  | (with_reducible first | apply zY | apply zT | apply zM | apply zN | apply zO | refine qK ?_ | (show False;omega))
  | ((with_reducible first | apply zP | apply zQ | apply zR | apply zL)<;>intro h)
  | ((first | (with_reducible first | apply zW | apply zV | apply zU | apply zS | apply zX | show VX _ _ _ _ _ _ _ | show vstep _ _ _ _ _ | show vskip _ _ _ | show withV _ _ | apply qN | apply qR | refine zB default ?_ (by first | omega | (simp only [LN,e1,e2];omega)) (by first | omega | (simp only [LN,e1,e2];omega)) | refine zC default ?_ (by first | omega | (simp only [LN,e1,e2];omega)) | refine qI ?_ (by first | decide | omega | assumption | (simp only [LN,e1,e2];omega))) | (with_reducible first | apply zG | apply zH | apply zI) | ((with_reducible apply zJ);(first | exact dLines6 A J hn)) | ((with_reducible show pickE _ _ _);refine qA _ ?_));try simp -dsimp -implicitDefEqProofs (maxSteps:=1000000) (disch:=first | omega | (simp only [LN,e1,e2];omega)) only [go_sem,e1,e2])
 )
theorem dThread6 (A:Dv) (J:JT) (k:Nat) (hk:k<8):ACalls Tryz.prog 34 [.loc 0 0,.p (.v (.int .i64 k))] (dvL A J) (.loc (4+k) 0) (dvL A J):=by
 refine yA (E:=E) (fn:=Tryz.f34) 21 [.tmp 4] rfl rfl rfl rfl (by decide) rfl rfl ?_
 rcases lt8 hk with rfl | rfl | rfl | rfl | rfl | rfl | rfl | rfl
 all_goals
  repeat' (first
   | (with_reducible first | apply zY | apply zT | apply zM | apply zN | apply zO | refine qK ?_ | (show False;omega))
   | ((with_reducible first | apply zP | apply zQ | apply zR | apply zL)<;>intro h)
   | ((first | (with_reducible first | apply zW | apply zV | apply zU | apply zS | apply zX | show VX _ _ _ _ _ _ _ | show vstep _ _ _ _ _ | show vskip _ _ _ | show withV _ _ | apply qN | apply qR | refine zB default ?_ | refine zC default ?_ | refine qI ?_) | ((with_reducible show pickE _ _ _);refine qA _ ?_));try simp -dsimp -implicitDefEqProofs (maxSteps:=1000000) (disch:=first | omega | (simp only [LN];omega)) only [go_sem])
  )
def Dv.isW (A:Dv) (o:Int):Bool:=decide (o % 8=0) && decide (o<((64*A.n:Nat):Int))
theorem tWord (A:Dv) (J:JT) (k:Nat) (hk:k<8) (hn:A.n≤6) (o:Int) (ho:0≤o∧o≤18446744073709551615):ACalls Tryz.prog 85 [.loc (4+k) 0,.p (.v (.int .u64 o))] (dvL A J) (.p (.v (.bool (A.isW o)))) (dvL A J):=by
 refine yA (E:=E) (fn:=Tryz.f85) 17 [.tmp 4] rfl rfl rfl rfl (by decide) rfl rfl ?_
 have e1:o.tmod 8=o % 8:=Int.tmod_eq_emod_of_nonneg ho.1
 repeat' (first
  | (with_reducible first | apply zY | apply zT | apply zM | apply zN | apply zO | refine qK ?_ | (show False;omega))
  | ((with_reducible first | apply zP | apply zQ | apply zR | apply zL)<;>intro h)
  | ((first | (with_reducible first | apply zW | apply zV | apply zU | apply zS | apply zX | show VX _ _ _ _ _ _ _ | show vstep _ _ _ _ _ | show vskip _ _ _ | show withV _ _ | apply qN | apply qR | refine zB default ?_ (by first | omega | (simp only [LN,e1];omega)) (by first | omega | (simp only [LN,e1];omega)) | refine zC default ?_ (by first | omega | (simp only [LN,e1];omega)) | refine qI ?_ (by first | decide | omega | assumption | (simp only [LN,e1];omega))) | (with_reducible first | apply zG | apply zH | apply zI) | ((with_reducible apply zJ);(first | exact dSize6 A J hn)) | ((with_reducible show pickE _ _ _);refine qA _ ?_));try simp -dsimp -implicitDefEqProofs (maxSteps:=1000000) (disch:=first | omega | (simp only [LN,e1];omega)) only [go_sem,e1])
 )
 all_goals (simp [Dv.isW,h])
end Go.Proofs.YtckhjklcfagkoaaGreatDoor
namespace Go.Proofs.YtckhjklcfagkoaaGreatDoor
set_option maxHeartbeats 4000000
set_option maxRecDepth 100000
open Go Go.Ab
attribute [local irreducible] callK callF loopQ vstep vskip pickE hideP
attribute [local go_sem] deO peO cuO liO thO hiO noO
theorem cnt_f {A:Dv} {k:Nat} {v:Bool} (h:(!A.off && v)=false):A.cnt k v=A.onS k v:=by
 cases ho:A.off<;>cases v<;>simp_all [Dv.cnt,Dv.onS]
theorem cntB_f {A:Dv} {v:Bool} (h:(!A.off && v)=false):A.cntB v=false:=by
 cases ho:A.off<;>cases v<;>simp_all [Dv.cntB]
theorem tCnt (A:Dv) (J:JT) (k:Nat) (hk:k<8) (v:Bool):ACalls Tryz.prog 84 [.loc (4+k) 0,.p (.v (.bool v))] (dvL A J) (.p (.v (.bool (A.cntB v)))) (dvL (A.cnt k v) J):=by
 refine yA (E:=E) (fn:=Tryz.f84) 42 [.tmp 4] rfl rfl rfl rfl (by decide) rfl rfl ?_
 by_cases hv:(!A.off && v)=true
 ·have kn:=tOn1 A J _ hk v hv
  have kf:=tFail { A with off:=true } J _ hk 3
  repeat' (first
   | (with_reducible first | apply zY | apply zT | apply zM | apply zN | apply zO | refine qK ?_ | (show False;omega))
   | ((with_reducible first | apply zP | apply zQ | apply zR | apply zL)<;>intro h)
   | ((first | (with_reducible first | apply zW | apply zV | apply zU | apply zS | apply zX | show VX _ _ _ _ _ _ _ | show vstep _ _ _ _ _ | show vskip _ _ _ | show withV _ _ | apply qN | apply qR | refine zB default ?_ | refine zC default ?_ | refine qI ?_) | (with_reducible first | apply zG | apply zH | apply zI) | ((with_reducible apply zJ);(first | exact kn | exact kf)) | ((with_reducible show pickE _ _ _);refine qA _ ?_));try simp -dsimp -implicitDefEqProofs (maxSteps:=1000000) (disch:=first | omega | (simp only [LN];omega)) only [go_sem])
  )
  all_goals (simp at hv;simp [Dv.cnt,Dv.cntB,Dv.fail,jk, *])
 ·simp only [Bool.not_eq_true] at hv
  rw [cnt_f hv,cntB_f hv]
  have kn:=tOn0 A J _ hk v hv
  repeat' (first
   | (with_reducible first | apply zY | apply zT | apply zM | apply zN | apply zO | refine qK ?_ | (show False;omega))
   | ((with_reducible first | apply zP | apply zQ | apply zR | apply zL)<;>intro h)
   | ((first | (with_reducible first | apply zW | apply zV | apply zU | apply zS | apply zX | show VX _ _ _ _ _ _ _ | show vstep _ _ _ _ _ | show vskip _ _ _ | show withV _ _ | apply qN | apply qR | refine zB default ?_ | refine zC default ?_ | refine qI ?_) | (with_reducible first | apply zG | apply zH | apply zI) | ((with_reducible apply zJ);(first | exact kn)) | ((with_reducible show pickE _ _ _);refine qA _ ?_));try simp -dsimp -implicitDefEqProofs (maxSteps:=1000000) (disch:=first | omega | (simp only [LN];omega)) only [go_sem])
  )
end Go.Proofs.YtckhjklcfagkoaaGreatDoor
