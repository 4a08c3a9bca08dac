/- Contracts of functions of this program, and the plain facts that they rest on. No conditions. -/
import Derived.Test.YtckhjklcfagkoaaGreatDoorJDvSQ
import Derived.Test.YtckhjklcfagkoaaGreatDoorJDvR0Q
set_option linter.unusedSimpArgs false
set_option linter.unusedVariables false
namespace Go.Proofs.YtckhjklcfagkoaaGreatDoor
set_option maxHeartbeats 4000000
set_option maxRecDepth 100000
open Go Go.Ab
attribute [local irreducible] callK callF loopQ vstep vskip pickE hideP
attribute [local go_sem] eU deO peO cuO liO thO hiO noO
theorem dCur6 (A:Dv) (J:JT) (h:WF A):ACalls Tryz.prog 19 [.loc 0 0] (dvL A J) (.sl 26 1 0 (64*A.n)) (dvL A J++[.arr 1 (byL A.cur (64*A.n) (64*A.n))]):=by
 refine yA (E:=E) (fn:=Tryz.f19) 10 [.tmp 2] rfl rfl rfl rfl (by decide) rfl rfl ?_
 have h6:=h.n6
 have hp:=h.cur
 have k:=dBytes A.cur (by rw [h.cur];omega)
 rw [h.cur,show 8*(8*A.n)=64*A.n by omega] at k
 repeat' (first
  | (with_reducible first | apply zY | apply zT | apply zM | apply zN | apply zO | refine qK ?_ | (show False;omega))
  | ((with_reducible first | apply zP | apply zQ | apply zR | apply zL)<;>intro h)
  | ((first | (with_reducible first | apply zW | apply zV | apply zU | apply zS | apply zX | show VX _ _ _ _ _ _ _ | show vstep _ _ _ _ _ | show vskip _ _ _ | show withV _ _ | apply qN | apply qR | refine zB default ?_ | refine zC default ?_ | refine qI ?_) | (with_reducible first | apply zG | apply zH | apply zI) | ((with_reducible apply zJ);(first | exact k)) | ((with_reducible show pickE _ _ _);refine qA _ ?_));try simp -dsimp -implicitDefEqProofs (maxSteps:=1000000) (disch:=first | omega | (simp only [LN];omega)) only [go_sem])
 )
theorem dExec6 (A:Dv) (J:JT):ACalls Tryz.prog 22 [.loc 0 0] (dvL A J) (.p (.v (.int .u64 A.ex))) (dvL A J):=by
 refine yA (E:=E) (fn:=Tryz.f22) 9 [.tmp 2] rfl rfl rfl rfl (by decide) rfl rfl ?_
 repeat' (first
  | (with_reducible first | apply zY | apply zT | apply zM | apply zN | apply zO | refine qK ?_ | (show False;omega))
  | ((with_reducible first | apply zP | apply zQ | apply zR | apply zL)<;>intro h)
  | ((first | (with_reducible first | apply zW | apply zV | apply zU | apply zS | apply zX | show VX _ _ _ _ _ _ _ | show vstep _ _ _ _ _ | show vskip _ _ _ | show withV _ _ | apply qN | apply qR | refine zB default ?_ | refine zC default ?_ | refine qI ?_) | ((with_reducible show pickE _ _ _);refine qA _ ?_));try simp -dsimp -implicitDefEqProofs (maxSteps:=1000000) (disch:=first | omega | (simp only [LN];omega)) only [go_sem])
 )
def Dv.load (A:Dv) (o:Int):Int:=if (!A.off && A.isW o)=true then A.cur.getD (o / 8).toNat 0 else 0
theorem tErr6 (A:Dv) (J:JT) (k:Nat) (hk:k<8):ACalls Tryz.prog 59 [.loc (4+k) 0] (dvL A J) (.p (.v (.int .i64 (A.err k)))) (dvL A J):=by
 refine yA (E:=E) (fn:=Tryz.f59) 16 [.tmp 2] rfl rfl rfl rfl (by decide) rfl rfl ?_
 repeat' (first
  | (with_reducible first | apply zY | apply zT | apply zM | apply zN | apply zO | refine qK ?_ | (show False;omega))
  | ((with_reducible first | apply zP | apply zQ | apply zR | apply zL)<;>intro h)
  | ((first | (with_reducible first | apply zW | apply zV | apply zU | apply zS | apply zX | show VX _ _ _ _ _ _ _ | show vstep _ _ _ _ _ | show vskip _ _ _ | show withV _ _ | apply qN | apply qR | refine zB default ?_ | refine zC default ?_ | refine qI ?_) | ((with_reducible show pickE _ _ _);refine qA _ ?_));try simp -dsimp -implicitDefEqProofs (maxSteps:=1000000) (disch:=first | omega | (simp only [LN];omega)) only [go_sem])
 )
theorem tID6 (A:Dv) (J:JT) (k:Nat) (hk:k<8):ACalls Tryz.prog 60 [.loc (4+k) 0] (dvL A J) (.p (.v (.int .i64 k))) (dvL A J):=by
 refine yA (E:=E) (fn:=Tryz.f60) 9 [.tmp 2] rfl rfl rfl rfl (by decide) rfl rfl ?_
 repeat' (first
  | (with_reducible first | apply zY | apply zT | apply zM | apply zN | apply zO | refine qK ?_ | (show False;omega))
  | ((with_reducible first | apply zP | apply zQ | apply zR | apply zL)<;>intro h)
  | ((first | (with_reducible first | apply zW | apply zV | apply zU | apply zS | apply zX | show VX _ _ _ _ _ _ _ | show vstep _ _ _ _ _ | show vskip _ _ _ | show withV _ _ | apply qN | apply qR | refine zB default ?_ | refine zC default ?_ | refine qI ?_) | ((with_reducible show pickE _ _ _);refine qA _ ?_));try simp -dsimp -implicitDefEqProofs (maxSteps:=1000000) (disch:=first | omega | (simp only [LN];omega)) only [go_sem])
 )
theorem tSize6 (A:Dv) (J:JT) (k:Nat) (hk:k<8) (hn:A.n≤6):ACalls Tryz.prog 61 [.loc (4+k) 0] (dvL A J) (.p (.v (.int .u64 ((64*A.n:Nat):Int)))) (dvL A J):=by
 refine yA (E:=E) (fn:=Tryz.f61) 10 [.tmp 2] rfl rfl rfl rfl (by decide) rfl rfl ?_
 repeat' (first
  | (with_reducible first | apply zY | apply zT | apply zM | apply zN | apply zO | refine qK ?_ | (show False;omega))
  | ((with_reducible first | apply zP | apply zQ | apply zR | apply zL)<;>intro h)
  | ((first | (with_reducible first | apply zW | apply zV | apply zU | apply zS | apply zX | show VX _ _ _ _ _ _ _ | show vstep _ _ _ _ _ | show vskip _ _ _ | show withV _ _ | apply qN | apply qR | refine zB default ?_ | refine zC default ?_ | refine qI ?_) | (with_reducible first | apply zG | apply zH | apply zI) | ((with_reducible apply zJ);(first | exact dSize6 A J hn)) | ((with_reducible show pickE _ _ _);refine qA _ ?_));try simp -dsimp -implicitDefEqProofs (maxSteps:=1000000) (disch:=first | omega | (simp only [LN];omega)) only [go_sem])
 )
end Go.Proofs.YtckhjklcfagkoaaGreatDoor
namespace Go.Proofs.YtckhjklcfagkoaaGreatDoor
set_option maxHeartbeats 4000000
set_option maxRecDepth 100000
open Go Go.Ab
attribute [local irreducible] callK callF loopQ vstep vskip pickE hideP
def eNt (p:Nat × Int):PV:=.agg [.v (.int .i64 p.1),.v (.int .i64 p.2)]
def wA (W:List Int) (r j:Nat):PV:=.v (.int .u64 (W.getD (8*r+j) 0))
def lnP (A:Dv) (r:Nat):PV:=.agg [wA A.per r 0,wA A.per r 1,wA A.per r 2,wA A.per r 3,wA A.per r 4,wA A.per r 5,wA A.per r 6,wA A.per r 7,.view 2 ((A.hist r).map eWr),.v (.int .i64 (A.done r))]
def lnsR (A:Dv):List PV:=(List.range A.n).map (lnP A)
theorem lns_len (A:Dv):(lnsR A).length=A.n:=by simp [lnsR]
theorem lns_get (A:Dv) {r:Nat} (h:r<A.n):(lnsR A)[r]? = some (lnP A r):=by simp [lnsR,h]
theorem lns_set {A B:Dv} (hn:B.n=A.n) {r:Nat} {e:PV} (he:e=lnP B r) (ho:∀ i,i<A.n→i≠r→lnP B i=lnP A i):(lnsR A).set r e=lnsR B:=by
 subst he
 unfold lnsR
 rw [hn]
 apply List.ext_getElem (by simp)
 intro i h1 h2
 rw [List.getElem_set]
 simp only [List.getElem_map,List.getElem_range]
 split
 ·rename_i e;rw [e]
 ·rename_i e;exact (ho i (by simpa using h1) (fun h=>e h.symm)).symm
def leftR (A:Dv):Int:=if A.armed=true then A.left else -1
def rdO (A:Dv) (M:MT) (l:Nat):Ob:=.var [.sl l 10 0 A.n,.p (.view 2 ((M 0).map eNt)),.p (.view 2 ((M 1).map eNt)),.p (.view 2 ((M 2).map eNt)),.p (.view 2 ((M 3).map eNt)),.p (.view 2 ((M 4).map eNt)),.p (.view 2 ((M 5).map eNt)),.p (.view 2 ((M 6).map eNt)),.p (.view 2 ((M 7).map eNt)),.p (.v (.int .i64 (A.err 0))),.p (.v (.int .i64 (A.err 1))),.p (.v (.int .i64 (A.err 2))),.p (.v (.int .i64 (A.err 3))),.p (.v (.int .i64 (A.err 4))),.p (.v (.int .i64 (A.err 5))),.p (.v (.int .i64 (A.err 6))),.p (.v (.int .i64 (A.err 7))),.p (.v (.int .i64 (leftR A))),.p (.v (.bool A.off)),.p (.v (.int .u64 A.ex))]
def rlO (A:Dv):Ob:=.arr 10 (lnsR A)
attribute [local go_sem] rdO rlO
theorem rIs (A:Dv) (M:MT) (hn:A.n≤6) (o:Int) (ho:0≤o∧o≤18446744073709551615):ACalls Tryz.prog 29 [.loc 0 0,.p (.v (.int .u64 o))] [rdO A M 1,rlO A] (.p (.v (.bool (A.isW o)))) [rdO A M 1,rlO A]:=by
 refine yA (E:=E) (fn:=Tryz.f29) 19 [.tmp 4] rfl rfl rfl rfl (by decide) rfl rfl ?_
 have e1:o.tmod 8=o % 8:=Int.tmod_eq_emod_of_nonneg ho.1
 have e2:IntKind.u64.wrap (o.tdiv 64)=o / 64:=by rw [Int.tdiv_eq_ediv_of_nonneg ho.1,IntKind.wrap_u64];omega
 have e3:IntKind.u64.wrap (A.n:Int)=A.n:=by rw [IntKind.wrap_u64];omega
 have e4:IntKind.u64.wrap (o / 64)=o / 64:=by rw [IntKind.wrap_u64];omega
 repeat' (first
  | (with_reducible first | apply zY | apply zT | apply zM | apply zN | apply zO | refine qK ?_ | (show False;omega))
  | ((with_reducible first | apply zP | apply zQ | apply zR | apply zL)<;>intro h)
  | ((first | (with_reducible first | apply zW | apply zV | apply zU | apply zS | apply zX | show VX _ _ _ _ _ _ _ | show vstep _ _ _ _ _ | show vskip _ _ _ | show withV _ _ | apply qN | apply qR | refine zB default ?_ (by first | omega | (simp only [LN,e1,e2,e3,e4];omega)) (by first | omega | (simp only [LN,e1,e2,e3,e4];omega)) | refine zC default ?_ (by first | omega | (simp only [LN,e1,e2,e3,e4];omega)) | refine qI ?_ (by first | decide | omega | assumption | (simp only [LN,e1,e2,e3,e4];omega))) | ((with_reducible show pickE _ _ _);refine qA _ ?_));try simp -dsimp -implicitDefEqProofs (maxSteps:=1000000) (disch:=first | omega | (simp only [LN,e1,e2,e3,e4];omega)) only [go_sem,e1,e2,e3,e4])
 )
 all_goals first | (congr 1;unfold Dv.isW;rw [Bool.eq_iff_iff];simp;omega)
theorem rFail (A:Dv) (M:MT) (k:Nat) (hk:k<8) (e:Int):ACalls Tryz.prog 106 [.loc 0 0,.p (.v (.int .i64 k)),.p (.v (.int .i64 e))] [rdO A M 1,rlO A] (.p (.tup [])) [rdO (A.fail k e) M 1,rlO (A.fail k e)]:=by
 refine yA (E:=E) (fn:=Tryz.f106) 19 [] rfl rfl rfl rfl (by decide) rfl rfl ?_
 rcases lt8 hk with rfl | rfl | rfl | rfl | rfl | rfl | rfl | rfl
 all_goals
  repeat' (first
   | (with_reducible first | apply zY | apply zT | apply zM | apply zN | apply zO | refine qK ?_ | (show False;omega))
   | ((with_reducible first | apply zP | apply zQ | apply zR | apply zL)<;>intro h)
   | ((first | (with_reducible first | apply zW | apply zV | apply zU | apply zS | apply zX | show VX _ _ _ _ _ _ _ | show vstep _ _ _ _ _ | show vskip _ _ _ | show withV _ _ | apply qN | apply qR | refine zB default ?_ | refine zC default ?_ | refine qI ?_) | ((with_reducible show pickE _ _ _);refine qA _ ?_));try simp -dsimp -implicitDefEqProofs (maxSteps:=1000000) (disch:=first | omega | (simp only [LN];omega)) only [go_sem])
  )
  all_goals first | (simp [Dv.fail,upd,leftR,lnsR,lnP,h];done)
end Go.Proofs.YtckhjklcfagkoaaGreatDoor
namespace Go.Proofs.YtckhjklcfagkoaaGreatDoor
set_option maxHeartbeats 4000000
set_option maxRecDepth 100000
open Go Go.Ab
attribute [local irreducible] callK callF loopQ vstep vskip pickE hideP
attribute [local go_sem] rdO rlO lns_len
theorem rMay (A:Dv) (M:MT) (k:Nat) (hk:k<8) (v:Bool):ACalls Tryz.prog 103 [.loc 0 0,.p (.v (.int .i64 k)),.p (.v (.bool v))] [rdO A M 1,rlO A] (.p (.v (.bool (!A.off && v)))) [rdO (A.onS k v) M 1,rlO (A.onS k v)]:=by
 refine yA (E:=E) (fn:=Tryz.f103) 19 [.tmp 6] rfl rfl rfl rfl (by decide) rfl rfl ?_
 repeat' (first
  | (with_reducible first | apply zY | apply zT | apply zM | apply zN | apply zO | refine qK ?_ | (show False;omega))
  | ((with_reducible first | apply zP | apply zQ | apply zR | apply zL)<;>intro h)
  | ((first | (with_reducible first | apply zW | apply zV | apply zU | apply zS | apply zX | show VX _ _ _ _ _ _ _ | show vstep _ _ _ _ _ | show vskip _ _ _ | show withV _ _ | apply qN | apply qR | refine zB default ?_ | refine zC default ?_ | refine qI ?_) | (with_reducible first | apply zG | apply zH | apply zI) | ((with_reducible apply zJ);(first | exact rFail A M k hk 2 | exact rFail A M k hk 3)) | ((with_reducible show pickE _ _ _);refine qA _ ?_));try simp -dsimp -implicitDefEqProofs (maxSteps:=1000000) (disch:=first | omega | (simp only [LN];omega)) only [go_sem])
 )
 all_goals (simp [Dv.onS, *])
def LO (A:Dv):Prop:=A.armed=true→0≤A.left∧A.left≤9223372036854775807
theorem LO.fail {A:Dv} (h:LO A) (k:Nat) (e:Int):LO (A.fail k e):=by unfold Dv.fail;split<;>exact h
theorem LO.cnt {A:Dv} (h:LO A) (k:Nat) (v:Bool):LO (A.cnt k v):=by
 unfold Dv.cnt
 split
 ·exact h.fail k 3
 ·split
  ·exact h.fail k 2
  ·split
   ·rename_i ha
    have:=h ha
    split
    ·exact LO.fail (A:={ A with off:=true }) h k 3
    ·intro _
     show 0≤IntKind.i64.wrap (A.left - 1)∧IntKind.i64.wrap (A.left - 1)≤_
     rw [IntKind.wrap_i64];omega
   ·exact h
theorem rCnt (A:Dv) (M:MT) (k:Nat) (hk:k<8) (v:Bool) (hL:LO A):ACalls Tryz.prog 87 [.loc 0 0,.p (.v (.int .i64 k)),.p (.v (.bool v))] [rdO A M 1,rlO A] (.p (.v (.bool (A.cntB v)))) [rdO (A.cnt k v) M 1,rlO (A.cnt k v)]:=by
 refine yA (E:=E) (fn:=Tryz.f87) 42 [.tmp 6] rfl rfl rfl rfl (by decide) rfl rfl ?_
 have km:=rMay A M k hk v
 by_cases hv:(!A.off && v)=true
 ·rw [hv,onS_t hv] at km
  simp only [Bool.and_eq_true,Bool.not_eq_true'] at hv
  obtain ⟨ho,rfl⟩:=hv
  cases ha:A.armed with
  | true =>
   have hl:=hL ha
   have e0:leftR A=A.left:=if_pos ha
   by_cases h0:A.left=0
   ·have e1:A.cnt k true=({ A with off:=true }:Dv).fail k 3:=by unfold Dv.cnt;rw [ho,ha,if_neg (by simp),if_neg (by simp),if_pos rfl,if_pos h0]
    have e2:A.cntB true=false:=by simp [Dv.cntB,ha,h0]
    have kf:=rFail { A with off:=true } M k hk 3
    rw [e1,e2]
    repeat' (first
     | (with_reducible first | apply zY | apply zT | apply zM | apply zN | apply zO | refine qK ?_ | (show False;omega))
     | ((with_reducible first | apply zP | apply zQ | apply zR | apply zL)<;>intro h<;>try (exfalso;first | omega | exact h rfl | (revert h;decide) | (cases h;done)))
     | ((first | (with_reducible first | apply zW | apply zV | apply zU | apply zS | apply zX | show VX _ _ _ _ _ _ _ | show vstep _ _ _ _ _ | show vskip _ _ _ | show withV _ _ | apply qN | apply qR | refine zB default ?_ | refine zC default ?_ | refine qI ?_) | (with_reducible first | apply zG | apply zH | apply zI) | ((with_reducible apply zJ);(first | exact km | exact kf)) | ((with_reducible show pickE _ _ _);refine qA _ ?_));try simp -dsimp -implicitDefEqProofs (maxSteps:=1000000) (disch:=first | omega | (simp only [LN];omega)) only [go_sem])
    )
    all_goals first | omega | (simp [*];done)
   ·have e1:A.cnt k true={ A with left:=A.left - 1,ex:=IntKind.u64.wrap (A.ex+1) }:=by
     unfold Dv.cnt;rw [ho,ha,if_neg (by simp),if_neg (by simp),if_pos rfl,if_neg h0,show IntKind.i64.wrap (A.left - 1)=A.left - 1 by rw [IntKind.wrap_i64];omega]
    have e2:A.cntB true=true:=by simp [Dv.cntB,ho,h0]
    rw [e1,e2]
    have e3:leftR ({ A with left:=A.left - 1,ex:=IntKind.u64.wrap (A.ex+1) }:Dv)=leftR A - 1:=by rw [e0];exact if_pos ha
    have e5:IntKind.i64.wrap (leftR A - 1)=leftR A - 1:=by rw [IntKind.wrap_i64];omega
    have e4:lnsR ({ A with left:=A.left - 1,ex:=IntKind.u64.wrap (A.ex+1) }:Dv)=lnsR A:=rfl
    repeat' (first
     | (with_reducible first | apply zY | apply zT | apply zM | apply zN | apply zO | refine qK ?_ | (show False;omega))
     | ((with_reducible first | apply zP | apply zQ | apply zR | apply zL)<;>intro h<;>try (exfalso;first | omega | exact h rfl | (revert h;decide) | (cases h;done)))
     | ((first | (with_reducible first | apply zW | apply zV | apply zU | apply zS | apply zX | show VX _ _ _ _ _ _ _ | show vstep _ _ _ _ _ | show vskip _ _ _ | show withV _ _ | apply qN | apply qR | refine zB default ?_ (by first | omega | (simp only [LN,e3,e4,e5];omega)) (by first | omega | (simp only [LN,e3,e4,e5];omega)) | refine zC default ?_ (by first | omega | (simp only [LN,e3,e4,e5];omega)) | refine qI ?_ (by first | decide | omega | assumption | (simp only [LN,e3,e4,e5];omega))) | (with_reducible first | apply zG | apply zH | apply zI) | ((with_reducible apply zJ);(first | exact km)) | ((with_reducible show pickE _ _ _);refine qA _ ?_));try simp -dsimp -implicitDefEqProofs (maxSteps:=1000000) (disch:=first | omega | (simp only [LN,e3,e4,e5];omega)) only [go_sem,e3,e4,e5])
    )
    all_goals first | omega | (simp [*];done)
  | false =>
   have e0:leftR A=-1:=by unfold leftR;rw [ha];rfl
   have e1:A.cnt k true={ A with ex:=IntKind.u64.wrap (A.ex+1) }:=by unfold Dv.cnt;rw [ho,ha,if_neg (by simp),if_neg (by simp),if_neg (by simp)]
   have e2:A.cntB true=true:=by simp [Dv.cntB,ho,ha]
   rw [e1,e2]
   have e3:leftR ({ A with ex:=IntKind.u64.wrap (A.ex+1) }:Dv)=leftR A:=rfl
   have e4:lnsR ({ A with ex:=IntKind.u64.wrap (A.ex+1) }:Dv)=lnsR A:=rfl
   repeat' (first
    | (with_reducible first | apply zY | apply zT | apply zM | apply zN | apply zO | refine qK ?_ | (show False;omega))
    | ((with_reducible first | apply zP | apply zQ | apply zR | apply zL)<;>intro h<;>try (exfalso;first | omega | exact h rfl | (revert h;decide) | (cases h;done)))
    | ((first | (with_reducible first | apply zW | apply zV | apply zU | apply zS | apply zX | show VX _ _ _ _ _ _ _ | show vstep _ _ _ _ _ | show vskip _ _ _ | show withV _ _ | apply qN | apply qR | refine zB default ?_ (by first | omega | (simp only [LN,e3,e4];omega)) (by first | omega | (simp only [LN,e3,e4];omega)) | refine zC default ?_ (by first | omega | (simp only [LN,e3,e4];omega)) | refine qI ?_ (by first | decide | omega | assumption | (simp only [LN,e3,e4];omega))) | (with_reducible first | apply zG | apply zH | apply zI) | ((with_reducible apply zJ);(first | exact km)) | ((with_reducible show pickE _ _ _);refine qA _ ?_));try simp -dsimp -implicitDefEqProofs (maxSteps:=1000000) (disch:=first | omega | (simp only [LN,e3,e4];omega)) only [go_sem,e3,e4])
   )
   all_goals first | omega | (simp [*];done)
 ·simp only [Bool.not_eq_true] at hv
  have hcf:A.cnt k v=A.onS k v∧A.cntB v=false:=⟨cnt_f hv,cntB_f hv⟩
  rw [hcf.1,hcf.2]
  rw [hv] at km
  repeat' (first
   | (with_reducible first | apply zY | apply zT | apply zM | apply zN | apply zO | refine qK ?_ | (show False;omega))
   | ((with_reducible first | apply zP | apply zQ | apply zR | apply zL)<;>intro h<;>try (exfalso;first | omega | exact h rfl | (revert h;decide) | (cases h;done)))
   | ((first | (with_reducible first | apply zW | apply zV | apply zU | apply zS | apply zX | show VX _ _ _ _ _ _ _ | show vstep _ _ _ _ _ | show vskip _ _ _ | show withV _ _ | apply qN | apply qR | refine zB default ?_ | refine zC default ?_ | refine qI ?_) | (with_reducible first | apply zG | apply zH | apply zI) | ((with_reducible apply zJ);(first | exact km)) | ((with_reducible show pickE _ _ _);refine qA _ ?_));try simp -dsimp -implicitDefEqProofs (maxSteps:=1000000) (disch:=first | omega | (simp only [LN];omega)) only [go_sem])
  )
theorem wA_get (W:List Int) (r j:Nat):wA W r j=.v (.int .u64 (W.getD (8*r+j) 0)):=rfl
theorem wA_set {W:List Int} {r m j:Nat} {v:Int} (hm:8*r+m<W.length) (hm8:m<8) (hj:j<8):wA (W.set (8*r+m) v) r j=if j=m then .v (.int .u64 v) else wA W r j:=by
 unfold wA
 simp only [List.getD_eq_getElem?_getD]
 by_cases h:j=m
 ·subst h;simp [hm]
 ·rw [if_neg h,List.getElem?_set_ne (by omega)]
theorem appL_take1 {W:List Int} {l:List (Int × Int)} {i:Nat} (h:i<l.length):appL W (l.take (i+1))=(appL W (l.take i)).set ((l.getD i default).1 / 8).toNat (l.getD i default).2:=by
 rw [yE default h,appL_app];rfl
theorem uw0:IntKind.u64.wrap 0=0:=rfl
theorem uw1:IntKind.u64.wrap 1=1:=rfl
theorem uw2:IntKind.u64.wrap 2=2:=rfl
theorem uw3:IntKind.u64.wrap 3=3:=rfl
theorem uw4:IntKind.u64.wrap 4=4:=rfl
theorem uw5:IntKind.u64.wrap 5=5:=rfl
theorem uw6:IntKind.u64.wrap 6=6:=rfl
theorem uw7:IntKind.u64.wrap 7=7:=rfl
theorem rWords (A:Dv) (h:WF A) (r k:Nat) (hr:r<A.n) (hk:k≤(A.hist r).length):PCalls Tryz.prog 91 [lnP A r,.v (.int .i64 k)] (.agg [wA (appL A.per ((A.hist r).take k)) r 0,wA (appL A.per ((A.hist r).take k)) r 1,wA (appL A.per ((A.hist r).take k)) r 2,wA (appL A.per ((A.hist r).take k)) r 3,wA (appL A.per ((A.hist r).take k)) r 4,wA (appL A.per ((A.hist r).take k)) r 5,wA (appL A.per ((A.hist r).take k)) r 6,wA (appL A.per ((A.hist r).take k)) r 7]):=by
 refine yB (E:=E) (fn:=Tryz.f91) 30 [.cell 4 100] rfl rfl rfl rfl (by decide) rfl ?_
 have h6:=h.n6
 have hlen:=h.len r (by omega)
 have hp:=h.per
 repeat' (first
  | (with_reducible first | apply zY | apply zT | apply zM | apply zN | apply zO | refine qK ?_ | (show False;omega))
  | ((with_reducible first | apply zP | apply zQ | apply zR | apply zL)<;>intro h)
  | ((first | (with_reducible first | apply zW | apply zV | apply zU | apply zS | apply zX | show VX _ _ _ _ _ _ _ | show vstep _ _ _ _ _ | show vskip _ _ _ | show withV _ _ | apply qN | apply qR | refine zB default ?_ (by first | omega | (simp only [LN,lnP,wA_get];omega)) (by first | omega | (simp only [LN,lnP,wA_get];omega)) | refine zC default ?_ (by first | omega | (simp only [LN,lnP,wA_get];omega)) | refine qI ?_ (by first | decide | omega | assumption | (simp only [LN,lnP,wA_get];omega))) | ((with_reducible show pickE _ _ _);refine qA _ ?_));try simp -dsimp -implicitDefEqProofs (maxSteps:=1000000) (disch:=first | omega | (simp only [LN,lnP,wA_get];omega)) only [go_sem,lnP,wA_get])
 )
 refine r_loopA (α:=Nat) [1,2,4,5] (fun i b=>[(6,aI i)]) (fun i b=>[(5,.var [.p (wA (appL A.per ((A.hist r).take i)) r 0),.p (wA (appL A.per ((A.hist r).take i)) r 1),.p (wA (appL A.per ((A.hist r).take i)) r 2),.p (wA (appL A.per ((A.hist r).take i)) r 3),.p (wA (appL A.per ((A.hist r).take i)) r 4),.p (wA (appL A.per ((A.hist r).take i)) r 5),.p (wA (appL A.per ((A.hist r).take i)) r 6),.p (wA (appL A.per ((A.hist r).take i)) r 7)])]) (fun i=>[]) (fun i=>i≤k) (fun i=>k - i) (0) ?h0_1 ?hs0_1 ?I_1 ?hI_1 ?round_1
 case hI_1=>intro x;(simp -dsimp -implicitDefEqProofs (maxSteps:=1000000) (disch:=first | omega | (simp only [LN];omega)) only [go_sem])<;>exact rfl
 case hs0_1=>refine wk_auto ?_;(simp -dsimp -implicitDefEqProofs (maxSteps:=1000000) (disch:=first | omega | (simp only [LN,List.take_zero,appL,List.foldl_nil,wA_get];omega)) only [go_sem,List.take_zero,appL,List.foldl_nil,wA_get])<;>(try omega)
 case h0_1=>exact Nat.zero_le _
 case round_1 =>
  intro i hi
  by_cases hik:i<k
  ·have hx:=h.hist r (by omega) ((A.hist r).getD i default) (by rw [List.getD_eq_getElem?_getD,List.getElem?_eq_getElem (by omega)];exact List.getElem_mem _)
   have hst:=appL_take1 (W:=A.per) (l:=A.hist r) (i:=i) (by omega)
   have hal:(appL A.per ((A.hist r).take i)).length=8*A.n:=by rw [appL_len];exact hp
   generalize hxx:(A.hist r).getD i default=x at *
   obtain ⟨m,hm8,hm⟩:∃ m:Nat,m<8∧x.1 % 64 / 8=m:=⟨(x.1 % 64 / 8).toNat,by omega,by omega⟩
   have hq:(x.1 / 8).toNat=8*r+m:=by omega
   rw [hq] at hst
   have e1:x.1.tmod 64=x.1 % 64:=Int.tmod_eq_emod_of_nonneg (by omega)
   have e2:(x.1 % 64).tdiv 8=x.1 % 64 / 8:=Int.tdiv_eq_ediv_of_nonneg (by omega)
   have e3:IntKind.u64.wrap (x.1 % 64 / 8)=x.1 % 64 / 8:=by rw [IntKind.wrap_u64];omega
   have hw:∀ j,j<8→wA (appL A.per ((A.hist r).take (i+1))) r j=if j=m then .v (.int .u64 x.2) else wA (appL A.per ((A.hist r).take i)) r j:=fun j hj=>by rw [hst];exact wA_set (by rw [hal];omega) hm8 hj
   have w0:=hw 0 (by decide)
   have w1:=hw 1 (by decide)
   have w2:=hw 2 (by decide)
   have w3:=hw 3 (by decide)
   have w4:=hw 4 (by decide)
   have w5:=hw 5 (by decide)
   have w6:=hw 6 (by decide)
   have w7:=hw 7 (by decide)
   rcases lt8 hm8 with rfl | rfl | rfl | rfl | rfl | rfl | rfl | rfl
   all_goals
    simp only [Nat.reduceEqDiff,if_true,if_false,reduceIte,Nat.zero_ne_one] at w0 w1 w2 w3 w4 w5 w6 w7
    repeat' (first
     | (with_reducible first | apply zY | apply zT | apply zM | apply zN | apply zO | refine qK ?_ | (show False;omega))
     | ((with_reducible first | apply zP | apply zQ | apply zR | apply zL)<;>intro h<;>try (exfalso;first | omega | exact h rfl | (revert h;decide) | (cases h;done)))
     | ((first | (with_reducible first | apply zW | apply zV | apply zU | apply zS | apply zX | show VX _ _ _ _ _ _ _ | show vstep _ _ _ _ _ | show vskip _ _ _ | show withV _ _ | apply qN | apply qR | refine zB default ?_ (by first | omega | (simp only [LN,hxx,e1,e2,e3,hm,eWr,uw0,uw1,uw2,uw3,uw4,uw5,uw6,uw7];omega)) (by first | omega | (simp only [LN,hxx,e1,e2,e3,hm,eWr,uw0,uw1,uw2,uw3,uw4,uw5,uw6,uw7];omega)) | refine zC default ?_ (by first | omega | (simp only [LN,hxx,e1,e2,e3,hm,eWr,uw0,uw1,uw2,uw3,uw4,uw5,uw6,uw7];omega)) | refine qI ?_ (by first | decide | omega | assumption | (simp only [LN,hxx,e1,e2,e3,hm,eWr,uw0,uw1,uw2,uw3,uw4,uw5,uw6,uw7];omega))) | ((with_reducible show pickE _ _ _);refine qA _ ?_));try simp -dsimp -implicitDefEqProofs (maxSteps:=1000000) (disch:=first | omega | (simp only [LN,hxx,e1,e2,e3,hm,eWr,uw0,uw1,uw2,uw3,uw4,uw5,uw6,uw7];omega)) only [go_sem,hxx,e1,e2,e3,hm,eWr,uw0,uw1,uw2,uw3,uw4,uw5,uw6,uw7])
    )
    all_goals first | omega | (refine zZ (i+1) ?_ ?_ ?_;(omega);(show _<_;omega);(simp -dsimp -implicitDefEqProofs (maxSteps:=1000000) (disch:=first | omega | (simp only [LN,w0,w1,w2,w3,w4,w5,w6,w7];omega)) only [go_sem,w0,w1,w2,w3,w4,w5,w6,w7];try trivial))
  ·obtain rfl:i=k:=by omega
   repeat' (first
    | (with_reducible first | apply zY | apply zT | apply zM | apply zN | apply zO | refine qK ?_ | (show False;omega))
    | ((with_reducible first | apply zP | apply zQ | apply zR | apply zL)<;>intro h<;>try (exfalso;first | omega | exact h rfl | (revert h;decide) | (cases h;done)))
    | ((first | (with_reducible first | apply zW | apply zV | apply zU | apply zS | apply zX | show VX _ _ _ _ _ _ _ | show vstep _ _ _ _ _ | show vskip _ _ _ | show withV _ _ | apply qN | apply qR | refine zB default ?_ | refine zC default ?_ | refine qI ?_) | ((with_reducible show pickE _ _ _);refine qA _ ?_));try simp -dsimp -implicitDefEqProofs (maxSteps:=1000000) (disch:=first | omega | (simp only [LN];omega)) only [go_sem])
   )
   all_goals first | rfl | omega
end Go.Proofs.YtckhjklcfagkoaaGreatDoor
namespace Go.Proofs.YtckhjklcfagkoaaGreatDoor
set_option maxHeartbeats 4000000
set_option maxRecDepth 100000
open Go Go.Ab
attribute [local irreducible] callK callF loopQ vstep vskip pickE hideP
attribute [local go_sem] rdO rlO lns_len
theorem rPut (A:Dv) (M:MT) (h:WF A) (r:Nat) (hr:r<A.n) (o v:Int) (ho:o / 64=r∧o % 8=0∧0≤o∧o≤18446744073709551615):ACalls Tryz.prog 88 [.loc 0 0,.p (.v (.int .u64 o)),.p (.v (.int .u64 v))] [rdO A M 1,rlO A] (.p (.tup [])) [rdO (A.put r o v) M 1,rlO (A.put r o v)]:=by
 refine yA (E:=E) (fn:=Tryz.f88) 28 [] rfl rfl rfl rfl (by decide) rfl rfl ?_
 have h6:=h.n6
 have hl:=h.len r (by omega)
 obtain ⟨ho1,ho2,ho3,ho4⟩:=ho
 have e1:IntKind.u64.wrap (o.tdiv 64)=(r:Int):=by rw [Int.tdiv_eq_ediv_of_nonneg ho3,IntKind.wrap_u64];omega
 have e2:IntKind.u64.wrap (o / 64)=(r:Int):=by rw [IntKind.wrap_u64];omega
 have hg:=lns_get A hr
 have hs:=lns_set (A:=A) (B:=A.put r o v) rfl (r:=r) (e:=.agg [wA A.per r 0,wA A.per r 1,wA A.per r 2,wA A.per r 3,wA A.per r 4,wA A.per r 5,wA A.per r 6,wA A.per r 7,.view 2 ((A.hist r).map eWr++[.agg [.v (.int .u64 o),.v (.int .u64 v)]]),.v (.int .i64 (A.done r))]) (by
   unfold lnP
   rw [put_hist,if_pos rfl,List.map_append];rfl) (fun i hi hne=>by
   unfold lnP
   rw [put_hist,if_neg hne];rfl)
 have hlf:leftR (A.put r o v)=leftR A:=rfl
 repeat' (first
  | (with_reducible first | apply zY | apply zT | apply zM | apply zN | apply zO | refine qK ?_ | (show False;omega))
  | ((with_reducible first | apply zP | apply zQ | apply zR | apply zL)<;>intro h)
  | ((first | (with_reducible first | apply zW | apply zV | apply zU | apply zS | apply zX | show VX _ _ _ _ _ _ _ | show vstep _ _ _ _ _ | show vskip _ _ _ | show withV _ _ | apply qN | apply qR | refine zB default ?_ (by first | omega | (simp only [LN,e1,e2,hg,lnP];omega)) (by first | omega | (simp only [LN,e1,e2,hg,lnP];omega)) | refine zC default ?_ (by first | omega | (simp only [LN,e1,e2,hg,lnP];omega)) | refine qI ?_ (by first | decide | omega | assumption | (simp only [LN,e1,e2,hg,lnP];omega))) | ((with_reducible show pickE _ _ _);refine qA _ ?_));try simp -dsimp -implicitDefEqProofs (maxSteps:=1000000) (disch:=first | omega | (simp only [LN,e1,e2,hg,lnP];omega)) only [go_sem,e1,e2,hg,lnP])
 )
 all_goals first | (refine ⟨⟨rfl,rfl,rfl,rfl,rfl,rfl,rfl,rfl,rfl,rfl,rfl,rfl⟩,?_⟩;first | exact hs | exact .inl hs) | (simp [put_p,hlf,hs];done)
theorem per_ln (A:Dv) (h:WF A) (r k:Nat) (hr:r<A.n) (hk:k≤(A.hist r).length):∀ i,i<A.n→i≠r→lnP (A.persist r k) i=lnP A i:=by
 intro i hi hne
 have h6:=h.n6
 have hw:∀ j,j<8→wA (A.persist r k).per i j=wA A.per i j:=fun j hj=>by
  show wA (appL A.per ((A.hist r).take k)) i j=_
  unfold wA
  rw [appL_off _ (8*i+j) (fun x hx=>?_) A.per]
  have:=h.hist r (by omega) x (List.mem_of_mem_take hx)
  omega
 unfold lnP
 rw [per_hist,if_neg hne,per_done,if_neg hne,hw 0 (by decide),hw 1 (by decide),hw 2 (by decide),hw 3 (by decide),hw 4 (by decide),hw 5 (by decide),hw 6 (by decide),hw 7 (by decide)]
theorem rPer (A:Dv) (M:MT) (h:WF A) (r k:Nat) (hr:r<A.n) (hk:k≤(A.hist r).length):ACalls Tryz.prog 90 [.loc 0 0,.p (.v (.int .i64 r)),.p (.v (.int .i64 k))] [rdO A M 1,rlO A] (.p (.tup [])) [rdO (A.persist r k) M 1,rlO (A.persist r k)]:=by
 refine yA (E:=E) (fn:=Tryz.f90) 40 [] rfl rfl rfl rfl (by decide) rfl rfl ?_
 have h6:=h.n6
 have hl:=h.len r (by omega)
 have hg:=lns_get A hr
 have kw:=rWords A h r k hr hk
 have e1:IntKind.i64.wrap (A.done r+k)=A.done r+k:=by rw [IntKind.wrap_i64];omega
 have hs:=lns_set (A:=A) (B:=A.persist r k) rfl (r:=r) (e:=.agg [wA (appL A.per ((A.hist r).take k)) r 0,wA (appL A.per ((A.hist r).take k)) r 1,wA (appL A.per ((A.hist r).take k)) r 2,wA (appL A.per ((A.hist r).take k)) r 3,wA (appL A.per ((A.hist r).take k)) r 4,wA (appL A.per ((A.hist r).take k)) r 5,wA (appL A.per ((A.hist r).take k)) r 6,wA (appL A.per ((A.hist r).take k)) r 7,  .view 2 (((A.hist r).drop k).map eWr),.v (.int .i64 (A.done r+k))]) (by
   unfold lnP
   rw [per_hist,if_pos rfl,per_done,if_pos rfl];rfl) (per_ln A h r k hr hk)
 have hlf:leftR (A.persist r k)=leftR A:=rfl
 have hgs:∀ e:PV,((lnsR A).set r e)[r]? = some e:=fun e=>by simp [lns_len,hr]
 repeat' (first
  | (with_reducible first | apply zY | apply zT | apply zM | apply zN | apply zO | refine qK ?_ | (show False;omega))
  | ((with_reducible first | apply zP | apply zQ | apply zR | apply zL)<;>intro h)
  | ((first | (with_reducible first | apply zW | apply zV | apply zU | apply zS | apply zX | show VX _ _ _ _ _ _ _ | show vstep _ _ _ _ _ | show vskip _ _ _ | show withV _ _ | apply qN | apply qR | refine zB default ?_ (by first | omega | (simp only [LN,hg,e1,lnP,hgs,List.set_set,List.length_set];omega)) (by first | omega | (simp only [LN,hg,e1,lnP,hgs,List.set_set,List.length_set];omega)) | refine zC default ?_ (by first | omega | (simp only [LN,hg,e1,lnP,hgs,List.set_set,List.length_set];omega)) | refine qI ?_ (by first | decide | omega | assumption | (simp only [LN,hg,e1,lnP,hgs,List.set_set,List.length_set];omega))) | ((with_reducible apply zD);(exact kw)) | ((with_reducible apply zE);(exact kw);rfl) | ((with_reducible apply zF);(exact kw)) | ((with_reducible show pickE _ _ _);refine qA _ ?_));try simp -dsimp -implicitDefEqProofs (maxSteps:=1000000) (disch:=first | omega | (simp only [LN,hg,e1,lnP,hgs,List.set_set,List.length_set];omega)) only [go_sem,hg,e1,lnP,hgs,List.set_set,List.length_set])
 )
 all_goals first | (refine ⟨⟨rfl,rfl,rfl,rfl,rfl,rfl,rfl,rfl,rfl,rfl,rfl,rfl⟩,?_⟩;first | exact hs | exact .inl hs)
end Go.Proofs.YtckhjklcfagkoaaGreatDoor
