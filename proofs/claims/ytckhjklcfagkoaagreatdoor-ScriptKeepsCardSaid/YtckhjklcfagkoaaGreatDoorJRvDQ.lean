/- Contracts of functions of this program, and the plain facts that they rest on. No conditions. -/
import Derived.Test.YtckhjklcfagkoaaGreatDoorJDvU2Q
import Derived.Test.YtckhjklcfagkoaaGreatDoorJDvSQ
set_option linter.unusedSimpArgs false
set_option linter.unusedVariables false
namespace Go.Proofs.YtckhjklcfagkoaaGreatDoor
set_option maxHeartbeats 4000000
set_option maxRecDepth 100000
open Go Go.Ab
attribute [local irreducible] callK callF loopQ vstep vskip pickE hideP
attribute [local go_sem] rdO rlO lns_len
def CurOk (A:Dv):Prop:=A.cur=contS A (fun r=>(A.hist r).length)
theorem cur_get {A:Dv} (h:CurOk A) {r m:Nat} (hr:r<A.n) (hm:m<8):(appL A.per (A.hist r)).getD (8*r+m) 0=A.cur.getD (8*r+m) 0:=by
 have h2:CurOk A:=h
 unfold CurOk at h2
 rw [h2,contS_get _ _ _ (by omega),show (8*r+m) / 8=r by omega,List.take_length]
theorem rVal (A:Dv) (M:MT) (h:WF A) (hC:CurOk A) (r:Nat) (hr:r<A.n) (o:Int) (ho:o / 64=r∧o % 8=0∧0≤o∧o≤18446744073709551615):ACalls Tryz.prog 89 [.loc 0 0,.p (.v (.int .u64 o))] [rdO A M 1,rlO A] (.p (.v (.int .u64 (A.cur.getD (o / 8).toNat 0)))) [rdO A M 1,rlO A]:=by
 refine yA (E:=E) (fn:=Tryz.f89) 23 [.tmp 4] rfl rfl rfl rfl (by decide) rfl rfl ?_
 have h6:=h.n6
 have hl:=h.len r (by omega)
 obtain ⟨ho1,ho2,ho3,ho4⟩:=ho
 have e1:IntKind.u64.wrap (o.tdiv 64)=(r:Int):=by rw [Int.tdiv_eq_ediv_of_nonneg ho3,IntKind.wrap_u64];omega
 have e2:IntKind.u64.wrap (o / 64)=(r:Int):=by rw [IntKind.wrap_u64];omega
 have hg:=lns_get A hr
 have kw:=rWords A h r (A.hist r).length hr (Nat.le_refl _)
 obtain ⟨m,hm8,hm⟩:∃ m:Nat,m<8∧o % 64 / 8=m:=⟨(o % 64 / 8).toNat,by omega,by omega⟩
 have hq:(o / 8).toNat=8*r+m:=by omega
 have hcg:=cur_get hC hr hm8
 have e3:o.tmod 64=o % 64:=Int.tmod_eq_emod_of_nonneg (by omega)
 have e4:(o % 64).tdiv 8=o % 64 / 8:=Int.tdiv_eq_ediv_of_nonneg (by omega)
 have e5:IntKind.u64.wrap (o % 64 / 8)=o % 64 / 8:=by rw [IntKind.wrap_u64];omega
 rw [hq,← hcg]
 rcases lt8 hm8 with rfl | rfl | rfl | rfl | rfl | rfl | rfl | rfl
 all_goals
  repeat' (first
   | (with_reducible first | apply zY | apply zT | apply zM | apply zN | apply zO | refine qK ?_ | (show False;omega))
   | ((with_reducible first | apply zP | apply zQ | apply zR | apply zL)<;>intro h)
   | ((first | (with_reducible first | apply zW | apply zV | apply zU | apply zS | apply zX | show VX _ _ _ _ _ _ _ | show vstep _ _ _ _ _ | show vskip _ _ _ | show withV _ _ | apply qN | apply qR | refine zB default ?_ (by first | omega | (simp only [LN,e1,e2,hg,e3,e4,e5,hm,uw0,uw1,uw2,uw3,uw4,uw5,uw6,uw7,lnP,wA];omega)) (by first | omega | (simp only [LN,e1,e2,hg,e3,e4,e5,hm,uw0,uw1,uw2,uw3,uw4,uw5,uw6,uw7,lnP,wA];omega)) | refine zC default ?_ (by first | omega | (simp only [LN,e1,e2,hg,e3,e4,e5,hm,uw0,uw1,uw2,uw3,uw4,uw5,uw6,uw7,lnP,wA];omega)) | refine qI ?_ (by first | decide | omega | assumption | (simp only [LN,e1,e2,hg,e3,e4,e5,hm,uw0,uw1,uw2,uw3,uw4,uw5,uw6,uw7,lnP,wA];omega))) | ((with_reducible apply zD);(exact kw)) | ((with_reducible apply zE);(exact kw);rfl) | ((with_reducible apply zF);(exact kw)) | ((with_reducible show pickE _ _ _);refine qA _ ?_));try simp -dsimp -implicitDefEqProofs (maxSteps:=1000000) (disch:=first | omega | (simp only [LN,e1,e2,hg,e3,e4,e5,hm,uw0,uw1,uw2,uw3,uw4,uw5,uw6,uw7,lnP,wA];omega)) only [go_sem,e1,e2,hg,e3,e4,e5,hm,uw0,uw1,uw2,uw3,uw4,uw5,uw6,uw7,lnP,wA])
  )
  refine ⟨_,rfl,?_⟩
  repeat' (first
   | (with_reducible first | apply zY | apply zT | apply zM | apply zN | apply zO | refine qK ?_ | (show False;omega))
   | ((with_reducible first | apply zP | apply zQ | apply zR | apply zL)<;>intro h)
   | ((first | (with_reducible first | apply zW | apply zV | apply zU | apply zS | apply zX | show VX _ _ _ _ _ _ _ | show vstep _ _ _ _ _ | show vskip _ _ _ | show withV _ _ | apply qN | apply qR | refine zB default ?_ | refine zC default ?_ | refine qI ?_) | ((with_reducible show pickE _ _ _);refine qA _ ?_));try simp -dsimp -implicitDefEqProofs (maxSteps:=1000000) (disch:=first | omega | (simp only [LN];omega)) only [go_sem])
  )
  all_goals first | rfl
theorem rStore (A:Dv) (M:MT) (k:Nat) (hk:k<8) (h:WF A) (hL:LO A) (o v:Int) (ho:0≤o∧o≤18446744073709551615):ACalls Tryz.prog 44 [.loc 0 0,.p (.v (.int .i64 k)),.p (.v (.int .u64 o)),.p (.v (.int .u64 v))] [rdO A M 1,rlO A] (.p (.tup [])) [rdO (A.store k o v) M 1,rlO (A.store k o v)]:=by
 refine yA (E:=E) (fn:=Tryz.f44) 18 [] rfl rfl rfl rfl (by decide) rfl rfl ?_
 have h6:=h.n6
 have ki:=rIs A M h6 o ho
 have kc:=rCnt A M k hk (A.isW o) hL
 by_cases hc:A.cntB (A.isW o)=true
 ·obtain ⟨h1,h2,h3⟩:=isW_of (cntB_of hc) ho.1
  have kp:=rPut (A.cnt k (A.isW o)) M (h.cnt _ _) (o / 64).toNat (by rw [(cnt_p A k _).1];exact h1) o v ⟨h2,h3,ho⟩
  rw [hc] at kc
  rw [show A.store k o v=(A.cnt k (A.isW o)).put (o / 64).toNat o v from if_pos hc]
  repeat' (first
   | (with_reducible first | apply zY | apply zT | apply zM | apply zN | apply zO | refine qK ?_ | (show False;omega))
   | ((with_reducible first | apply zP | apply zQ | apply zR | apply zL)<;>intro h<;>try (exfalso;first | omega | exact h rfl | (revert h;decide) | (cases h;done)))
   | ((first | (with_reducible first | apply zW | apply zV | apply zU | apply zS | apply zX | show VX _ _ _ _ _ _ _ | show vstep _ _ _ _ _ | show vskip _ _ _ | show withV _ _ | apply qN | apply qR | refine zB default ?_ | refine zC default ?_ | refine qI ?_) | (with_reducible first | apply zG | apply zH | apply zI) | ((with_reducible apply zJ);(first | exact ki | exact kc | exact kp)) | ((with_reducible show pickE _ _ _);refine qA _ ?_));try simp -dsimp -implicitDefEqProofs (maxSteps:=1000000) (disch:=first | omega | (simp only [LN];omega)) only [go_sem])
  )
 ·simp only [Bool.not_eq_true] at hc
  rw [hc] at kc
  rw [show A.store k o v=A.cnt k (A.isW o) from by unfold Dv.store;rw [hc];rfl]
  repeat' (first
   | (with_reducible first | apply zY | apply zT | apply zM | apply zN | apply zO | refine qK ?_ | (show False;omega))
   | ((with_reducible first | apply zP | apply zQ | apply zR | apply zL)<;>intro h<;>try (exfalso;first | omega | exact h rfl | (revert h;decide) | (cases h;done)))
   | ((first | (with_reducible first | apply zW | apply zV | apply zU | apply zS | apply zX | show VX _ _ _ _ _ _ _ | show vstep _ _ _ _ _ | show vskip _ _ _ | show withV _ _ | apply qN | apply qR | refine zB default ?_ | refine zC default ?_ | refine qI ?_) | (with_reducible first | apply zG | apply zH | apply zI) | ((with_reducible apply zJ);(first | exact ki | exact kc)) | ((with_reducible show pickE _ _ _);refine qA _ ?_));try simp -dsimp -implicitDefEqProofs (maxSteps:=1000000) (disch:=first | omega | (simp only [LN];omega)) only [go_sem])
  )
theorem rCAS (A:Dv) (M:MT) (k:Nat) (hk:k<8) (h:WF A) (hL:LO A) (hC:CurOk A) (o w v:Int) (ho:0≤o∧o≤18446744073709551615):ACalls Tryz.prog 45 [.loc 0 0,.p (.v (.int .i64 k)),.p (.v (.int .u64 o)),.p (.v (.int .u64 w)),.p (.v (.int .u64 v))] [rdO A M 1,rlO A] (.p (.v (.bool (A.casB o w)))) [rdO (A.cas k o w v) M 1,rlO (A.cas k o w v)]:=by
 refine yA (E:=E) (fn:=Tryz.f45) 29 [.tmp 10] rfl rfl rfl rfl (by decide) rfl rfl ?_
 have h6:=h.n6
 have ki:=rIs A M h6 o ho
 have kc:=rCnt A M k hk (A.isW o) hL
 by_cases hc:A.cntB (A.isW o)=true
 ·obtain ⟨h1,h2,h3⟩:=isW_of (cntB_of hc) ho.1
  have hcp:=cnt_p A k (A.isW o)
  have hC2:CurOk (A.cnt k (A.isW o)):=by
   obtain ⟨a1,a2,a3,a4,a5,a6⟩:=hcp
   have:contS (A.cnt k (A.isW o)) (fun r=>((A.cnt k (A.isW o)).hist r).length)=contS A (fun r=>(A.hist r).length):=by unfold contS;rw [a1,a2,a4]
   unfold CurOk;rw [this,a3];exact hC
  have kv:=rVal (A.cnt k (A.isW o)) M (h.cnt _ _) hC2 (o / 64).toNat (by rw [hcp.1];exact h1) o ⟨h2,h3,ho⟩
  rw [hcp.2.2.1] at kv
  have kp:=rPut (A.cnt k (A.isW o)) M (h.cnt _ _) (o / 64).toNat (by rw [hcp.1];exact h1) o v ⟨h2,h3,ho⟩
  rw [hc] at kc
  by_cases hw:A.cur.getD (o / 8).toNat 0=w
  ·have hb:A.casB o w=true:=by unfold Dv.casB;rw [hc,decide_eq_true hw];rfl
   rw [show A.cas k o w v=(A.cnt k (A.isW o)).put (o / 64).toNat o v from if_pos hb,hb]
   repeat' (first
    | (with_reducible first | apply zY | apply zT | apply zM | apply zN | apply zO | refine qK ?_ | (show False;omega))
    | ((with_reducible first | apply zP | apply zQ | apply zR | apply zL)<;>intro h<;>try (exfalso;first | omega | exact h rfl | (revert h;decide) | (cases h;done)))
    | ((first | (with_reducible first | apply zW | apply zV | apply zU | apply zS | apply zX | show VX _ _ _ _ _ _ _ | show vstep _ _ _ _ _ | show vskip _ _ _ | show withV _ _ | apply qN | apply qR | refine zB default ?_ | refine zC default ?_ | refine qI ?_) | (with_reducible first | apply zG | apply zH | apply zI) | ((with_reducible apply zJ);(first | exact ki | exact kc | exact kv | exact kp)) | ((with_reducible show pickE _ _ _);refine qA _ ?_));try simp -dsimp -implicitDefEqProofs (maxSteps:=1000000) (disch:=first | omega | (simp only [LN];omega)) only [go_sem])
   )
   all_goals first | (exfalso;contradiction)
  ·have hb:A.casB o w=false:=by unfold Dv.casB;rw [hc,decide_eq_false hw];rfl
   rw [show A.cas k o w v=A.cnt k (A.isW o) from by unfold Dv.cas;rw [hb];rfl,hb]
   repeat' (first
    | (with_reducible first | apply zY | apply zT | apply zM | apply zN | apply zO | refine qK ?_ | (show False;omega))
    | ((with_reducible first | apply zP | apply zQ | apply zR | apply zL)<;>intro h<;>try (exfalso;first | omega | exact h rfl | (revert h;decide) | (cases h;done)))
    | ((first | (with_reducible first | apply zW | apply zV | apply zU | apply zS | apply zX | show VX _ _ _ _ _ _ _ | show vstep _ _ _ _ _ | show vskip _ _ _ | show withV _ _ | apply qN | apply qR | refine zB default ?_ | refine zC default ?_ | refine qI ?_) | (with_reducible first | apply zG | apply zH | apply zI) | ((with_reducible apply zJ);(first | exact ki | exact kc | exact kv)) | ((with_reducible show pickE _ _ _);refine qA _ ?_));try simp -dsimp -implicitDefEqProofs (maxSteps:=1000000) (disch:=first | omega | (simp only [LN];omega)) only [go_sem])
   )
   all_goals first | (exfalso;contradiction)
 ·simp only [Bool.not_eq_true] at hc
  rw [hc] at kc
  have hb:A.casB o w=false:=by unfold Dv.casB;rw [hc];rfl
  rw [show A.cas k o w v=A.cnt k (A.isW o) from by unfold Dv.cas;rw [hb];rfl,hb]
  repeat' (first
   | (with_reducible first | apply zY | apply zT | apply zM | apply zN | apply zO | refine qK ?_ | (show False;omega))
   | ((with_reducible first | apply zP | apply zQ | apply zR | apply zL)<;>intro h<;>try (exfalso;first | omega | exact h rfl | (revert h;decide) | (cases h;done)))
   | ((first | (with_reducible first | apply zW | apply zV | apply zU | apply zS | apply zX | show VX _ _ _ _ _ _ _ | show vstep _ _ _ _ _ | show vskip _ _ _ | show withV _ _ | apply qN | apply qR | refine zB default ?_ | refine zC default ?_ | refine qI ?_) | (with_reducible first | apply zG | apply zH | apply zI) | ((with_reducible apply zJ);(first | exact ki | exact kc)) | ((with_reducible show pickE _ _ _);refine qA _ ?_));try simp -dsimp -implicitDefEqProofs (maxSteps:=1000000) (disch:=first | omega | (simp only [LN];omega)) only [go_sem])
  )
theorem rArm (A:Dv) (M:MT) (n:Int):ACalls Tryz.prog 49 [.loc 0 0,.p (.v (.int .i64 n))] [rdO A M 1,rlO A] (.p (.tup [])) [rdO (A.arm n) M 1,rlO (A.arm n)]:=by
 refine yA (E:=E) (fn:=Tryz.f49) 14 [] rfl rfl rfl rfl (by decide) rfl rfl ?_
 have hr:A.off=false→leftR (A.arm n)=max n (-1):=fun ho=>by
  unfold Dv.arm leftR
  rw [ho]
  simp only [Bool.false_eq_true,if_false,decide_eq_true_eq]
  split<;>omega
 have hn:(A.arm n).n=A.n∧(A.arm n).err=A.err∧(A.arm n).off=A.off∧(A.arm n).ex=A.ex∧lnsR (A.arm n)=lnsR A:=by unfold Dv.arm;split<;>exact ⟨rfl,rfl,rfl,rfl,rfl⟩
 obtain ⟨a1,a2,a3,a4,a5⟩:=hn
 have hr1:A.off=true→leftR (A.arm n)=leftR A:=fun ho=>by unfold Dv.arm;rw [ho];rfl
 repeat' (first
  | (with_reducible first | apply zY | apply zT | apply zM | apply zN | apply zO | refine qK ?_ | (show False;omega))
  | ((with_reducible first | apply zP | apply zQ | apply zR | apply zL)<;>intro h)
  | ((first | (with_reducible first | apply zW | apply zV | apply zU | apply zS | apply zX | show VX _ _ _ _ _ _ _ | show vstep _ _ _ _ _ | show vskip _ _ _ | show withV _ _ | apply qN | apply qR | refine zB default ?_ (by first | omega | (simp only [LN,a1,a2,a3,a4,a5];omega)) (by first | omega | (simp only [LN,a1,a2,a3,a4,a5];omega)) | refine zC default ?_ (by first | omega | (simp only [LN,a1,a2,a3,a4,a5];omega)) | refine qI ?_ (by first | decide | omega | assumption | (simp only [LN,a1,a2,a3,a4,a5];omega))) | ((with_reducible show pickE _ _ _);refine qA _ ?_));try simp -dsimp -implicitDefEqProofs (maxSteps:=1000000) (disch:=first | omega | (simp only [LN,a1,a2,a3,a4,a5];omega)) only [go_sem,a1,a2,a3,a4,a5])
 )
 all_goals first | (simp [*];done) | (rw [hr1 (by assumption)];done) | (rw [hr (by assumption)];done)
theorem rWB1 (A:Dv) (M:MT) (h:WF A) (r k:Nat) (ho:A.off=false) (hr:r<A.n) (hk:k≤(A.hist r).length):ACalls Tryz.prog 48 [.loc 0 0,.p (.v (.int .i64 r)),.p (.v (.int .i64 k))] [rdO A M 1,rlO A] (.p (.v (.bool true))) [rdO (A.persist r k) M 1,rlO (A.persist r k)]:=by
 refine yA (E:=E) (fn:=Tryz.f48) 45 [.tmp 6] rfl rfl rfl rfl (by decide) rfl rfl ?_
 have h6:=h.n6
 have hl:=h.len r (by omega)
 have hg:=lns_get A hr
 have kp:=rPer A M h r k hr hk
 repeat' (first
  | (with_reducible first | apply zY | apply zT | apply zM | apply zN | apply zO | refine qK ?_ | (show False;omega))
  | ((with_reducible first | apply zP | apply zQ | apply zR | apply zL)<;>intro h<;>try (exfalso;first | omega | exact h rfl | (revert h;decide) | (cases h;done)))
  | ((first | (with_reducible first | apply zW | apply zV | apply zU | apply zS | apply zX | show VX _ _ _ _ _ _ _ | show vstep _ _ _ _ _ | show vskip _ _ _ | show withV _ _ | apply qN | apply qR | refine zB default ?_ (by first | omega | (simp only [LN,hg,lnP];omega)) (by first | omega | (simp only [LN,hg,lnP];omega)) | refine zC default ?_ (by first | omega | (simp only [LN,hg,lnP];omega)) | refine qI ?_ (by first | decide | omega | assumption | (simp only [LN,hg,lnP];omega))) | (with_reducible first | apply zG | apply zH | apply zI) | ((with_reducible apply zJ);(first | exact kp)) | ((with_reducible show pickE _ _ _);refine qA _ ?_));try simp -dsimp -implicitDefEqProofs (maxSteps:=1000000) (disch:=first | omega | (simp only [LN,hg,lnP];omega)) only [go_sem,hg,lnP])
 )
 all_goals first | omega | (exfalso;simp_all;done)
theorem rWB0 (A:Dv) (M:MT) (h:WF A) (r k:Int) (hb:A.wbB r k=false):ACalls Tryz.prog 48 [.loc 0 0,.p (.v (.int .i64 r)),.p (.v (.int .i64 k))] [rdO A M 1,rlO A] (.p (.v (.bool false))) [rdO A M 1,rlO A]:=by
 refine yA (E:=E) (fn:=Tryz.f48) 45 [.tmp 6] rfl rfl rfl rfl (by decide) rfl rfl ?_
 have h6:=h.n6
 simp only [Dv.wbB,Bool.and_eq_false_iff,Bool.not_eq_false',decide_eq_false_iff_not] at hb
 rcases hb with hb | hb
 ·repeat' (first
   | (with_reducible first | apply zY | apply zT | apply zM | apply zN | apply zO | refine qK ?_ | (show False;omega))
   | ((with_reducible first | apply zP | apply zQ | apply zR | apply zL)<;>intro h<;>try (exfalso;first | omega | exact h rfl | (revert h;decide) | (cases h;done)))
   | ((first | (with_reducible first | apply zW | apply zV | apply zU | apply zS | apply zX | show VX _ _ _ _ _ _ _ | show vstep _ _ _ _ _ | show vskip _ _ _ | show withV _ _ | apply qN | apply qR | refine zB default ?_ | refine zC default ?_ | refine qI ?_) | ((with_reducible show pickE _ _ _);refine qA _ ?_));try simp -dsimp -implicitDefEqProofs (maxSteps:=1000000) (disch:=first | omega | (simp only [LN];omega)) only [go_sem])
  )
  all_goals first | omega | (exfalso;simp_all;done)
 ·by_cases hr:0≤r∧r<A.n
  ·have hg:=lns_get A (r:=r.toNat) (by omega)
   repeat' (first
    | (with_reducible first | apply zY | apply zT | apply zM | apply zN | apply zO | refine qK ?_ | (show False;omega))
    | ((with_reducible first | apply zP | apply zQ | apply zR | apply zL)<;>intro h<;>try (exfalso;first | omega | exact h rfl | (revert h;decide) | (cases h;done)))
    | ((first | (with_reducible first | apply zW | apply zV | apply zU | apply zS | apply zX | show VX _ _ _ _ _ _ _ | show vstep _ _ _ _ _ | show vskip _ _ _ | show withV _ _ | apply qN | apply qR | refine zB default ?_ (by first | omega | (simp only [LN,hg,lnP];omega)) (by first | omega | (simp only [LN,hg,lnP];omega)) | refine zC default ?_ (by first | omega | (simp only [LN,hg,lnP];omega)) | refine qI ?_ (by first | decide | omega | assumption | (simp only [LN,hg,lnP];omega))) | ((with_reducible show pickE _ _ _);refine qA _ ?_));try simp -dsimp -implicitDefEqProofs (maxSteps:=1000000) (disch:=first | omega | (simp only [LN,hg,lnP];omega)) only [go_sem,hg,lnP])
   )
   all_goals first | (exfalso;omega)
  ·repeat' (first
    | (with_reducible first | apply zY | apply zT | apply zM | apply zN | apply zO | refine qK ?_ | (show False;omega))
    | ((with_reducible first | apply zP | apply zQ | apply zR | apply zL)<;>intro h<;>try (exfalso;first | omega | exact h rfl | (revert h;decide) | (cases h;done)))
    | ((first | (with_reducible first | apply zW | apply zV | apply zU | apply zS | apply zX | show VX _ _ _ _ _ _ _ | show vstep _ _ _ _ _ | show vskip _ _ _ | show withV _ _ | apply qN | apply qR | refine zB default ?_ | refine zC default ?_ | refine qI ?_) | ((with_reducible show pickE _ _ _);refine qA _ ?_));try simp -dsimp -implicitDefEqProofs (maxSteps:=1000000) (disch:=first | omega | (simp only [LN];omega)) only [go_sem])
   )
   all_goals first | (exfalso;omega)
end Go.Proofs.YtckhjklcfagkoaaGreatDoor
namespace Go.Proofs.YtckhjklcfagkoaaGreatDoor
set_option maxHeartbeats 4000000
set_option maxRecDepth 100000
open Go Go.Ab
attribute [local irreducible] callK callF loopQ vstep vskip pickE hideP
attribute [local go_sem] rdO rlO lns_len eNt
structure NtOk (A:Dv) (M:MT) (N:Nat):Prop where
 a:∀ k,k<8→∀ p,p∈M k→A.note k (.int .i64 p.1)=some p.2
 b:∀ k,k<8→∀ x v,A.note k x=some v→∃ p,p∈M k∧x=.int .i64 p.1
 c:∀ k,k<8→(M k).Pairwise fun p q=>p.1≠q.1
 l:∀ k,k<8→(M k).length≤N
def nuM (A:Dv) (M:MT) (k r:Nat):List (Nat × Int):=((M k).filter fun p=>decide (p.1≠r))++[(r,A.done r+(A.hist r).length)]
def flM (A:Dv) (M:MT) (k:Nat) (o:Int):MT:=if A.cntB (A.isB o)=true then upd M k (nuM (A.cnt k (A.isB o)) M k (o / 64).toNat) else M
theorem filt_s {l:List (Nat × Int)} {r i:Nat} (h:i<l.length):(l.take (i+1)).filter (fun p=>decide (p.1≠r))=(l.take i).filter (fun p=>decide (p.1≠r))++(if (l.getD i default).1≠r then [l.getD i default] else []):=by
 rw [yE default h,List.filter_append]
 congr 1
 simp only [List.filter_cons,List.filter_nil,decide_eq_true_eq]
theorem rFlush (A:Dv) (M:MT) (N:Nat) (hM:NtOk A M N) (hN:N≤1000000) (k:Nat) (hk:k<8) (h:WF A) (hL:LO A) (o:Int) (ho:0≤o∧o≤18446744073709551615):ACalls Tryz.prog 46 [.loc 0 0,.p (.v (.int .i64 k)),.p (.v (.int .u64 o))] [rdO A M 1,rlO A] (.p (.tup [])) [rdO (A.flush k o) (flM A M k o) 1,rlO (A.flush k o)]:=by
 refine yA (E:=E) (fn:=Tryz.f46) 75 [] rfl rfl rfl rfl (by decide) rfl rfl ?_
 have h6:=h.n6
 have kc:=rCnt A M k hk (A.isB o) hL
 have e1:IntKind.u64.wrap (o.tdiv 64)=o / 64:=by rw [Int.tdiv_eq_ediv_of_nonneg ho.1,IntKind.wrap_u64];omega
 have e2:IntKind.u64.wrap (A.n:Int)=A.n:=by rw [IntKind.wrap_u64];omega
 have e3:IntKind.u64.wrap (o / 64)=o / 64:=by rw [IntKind.wrap_u64];omega
 have e4:decide (o / 64<(A.n:Int))=A.isB o:=by unfold Dv.isB;rw [Bool.eq_iff_iff];simp;omega
 by_cases hc:A.cntB (A.isB o)=true
 ·have hb:A.isB o=true:=cntB_of hc
  simp [Dv.isB] at hb
  obtain ⟨r,hr⟩:∃ r,r=(o / 64).toNat:=⟨_,rfl⟩
  have hro:o / 64=(r:Int):=by omega
  have hcp:=cnt_p A k (A.isB o)
  have hrn:r<(A.cnt k (A.isB o)).n:=by rw [hcp.1];omega
  have hlen:=h.len r (by omega)
  have hch:=hcp.2.2.2.1
  have hcd:=hcp.2.2.2.2.1
  have hg:=lns_get (A.cnt k (A.isB o)) hrn
  have w1:IntKind.i64.wrap (r:Int)=r:=by rw [IntKind.wrap_i64];omega
  have w2:IntKind.i64.wrap ((A.cnt k (A.isB o)).done r+((A.cnt k (A.isB o)).hist r).length)=(A.cnt k (A.isB o)).done r+((A.cnt k (A.isB o)).hist r).length:=by rw [hch,hcd,IntKind.wrap_i64];omega
  rw [hc] at kc
  rw [show A.flush k o=(A.cnt k (A.isB o)).noted k r from by rw [hr];exact if_pos hc]
  rw [show flM A M k o=upd M k (nuM (A.cnt k (A.isB o)) M k r) from by rw [hr];exact if_pos hc]
  have hle:=hM.l k hk
  rw [hro] at e1 e3 e4
  obtain ⟨L,hL2⟩:∃ L,L=M k:=⟨_,rfl⟩
  rw [← hL2] at hle
  have hnu:nuM (A.cnt k (A.isB o)) M k r=(L.filter fun p=>decide (p.1≠r))++[(r,(A.cnt k (A.isB o)).done r+((A.cnt k (A.isB o)).hist r).length)]:=by rw [hL2];rfl
  rw [hnu]
  obtain ⟨a1,a2,a3,a4,a5,a6⟩:((A.cnt k (A.isB o)).noted k r).n=(A.cnt k (A.isB o)).n∧((A.cnt k (A.isB o)).noted k r).err=(A.cnt k (A.isB o)).err∧((A.cnt k (A.isB o)).noted k r).off=(A.cnt k (A.isB o)).off∧((A.cnt k (A.isB o)).noted k r).ex=(A.cnt k (A.isB o)).ex∧lnsR ((A.cnt k (A.isB o)).noted k r)=lnsR (A.cnt k (A.isB o))∧leftR ((A.cnt k (A.isB o)).noted k r)=leftR (A.cnt k (A.isB o)):=⟨rfl,rfl,rfl,rfl,rfl,rfl⟩
  generalize (A.cnt k (A.isB o)).noted k r=C at *
  generalize hB:A.cnt k (A.isB o)=B at *
  clear hnu
  rcases lt8 hk with rfl | rfl | rfl | rfl | rfl | rfl | rfl | rfl
  all_goals
   repeat' ((fail_if_success (with_reducible show awp _ _ (Code.region 3 _ _) _ _));first
    | (with_reducible first | apply zY | apply zT | apply zM | apply zN | apply zO | refine qK ?_ | (show False;omega))
    | ((with_reducible first | apply zP | apply zQ | apply zR | apply zL)<;>intro h<;>try (exfalso;first | omega | exact h rfl | (revert h;decide) | (cases h;done)))
    | ((first | (with_reducible first | apply zW | apply zV | apply zU | apply zS | apply zX | show VX _ _ _ _ _ _ _ | show vstep _ _ _ _ _ | show vskip _ _ _ | show withV _ _ | apply qN | apply qR | refine zB default ?_ (by first | omega | (simp only [LN,e1,e2,e3,e4,hro,w1];omega)) (by first | omega | (simp only [LN,e1,e2,e3,e4,hro,w1];omega)) | refine zC default ?_ (by first | omega | (simp only [LN,e1,e2,e3,e4,hro,w1];omega)) | refine qI ?_ (by first | decide | omega | assumption | (simp only [LN,e1,e2,e3,e4,hro,w1];omega))) | (with_reducible first | apply zG | apply zH | apply zI) | ((with_reducible apply zJ);(first | exact kc)) | ((with_reducible show pickE _ _ _);refine qA _ ?_));try simp -dsimp -implicitDefEqProofs (maxSteps:=1000000) (disch:=first | omega | (simp only [LN,e1,e2,e3,e4,hro,w1];omega)) only [go_sem,e1,e2,e3,e4,hro,w1])
   )
   rw [← hL2]
   repeat' (first
    | (with_reducible first | apply zY | apply zT | apply zM | apply zN | apply zO | refine qK ?_ | (show False;omega))
    | ((with_reducible first | apply zP | apply zQ | apply zR | apply zL)<;>intro h<;>try (exfalso;first | omega | exact h rfl | (revert h;decide) | (cases h;done)))
    | ((first | (with_reducible first | apply zW | apply zV | apply zU | apply zS | apply zX | show VX _ _ _ _ _ _ _ | show vstep _ _ _ _ _ | show vskip _ _ _ | show withV _ _ | apply qN | apply qR | refine zB default ?_ (by first | omega | (simp only [LN,e1,e2,e3,e4,hro,w1];omega)) (by first | omega | (simp only [LN,e1,e2,e3,e4,hro,w1];omega)) | refine zC default ?_ (by first | omega | (simp only [LN,e1,e2,e3,e4,hro,w1];omega)) | refine qI ?_ (by first | decide | omega | assumption | (simp only [LN,e1,e2,e3,e4,hro,w1];omega))) | ((with_reducible show pickE _ _ _);refine qA _ ?_));try simp -dsimp -implicitDefEqProofs (maxSteps:=1000000) (disch:=first | omega | (simp only [LN,e1,e2,e3,e4,hro,w1];omega)) only [go_sem,e1,e2,e3,e4,hro,w1])
   )
   refine r_loopA (α:=Nat) [0,1,6,32,33] (fun i b=>[(34,aI i),(7,.sl b 2 0 ((L.take i).filter fun p=>decide (p.1≠r)).length)]) (fun i b=>[]) (fun i=>[.arr 2 (((L.take i).filter fun p=>decide (p.1≠r)).map eNt)]) (fun i=>i≤L.length) (fun i=>L.length - i) (0) ?_ ?_ ?_ ?_ ?_
   rotate_left 3
   ·intro x;(simp -dsimp -implicitDefEqProofs (maxSteps:=1000000) (disch:=first | omega | (simp only [LN];omega)) only [go_sem])<;>exact rfl
   rotate_left 2
   ·refine wk_auto ?_;(simp -dsimp -implicitDefEqProofs (maxSteps:=1000000) (disch:=first | omega | (simp only [LN,List.filter_nil,List.map_nil,List.length_nil,true_or,or_true];omega)) only [go_sem,List.filter_nil,List.map_nil,List.length_nil,true_or,or_true])<;>(try omega)
   rotate_left 1
   ·exact Nat.zero_le _
   ·intro i hi
    have w3:IntKind.i64.wrap ((i:Int)+1)=((i+1:Nat):Int):=by rw [IntKind.wrap_i64];push_cast;omega
    have hf1:((L.take i).filter fun p=>decide (p.1≠r)).length≤i:=Nat.le_trans (List.length_filter_le _ _) (by rw [List.length_take];omega)
    have hf2:(L.filter fun p=>decide (p.1≠r)).length≤L.length:=List.length_filter_le _ _
    repeat' (first
     | (with_reducible first | apply zY | apply zT | apply zM | apply zN | apply zO | refine qK ?_ | (show False;omega))
     | ((with_reducible first | apply zP | apply zQ | apply zR | apply zL)<;>intro h<;>try (exfalso;first | omega | exact h rfl | (revert h;decide) | (cases h;done)))
     | ((first | (with_reducible first | apply zW | apply zV | apply zU | apply zS | apply zX | show VX _ _ _ _ _ _ _ | show vstep _ _ _ _ _ | show vskip _ _ _ | show withV _ _ | apply qN | apply qR | refine zB default ?_ (by first | omega | (simp only [LN,w3,w1,w2,hg,lnP];omega)) (by first | omega | (simp only [LN,w3,w1,w2,hg,lnP];omega)) | refine zC default ?_ (by first | omega | (simp only [LN,w3,w1,w2,hg,lnP];omega)) | refine qI ?_ (by first | decide | omega | assumption | (simp only [LN,w3,w1,w2,hg,lnP];omega))) | ((with_reducible show pickE _ _ _);refine qA _ ?_));try simp -dsimp -implicitDefEqProofs (maxSteps:=1000000) (disch:=first | omega | (simp only [LN,w3,w1,w2,hg,lnP];omega)) only [go_sem,w3,w1,w2,hg,lnP])
    )
    all_goals try (have hil:i<L.length:=by omega)
    all_goals try (have hfs:=filt_s (r:=r) hil)
    ·have hne:(L.getD i default).1≠r:=by omega
     rw [if_pos hne] at hfs
     (refine zZ (i+1) ?_ ?_ ?_;(omega);(show _<_;omega);(simp -dsimp -implicitDefEqProofs (maxSteps:=1000000) (disch:=first | omega | (simp only [LN,hfs,List.map_append,List.map_cons,List.map_nil,List.length_append,List.length_cons,List.length_nil];omega)) only [go_sem,hfs,List.map_append,List.map_cons,List.map_nil,List.length_append,List.length_cons,List.length_nil];try trivial))
    ·have hne:¬ (L.getD i default).1≠r:=by omega
     rw [if_neg hne,List.append_nil] at hfs
     (refine zZ (i+1) ?_ ?_ ?_;(omega);(show _<_;omega);(simp -dsimp -implicitDefEqProofs (maxSteps:=1000000) (disch:=first | omega | (simp only [LN,hfs];omega)) only [go_sem,hfs];try trivial))
    ·simp [upd,a1,a2,a3,a4,a5,a6,eNt]
 ·simp only [Bool.not_eq_true] at hc
  rw [hc] at kc
  rw [show A.flush k o=A.cnt k (A.isB o) from by unfold Dv.flush;rw [hc];rfl,show flM A M k o=M from by unfold flM;rw [hc];rfl]
  repeat' (first
   | (with_reducible first | apply zY | apply zT | apply zM | apply zN | apply zO | refine qK ?_ | (show False;omega))
   | ((with_reducible first | apply zP | apply zQ | apply zR | apply zL)<;>intro h<;>try (exfalso;first | omega | exact h rfl | (revert h;decide) | (cases h;done)))
   | ((first | (with_reducible first | apply zW | apply zV | apply zU | apply zS | apply zX | show VX _ _ _ _ _ _ _ | show vstep _ _ _ _ _ | show vskip _ _ _ | show withV _ _ | apply qN | apply qR | refine zB default ?_ (by first | omega | (simp only [LN,e1,e2,e3,e4];omega)) (by first | omega | (simp only [LN,e1,e2,e3,e4];omega)) | refine zC default ?_ (by first | omega | (simp only [LN,e1,e2,e3,e4];omega)) | refine qI ?_ (by first | decide | omega | assumption | (simp only [LN,e1,e2,e3,e4];omega))) | (with_reducible first | apply zG | apply zH | apply zI) | ((with_reducible apply zJ);(first | exact kc)) | ((with_reducible show pickE _ _ _);refine qA _ ?_));try simp -dsimp -implicitDefEqProofs (maxSteps:=1000000) (disch:=first | omega | (simp only [LN,e1,e2,e3,e4];omega)) only [go_sem,e1,e2,e3,e4])
  )
end Go.Proofs.YtckhjklcfagkoaaGreatDoor
