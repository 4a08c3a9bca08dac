/- Contracts of functions of this program, and the plain facts that they rest on. No conditions. -/
import Derived.Test.YtckhjklcfagkoaaGreatDoorJDvR0Q
import Derived.Test.YtckhjklcfagkoaaGreatDoorJDvF0Q
set_option linter.unusedSimpArgs false
set_option linter.unusedVariables false
namespace Go.Proofs.YtckhjklcfagkoaaGreatDoor
open Go Go.Ab
attribute [local irreducible] callK callF loopQ vstep vskip pickE hideP
set_option maxRecDepth 100000
structure Inv (A:Dv) (J:JT) (N:Nat):Prop where
 wf:WF A
 no:∀ k,k<8→NoteOk A k
 jo:JOk A J
 bd:∀ r,r<6→A.done r+(A.hist r).length≤N
theorem Inv.jl {A:Dv} {J:JT} {N:Nat} (h:Inv A J N) (hN:N≤1000000000) (r:Nat) (hr:r<6):(jk A J r).length≤1000000000:=by
 have h1:=h.jo r hr
 have h2:=h.bd r hr
 omega
theorem Inv.fresh (n:Nat) (ws:List Int) (h0:0<n) (h6:n≤6) (hw:ws.length=8*n):Inv (Dv.fresh n ws) J0 0 :=
 ⟨WF.fresh n ws h0 h6 hw,fun k _ x v hx=>by simp [Dv.fresh] at hx,fun r _=>by rw [jk_fresh];simp [Dv.fresh],fun r _=>by simp [Dv.fresh]⟩
theorem Inv.cnt {A:Dv} {J:JT} {N:Nat} (h:Inv A J N) (k:Nat) (v:Bool):Inv (A.cnt k v) J N:=by
 obtain ⟨e1,e2,e3,e4,e5,e6⟩:=cnt_p A k v
 refine ⟨h.wf.cnt k v,fun q hq=>(h.no q hq).cnt k v,fun r hr=>?_,fun r hr=>?_⟩
 ·rw [jk_cnt,e5];exact h.jo r hr
 ·rw [e4,e5];exact h.bd r hr
theorem Inv.put {A:Dv} {J:JT} {N:Nat} (h:Inv A J N) (hN:N<1000000000) {r:Nat} (hr:r<A.n) {o v:Int} (ho:o / 64=r∧o % 8=0∧0≤o) (hv:0≤v∧v≤18446744073709551615) (g:Bool):Inv (A.put r o v) (jput A J r g) (N+1):=by
 have hw:=h.wf
 have h6:=hw.n6
 have hb:∀ i,i<6→A.done i+((A.put r o v).hist i).length≤(N:Int)+1:=by
  intro i hi
  have:=h.bd i hi
  rw [put_hist]
  split
  ·rename_i e;rw [e] at this ⊢;rw [List.length_append];simp only [List.length_cons,List.length_nil];omega
  ·omega
 refine ⟨⟨hw.n0,hw.n6,hw.per,?_,?_,?_,?_,trivial⟩,?_,?_,?_⟩
 ·show (A.cur.set (o / 8).toNat v).length=8*A.n;rw [List.length_set];exact hw.cur
 ·intro i hi x hx
  rw [put_hist] at hx
  split at hx
  ·rename_i e
   rcases List.mem_append.1 hx with h1 | h1
   ·have:=hw.hist r (by omega) x h1;rw [e];exact this
   ·simp only [List.mem_singleton] at h1
    subst h1
    exact ⟨⟨by simp only;omega,ho.2.1,ho.2.2⟩,hv⟩
  ·exact hw.hist i hi x hx
 ·intro i h1 h2
  rw [put_hist,if_neg (by have:A.n≤i:=h1;omega)]
  exact hw.top i h1 h2
 ·intro i hi
  have h1:=hb i hi
  have h2:=(hw.len i hi).1
  exact ⟨h2,by show A.done i+_≤_;omega⟩
 ·intro k hk x w hx
  obtain ⟨i,h1,h2,h3,h4⟩:=h.no k hk x w hx
  refine ⟨i,h1,h2,h3,Int.le_trans h4 ?_⟩
  show A.done i+((A.hist i).length:Int)≤A.done i+(((A.put r o v).hist i).length:Int)
  rw [put_hist]
  split
  ·rename_i e;rw [e,List.length_append];simp only [List.length_cons,List.length_nil];omega
  ·exact Int.le_refl _
 ·intro i hi
  rw [jk_put]
  have h1:=h.jo i hi
  have h2:=(hw.len i hi).1
  show _≤A.done i
  split
  ·rename_i e;rw [e] at h1 h2 ⊢
   cases g
   ·simpa using h2
   ·exact h1
  ·exact h1
 ·intro i hi
  have:=hb i hi
  show A.done i+_≤_
  push_cast;exact this
theorem Inv.le {A:Dv} {J:JT} {N M:Nat} (h:Inv A J N) (hl:N≤M):Inv A J M:=⟨h.wf,h.no,h.jo,fun r hr=>by have:=h.bd r hr;omega⟩
theorem Inv.store {A:Dv} {J:JT} {N:Nat} (h:Inv A J N) (hN:N<1000000000) (k:Nat) {o v:Int} (ho:0≤o) (hv:0≤v∧v≤18446744073709551615) (g:Bool):Inv (A.store k o v) (jsto A J k o g) (N+1):=by
 unfold Dv.store jsto
 split
 ·rename_i hc
  obtain ⟨h1,h2,h3⟩:=isW_of (cntB_of hc) ho
  exact (h.cnt k _).put hN (by rw [(cnt_p A k _).1];exact h1) ⟨h2,h3,ho⟩ hv g
 ·exact (h.cnt k _).le (by omega)
theorem Inv.noted {A:Dv} {J:JT} {N:Nat} (h:Inv A J N) (k:Nat) {r:Nat} (hr:r<A.n):Inv (A.noted k r) J N:=by
 have hw:=h.wf
 refine ⟨⟨hw.n0,hw.n6,hw.per,hw.cur,hw.hist,hw.top,hw.len,trivial⟩,?_,h.jo,h.bd⟩
 intro q hq x v hx
 have hx:upd A.note k (updF (A.note k) (.int .i64 r) (some (A.done r+(A.hist r).length))) q x=some v:=hx
 unfold upd at hx
 split at hx
 ·rename_i e
  unfold updF at hx
  split at hx
  ·rename_i e2
   simp only [Option.some.injEq] at hx
   subst hx
   have:=(hw.len r (by have:=hw.n6;omega)).1
   exact ⟨r,hr,e2,by omega,Int.le_refl _⟩
  ·rw [← e] at hx
   exact h.no q hq x v hx
 ·exact h.no q hq x v hx
theorem Inv.flush {A:Dv} {J:JT} {N:Nat} (h:Inv A J N) (k:Nat) {o:Int} (ho:0≤o):Inv (A.flush k o) J N:=by
 unfold Dv.flush
 split
 ·rename_i hc
  have hb:=cntB_of hc
  simp [Dv.isB] at hb
  refine (h.cnt k _).noted k ?_
  rw [(cnt_p A k _).1];omega
 ·exact h.cnt k _
open Classical in
theorem fencS_hd (B:Dv) (k:Nat) (S:Nat→Prop) (r:Nat):(fencS B k S).hist r=(if S r then (B.hist r).drop (kF B k r) else B.hist r)∧(fencS B k S).done r=if S r then B.done r+kF B k r else B.done r:=⟨rfl,rfl⟩
theorem Inv.fence {A:Dv} {J J2:JT} {N:Nat} (h:Inv A J N) (k:Nat) (hk:k<8) (hj:JOk (A.fence k) J2):Inv (A.fence k) J2 N:=by
 unfold Dv.fence at hj ⊢
 split at hj
 ·rename_i hc
  rw [if_pos hc]
  have hB:=h.cnt k true
  generalize A.cnt k true=B at *
  have hn:=hB.no k hk
  have hw:=wf_fencS hB.wf hn (fun _=>True)
  have hsum:∀ r,r<6→(fencS B k fun _=>True).done r+((fencS B k fun _=>True).hist r).length=B.done r+(B.hist r).length:=by
   intro r hr
   have h1:=kF_le (r:=r) hn (hB.wf.len r hr).1
   rw [(fencS_hd _ _ _ _).1,(fencS_hd _ _ _ _).2,if_pos trivial,if_pos trivial,List.length_drop];omega
  refine ⟨⟨hw.n0,hw.n6,hw.per,hw.cur,hw.hist,hw.top,hw.len,trivial⟩,?_,hj,fun r hr=>?_⟩
  ·intro q hq x v hx
   have hx:upd B.note k (fun _=>none) q x=some v:=hx
   unfold upd at hx
   split at hx
   ·cases hx
   ·obtain ⟨i,h1,h2,h3,h4⟩:=hB.no q hq x v hx
    refine ⟨i,h1,h2,h3,Int.le_trans h4 ?_⟩
    exact Int.le_of_eq (hsum i (by have:=hB.wf.n6;omega)).symm
  ·exact Int.le_trans (Int.le_of_eq (hsum r hr)) (hB.bd r hr)
 ·rename_i hc
  rw [if_neg hc]
  have hB:=h.cnt k true
  exact ⟨hB.wf,hB.no,hj,hB.bd⟩
end Go.Proofs.YtckhjklcfagkoaaGreatDoor
namespace Go.Proofs.YtckhjklcfagkoaaGreatDoor
set_option maxHeartbeats 4000000
set_option maxRecDepth 100000
open Go Go.Ab
attribute [local irreducible] callK callF loopQ vstep vskip pickE hideP
attribute [local go_sem] deO peO cuO liO thO hiO noO
theorem tWrite (A:Dv) (J:JT) (k:Nat) (hk:k<8) (h:WF A) (r:Nat) (hr:r<A.n) (hj:(jk A J r).length≤1000000000) (o v:Int) (ho:o / 64=r∧o % 8=0) (hv:0≤v∧v≤18446744073709551615):ACallsX Tryz.prog 86 [.loc (4+k) 0,.p (.v (.int .u64 o)),.p (.v (.int .u64 v))] (dvL A J) (fun g:Bool=>.p (.tup [])) (fun g:Bool=>(dv2 (A.put r o v) (jput A J r g))):=by
 refine yC (E:=E) (fn:=Tryz.f86) 40 [] rfl rfl rfl rfl (by decide) rfl (fun _=>rfl) ?_
 have h6:=h.n6
 have hc:=h.cur
 have hl:=h.len r (by omega)
 have e2:IntKind.u64.wrap (o.tdiv 8)=o / 8:=by rw [Int.tdiv_eq_ediv_of_nonneg (by omega),IntKind.wrap_u64];omega
 have e1:IntKind.u64.wrap (o.tdiv 64)=o / 64:=by rw [Int.tdiv_eq_ediv_of_nonneg (by omega),IntKind.wrap_u64];omega
 obtain ⟨ho1,ho2⟩:=ho
 have hd:=drop_row (jk A J r) (A.hist r)
 have hs:r=0∧o / 64=0∨r=1∧o / 64=1∨r=2∧o / 64=2∨r=3∧o / 64=3∨r=4∧o / 64=4∨r=5∧o / 64=5:=by omega
 rcases hs with ⟨rfl,e3⟩ | ⟨rfl,e3⟩ | ⟨rfl,e3⟩ | ⟨rfl,e3⟩ | ⟨rfl,e3⟩ | ⟨rfl,e3⟩
 all_goals
  repeat' (first
   | (with_reducible first | apply zY | apply zT | apply zM | apply zN | apply zO | refine qK ?_ | (show False;omega))
   | ((with_reducible first | apply zP | apply zQ | apply zR | apply zL)<;>intro h<;>try (exfalso;first | omega | exact h rfl | (revert h;decide) | (cases h;done)))
   | ((with_reducible first | refine r_gr0 [0] ?_ | refine r_gr1 [0] ?_ | refine r_gr2 [0] ?_ | refine r_gr3 [0] ?_ | refine r_gr4 [0] ?_ | refine r_gr5 [0] ?_ | refine r_gr6 [0] ?_ | refine r_gr7 [0] ?_ | refine r_gr8 [0] ?_ | refine r_gr9 [0] ?_ | refine r_gr10 [0] ?_);simp -dsimp -implicitDefEqProofs (maxSteps:=1000000) (disch:=first | omega | (simp only [LN,e1,e2,e3,hc,hd];omega)) only [go_sem,e1,e2,e3,hc,hd])
   | ((first | (with_reducible first | apply zW | apply zV | apply zU | apply zS | apply zX | show VX _ _ _ _ _ _ _ | show vstep _ _ _ _ _ | show vskip _ _ _ | show withV _ _ | apply qN | apply qR | refine zB default ?_ (by first | omega | (simp only [LN,e1,e2,e3,hc,hd];omega)) (by first | omega | (simp only [LN,e1,e2,e3,hc,hd];omega)) | refine zC default ?_ (by first | omega | (simp only [LN,e1,e2,e3,hc,hd];omega)) | refine qI ?_ (by first | decide | omega | assumption | (simp only [LN,e1,e2,e3,hc,hd];omega)) | refine And.intro ?_ ?_) | ((with_reducible show pickE _ _ _);refine qA _ ?_));try simp -dsimp -implicitDefEqProofs (maxSteps:=1000000) (disch:=first | omega | (simp only [LN,e1,e2,e3,hc,hd];omega)) only [go_sem,e1,e2,e3,hc,hd])
  )
  ·(refine endX_i (true) ?_;simp -implicitDefEqProofs only [endA];(simp -dsimp -implicitDefEqProofs (maxSteps:=1000000) (disch:=first | omega | (simp only [LN,jk_put,put_hist,put_p];omega)) only [go_sem,jk_put,put_hist,put_p];try trivial))
   simp [List.map_set,eU,eWr]
  ·(refine endX_i (false) ?_;simp -implicitDefEqProofs only [endA];(simp -dsimp -implicitDefEqProofs (maxSteps:=1000000) (disch:=first | omega | (simp only [LN,jk_put,put_hist,put_p];omega)) only [go_sem,jk_put,put_hist,put_p];try trivial))
   simp [List.map_set,eU,eWr]
end Go.Proofs.YtckhjklcfagkoaaGreatDoor
namespace Go.Proofs.YtckhjklcfagkoaaGreatDoor
set_option maxHeartbeats 4000000
set_option maxRecDepth 100000
open Go Go.Ab
attribute [local irreducible] callK callF loopQ vstep vskip pickE hideP
attribute [local go_sem] deO peO cuO liO thO hiO noO
theorem tStore (A:Dv) (J:JT) (k:Nat) (hk:k<8) (h:WF A) (hj:∀ r,r<6→(jk A J r).length≤1000000000) (o v:Int) (ho:0≤o∧o≤18446744073709551615) (hv:0≤v∧v≤18446744073709551615):ACallsX Tryz.prog 38 [.loc (4+k) 0,.p (.v (.int .u64 o)),.p (.v (.int .u64 v))] (dvL A J) (fun g:Bool=>.p (.tup [])) (fun g:Bool=>(dv2 (A.store k o v) (jsto A J k o g))):=by
 refine yC (E:=E) (fn:=Tryz.f38) 27 [] rfl rfl rfl rfl (by decide) rfl (fun _=>rfl) ?_
 have h6:=h.n6
 have kw:=tWord A J k hk h.n6 o ho
 have kc:=tCnt A J k hk (A.isW o)
 by_cases hc:A.cntB (A.isW o)=true
 ·obtain ⟨h1,h2,h3⟩:=isW_of (cntB_of hc) ho.1
  rw [hc] at kc
  have kp:=tWrite (A.cnt k (A.isW o)) J k hk (h.cnt _ _) (o / 64).toNat (by rw [(cnt_p A k _).1];exact h1) (by rw [jk_cnt];exact hj _ (by omega)) o v ⟨h2,h3⟩ hv
  have es:∀ g,jsto A J k o g=jput (A.cnt k (A.isW o)) J (o / 64).toNat g:=fun g=>if_pos hc
  rw [show A.store k o v=(A.cnt k (A.isW o)).put (o / 64).toNat o v from if_pos hc]
  repeat' (first
   | (with_reducible first | apply zY | apply zT | apply zM | apply zN | apply zO | refine qK ?_ | (show False;omega))
   | ((with_reducible first | apply zP | apply zQ | apply zR | apply zL)<;>intro h<;>try (exfalso;first | omega | exact h rfl | (revert h;decide) | (cases h;done)))
   | ((with_reducible first | refine r_gr0 [87] ?_ | refine r_gr1 [87] ?_ | refine r_gr2 [87] ?_ | refine r_gr3 [87] ?_ | refine r_gr4 [87] ?_ | refine r_gr5 [87] ?_ | refine r_gr6 [87] ?_ | refine r_gr7 [87] ?_ | refine r_gr8 [87] ?_ | refine r_gr9 [87] ?_ | refine r_gr10 [87] ?_);simp -dsimp -implicitDefEqProofs (maxSteps:=1000000) (disch:=first | omega | (simp only [LN];omega)) only [go_sem])
   | ((first | (with_reducible first | apply zW | apply zV | apply zU | apply zS | apply zX | show VX _ _ _ _ _ _ _ | show vstep _ _ _ _ _ | show vskip _ _ _ | show withV _ _ | apply qN | apply qR | refine zB default ?_ | refine zC default ?_ | refine qI ?_) | (with_reducible first | apply zG | apply zH | apply zI) | ((with_reducible apply zJ);(first | exact kw | exact kc)) | ((with_reducible apply zK);(first | exact kp);intro gq) | ((with_reducible show pickE _ _ _);refine qA _ ?_));try simp -dsimp -implicitDefEqProofs (maxSteps:=1000000) (disch:=first | omega | (simp only [LN];omega)) only [go_sem])
  )
  (refine endX_i (gq) ?_;simp -implicitDefEqProofs only [endA];(simp -dsimp -implicitDefEqProofs (maxSteps:=1000000) (disch:=first | omega | (simp only [LN,es];omega)) only [go_sem,es];try trivial))
 ·simp only [Bool.not_eq_true] at hc
  rw [hc] at kc
  rw [show A.store k o v=A.cnt k (A.isW o) from by unfold Dv.store;rw [hc];rfl]
  have es:∀ g,jsto A J k o g=J:=fun g=>by unfold jsto;rw [hc];rfl
  repeat' (first
   | (with_reducible first | apply zY | apply zT | apply zM | apply zN | apply zO | refine qK ?_ | (show False;omega))
   | ((with_reducible first | apply zP | apply zQ | apply zR | apply zL)<;>intro h<;>try (exfalso;first | omega | exact h rfl | (revert h;decide) | (cases h;done)))
   | ((first | (with_reducible first | apply zW | apply zV | apply zU | apply zS | apply zX | show VX _ _ _ _ _ _ _ | show vstep _ _ _ _ _ | show vskip _ _ _ | show withV _ _ | apply qN | apply qR | refine zB default ?_ | refine zC default ?_ | refine qI ?_) | (with_reducible first | apply zG | apply zH | apply zI) | ((with_reducible apply zJ);(first | exact kw | exact kc)) | ((with_reducible show pickE _ _ _);refine qA _ ?_));try simp -dsimp -implicitDefEqProofs (maxSteps:=1000000) (disch:=first | omega | (simp only [LN];omega)) only [go_sem])
  )
  (refine endX_i (true) ?_;simp -implicitDefEqProofs only [endA];(simp -dsimp -implicitDefEqProofs (maxSteps:=1000000) (disch:=first | omega | (simp only [LN,es];omega)) only [go_sem,es];try trivial))
end Go.Proofs.YtckhjklcfagkoaaGreatDoor
namespace Go.Proofs.YtckhjklcfagkoaaGreatDoor
set_option maxHeartbeats 4000000
set_option maxRecDepth 100000
open Go Go.Ab
attribute [local irreducible] callK callF loopQ vstep vskip pickE hideP
attribute [local go_sem] eU deO peO cuO liO thO hiO noO
theorem dNew6 (n:Nat) (hn:0<n∧n≤6):ACalls Tryz.prog 31 [.p (.v (.int .i64 n))] [] (.tup [.loc 0 0,.p (.v (.int .i64 0))]) (dvL (Dv.fresh n (List.replicate (8*n) 0)) J0):=by
 refine yA (E:=E) (fn:=Tryz.f31) 14 [.tmp 2,.tmp 3] rfl rfl rfl rfl (by decide) rfl rfl ?_
 have e1:IntKind.i64.wrap ((n:Int)*8)=((8*n:Nat):Int):=by rw [IntKind.wrap_i64];omega
 have e2:(n:Int)*8=((8*n:Nat):Int):=by omega
 have e3:List.replicate (8*n) (PV.v (.int .u64 0))=(List.replicate (8*n) (0:Int)).map eU:=by simp [eU]
 repeat' (first
  | (with_reducible first | apply zY | apply zT | apply zM | apply zN | apply zO | refine qK ?_ | (show False;omega))
  | ((with_reducible first | apply zP | apply zQ | apply zR | apply zL)<;>intro h<;>try (exfalso;first | omega | exact h rfl | (revert h;decide) | (cases h;done)))
  | ((first | (with_reducible first | apply zW | apply zV | apply zU | apply zS | apply zX | show VX _ _ _ _ _ _ _ | show vstep _ _ _ _ _ | show vskip _ _ _ | show withV _ _ | apply qN | apply qR | refine zB default ?_ (by first | omega | (simp only [LN,e1,e2,e3,List.length_replicate];omega)) (by first | omega | (simp only [LN,e1,e2,e3,List.length_replicate];omega)) | refine zC default ?_ (by first | omega | (simp only [LN,e1,e2,e3,List.length_replicate];omega)) | refine qI ?_ (by first | decide | omega | assumption | (simp only [LN,e1,e2,e3,List.length_replicate];omega))) | (with_reducible first | apply zG | apply zH | apply zI) | ((with_reducible apply zJ);(first | exact dOf6 (List.replicate (8*n) 0) n (by simp) hn)) | ((with_reducible show pickE _ _ _);refine qA _ ?_));try simp -dsimp -implicitDefEqProofs (maxSteps:=1000000) (disch:=first | omega | (simp only [LN,e1,e2,e3,List.length_replicate];omega)) only [go_sem,e1,e2,e3,List.length_replicate])
 )
 all_goals first | omega | (simp [Dv.fresh,jk];done)
theorem dOff6 (A:Dv) (J:JT):ACalls Tryz.prog 21 [.loc 0 0] (dvL A J) (.p (.v (.bool A.off))) (dvL A J):=by
 refine yA (E:=E) (fn:=Tryz.f21) 11 [.tmp 2] rfl rfl rfl rfl (by decide) rfl rfl ?_
 repeat' (first
  | (with_reducible first | apply zY | apply zT | apply zM | apply zN | apply zO | refine qK ?_ | (show False;omega))
  | ((with_reducible first | apply zP | apply zQ | apply zR | apply zL)<;>intro h)
  | ((first | (with_reducible first | apply zW | apply zV | apply zU | apply zS | apply zX | show VX _ _ _ _ _ _ _ | show vstep _ _ _ _ _ | show vskip _ _ _ | show withV _ _ | apply qN | apply qR | refine zB default ?_ | refine zC default ?_ | refine qI ?_) | ((with_reducible show pickE _ _ _);refine qA _ ?_));try simp -dsimp -implicitDefEqProofs (maxSteps:=1000000) (disch:=first | omega | (simp only [LN];omega)) only [go_sem])
 )
def Dv.arm (A:Dv) (n:Int):Dv:=if A.off=true then A else { A with armed:=decide (0≤n),left:=max n 0 }
theorem dArm6 (A:Dv) (J:JT) (n:Int):ACalls Tryz.prog 36 [.loc 0 0,.p (.v (.int .i64 n))] (dvL A J) (.p (.tup [])) (dvL (A.arm n) J):=by
 refine yA (E:=E) (fn:=Tryz.f36) 22 [] rfl rfl rfl rfl (by decide) rfl rfl ?_
 repeat' (first
  | (with_reducible first | apply zY | apply zT | apply zM | apply zN | apply zO | refine qK ?_ | (show False;omega))
  | ((with_reducible first | apply zP | apply zQ | apply zR | apply zL)<;>intro h)
  | ((first | (with_reducible first | apply zW | apply zV | apply zU | apply zS | apply zX | show VX _ _ _ _ _ _ _ | show vstep _ _ _ _ _ | show vskip _ _ _ | show withV _ _ | apply qN | apply qR | refine zB default ?_ | refine zC default ?_ | refine qI ?_) | ((with_reducible show pickE _ _ _);refine qA _ ?_));try simp -dsimp -implicitDefEqProofs (maxSteps:=1000000) (disch:=first | omega | (simp only [LN];omega)) only [go_sem])
 )
 all_goals (simp [Dv.arm,h,jk];first | done)
def Dv.wbB (A:Dv) (r k:Int):Bool:=!A.off && decide ((0≤r∧r<A.n)∧0≤k∧k≤(A.hist r.toNat).length)
def Dv.wb (A:Dv) (r k:Int):Dv:=if A.wbB r k=true then A.persist r.toNat k.toNat else A
def jwb (A:Dv) (J:JT) (r k:Int):JT:=if A.wbB r k=true then jper A J r.toNat k.toNat else J
theorem dWriteBack1 (A:Dv) (J:JT) (h:WF A) (hj:∀ r,r<6→(jk A J r).length≤1000000000) (r k:Nat) (ho:A.off=false) (hr:r<A.n) (hk:k≤(A.hist r).length):ACalls Tryz.prog 35 [.loc 0 0,.p (.v (.int .i64 r)),.p (.v (.int .i64 k))] (dvL A J) (.p (.v (.bool true))) (dv2 (A.persist r k) (jper A J r k)):=by
 refine yA (E:=E) (fn:=Tryz.f35) 47 [.tmp 6] rfl rfl rfl rfl (by decide) rfl rfl ?_
 have h6:=h.n6
 have hl:=h.len r (by omega)
 have kp:=dPersist A J h r k hr hk (hj r (by omega))
 repeat' (first
  | (with_reducible first | apply zY | apply zT | apply zM | apply zN | apply zO | refine qK ?_ | (show False;omega))
  | ((with_reducible first | apply zP | apply zQ | apply zR | apply zL)<;>intro h<;>try (exfalso;first | omega | exact h rfl | (revert h;decide) | (cases h;done)))
  | ((first | (with_reducible first | apply zW | apply zV | apply zU | apply zS | apply zX | show VX _ _ _ _ _ _ _ | show vstep _ _ _ _ _ | show vskip _ _ _ | show withV _ _ | apply qN | apply qR | refine zB default ?_ | refine zC default ?_ | refine qI ?_) | (with_reducible first | apply zG | apply zH | apply zI) | ((with_reducible apply zJ);(first | exact kp)) | ((with_reducible show pickE _ _ _);refine qA _ ?_));try simp -dsimp -implicitDefEqProofs (maxSteps:=1000000) (disch:=first | omega | (simp only [LN];omega)) only [go_sem])
 )
 all_goals first | omega | (exfalso;simp_all;done)
theorem dWriteBack0 (A:Dv) (J:JT) (h:WF A) (r k:Int) (hb:A.wbB r k=false):ACalls Tryz.prog 35 [.loc 0 0,.p (.v (.int .i64 r)),.p (.v (.int .i64 k))] (dvL A J) (.p (.v (.bool false))) (dv2 A J):=by
 refine yA (E:=E) (fn:=Tryz.f35) 47 [.tmp 6] rfl rfl rfl rfl (by decide) rfl rfl ?_
 have h6:=h.n6
 have hl:=h.len r.toNat
 simp only [Dv.wbB,Bool.and_eq_false_iff,Bool.not_eq_false',decide_eq_false_iff_not] at hb
 rcases hb with hb | hb
 ·repeat' (first
   | (with_reducible first | apply zY | apply zT | apply zM | apply zN | apply zO | refine qK ?_ | (show False;omega))
   | ((with_reducible first | apply zP | apply zQ | apply zR | apply zL)<;>intro h<;>try (exfalso;first | omega | exact h rfl | (revert h;decide) | (cases h;done)))
   | ((first | (with_reducible first | apply zW | apply zV | apply zU | apply zS | apply zX | show VX _ _ _ _ _ _ _ | show vstep _ _ _ _ _ | show vskip _ _ _ | show withV _ _ | apply qN | apply qR | refine zB default ?_ | refine zC default ?_ | refine qI ?_) | ((with_reducible show pickE _ _ _);refine qA _ ?_));try simp -dsimp -implicitDefEqProofs (maxSteps:=1000000) (disch:=first | omega | (simp only [LN];omega)) only [go_sem])
  )
  all_goals first | omega | (exfalso;simp_all;done)
 ·repeat' (first
   | (with_reducible first | apply zY | apply zT | apply zM | apply zN | apply zO | refine qK ?_ | (show False;omega))
   | ((with_reducible first | apply zP | apply zQ | apply zR | apply zL)<;>intro h<;>try (exfalso;first | omega | exact h rfl | (revert h;decide) | (cases h;done)))
   | ((first | (with_reducible first | apply zW | apply zV | apply zU | apply zS | apply zX | show VX _ _ _ _ _ _ _ | show vstep _ _ _ _ _ | show vskip _ _ _ | show withV _ _ | apply qN | apply qR | refine zB default ?_ | refine zC default ?_ | refine qI ?_) | ((with_reducible show pickE _ _ _);refine qA _ ?_));try simp -dsimp -implicitDefEqProofs (maxSteps:=1000000) (disch:=first | omega | (simp only [LN];omega)) only [go_sem])
  )
  all_goals first | (exfalso;omega)
theorem dWriteBack6 (A:Dv) (J:JT) (h:WF A) (hj:∀ r,r<6→(jk A J r).length≤1000000000) (r k:Int):ACalls Tryz.prog 35 [.loc 0 0,.p (.v (.int .i64 r)),.p (.v (.int .i64 k))] (dvL A J) (.p (.v (.bool (A.wbB r k)))) (dv2 (A.wb r k) (jwb A J r k)):=by
 unfold Dv.wb jwb
 cases hb:A.wbB r k with
 | false =>
  have:=dWriteBack0 A J h r k hb
  simpa using this
 | true =>
  have hb2:=hb
  simp only [Dv.wbB,Bool.and_eq_true,Bool.not_eq_true',decide_eq_true_eq] at hb2
  have:=dWriteBack1 A J h hj r.toNat k.toNat hb2.1 (by omega) (by omega)
  rw [show ((r.toNat:Nat):Int)=r by omega,show ((k.toNat:Nat):Int)=k by omega] at this
  simpa using this
def Dv.casB (A:Dv) (o w:Int):Bool:=A.cntB (A.isW o) && decide (A.cur.getD (o / 8).toNat 0=w)
def Dv.cas (A:Dv) (k:Nat) (o w v:Int):Dv:=if A.casB o w=true then (A.cnt k (A.isW o)).put (o / 64).toNat o v else A.cnt k (A.isW o)
def jcas (A:Dv) (J:JT) (k:Nat) (o w:Int) (g:Bool):JT:=if A.casB o w=true then jput (A.cnt k (A.isW o)) J (o / 64).toNat g else J
theorem tCAS6 (A:Dv) (J:JT) (k:Nat) (hk:k<8) (h:WF A) (hj:∀ r,r<6→(jk A J r).length≤1000000000) (o w v:Int) (ho:0≤o∧o≤18446744073709551615) (hv:0≤v∧v≤18446744073709551615):ACallsX Tryz.prog 40 [.loc (4+k) 0,.p (.v (.int .u64 o)),.p (.v (.int .u64 w)),.p (.v (.int .u64 v))] (dvL A J) (fun g:Bool=>.p (.v (.bool (A.casB o w)))) (fun g:Bool=>(dv2 (A.cas k o w v) (jcas A J k o w g))):=by
 refine yC (E:=E) (fn:=Tryz.f40) 43 [.tmp 8] rfl rfl rfl rfl (by decide) rfl (fun _=>rfl) ?_
 have h6:=h.n6
 have hcu:=h.cur
 have kw:=tWord A J k hk h.n6 o ho
 have kc:=tCnt A J k hk (A.isW o)
 have ecu:=(cnt_p A k (A.isW o)).2.2.1
 by_cases hc:A.cntB (A.isW o)=true
 ·obtain ⟨h1,h2,h3⟩:=isW_of (cntB_of hc) ho.1
  have e1:IntKind.u64.wrap (o.tdiv 8)=o / 8:=by rw [Int.tdiv_eq_ediv_of_nonneg (by omega),IntKind.wrap_u64];omega
  have e2:o.tdiv 8=o / 8:=Int.tdiv_eq_ediv_of_nonneg (by omega)
  have e3:IntKind.u64.wrap (o / 8)=o / 8:=by rw [IntKind.wrap_u64];omega
  have ecn:=(cnt_p A k (A.isW o)).1
  have hcl:(A.cnt k (A.isW o)).cur.length=8*A.n:=by rw [ecu];exact hcu
  rw [hc] at kc
  by_cases hw:A.cur.getD (o / 8).toNat 0=w
  ·have hb:A.casB o w=true:=by unfold Dv.casB;rw [hc,decide_eq_true hw];rfl
   have kp:=tWrite (A.cnt k (A.isW o)) J k hk (h.cnt _ _) (o / 64).toNat (by rw [(cnt_p A k _).1];exact h1) (by rw [jk_cnt];exact hj _ (by omega)) o v ⟨h2,h3⟩ hv
   have es:∀ g,jcas A J k o w g=jput (A.cnt k (A.isW o)) J (o / 64).toNat g:=fun g=>if_pos hb
   rw [show A.cas k o w v=(A.cnt k (A.isW o)).put (o / 64).toNat o v from if_pos hb,hb]
   have hw2:(A.cnt k (A.isW o)).cur.getD (o / 8).toNat default=w:=by rw [ecu];exact hw
   repeat' (first
    | (with_reducible first | apply zY | apply zT | apply zM | apply zN | apply zO | refine qK ?_ | (show False;omega))
    | ((with_reducible first | apply zP | apply zQ | apply zR | apply zL)<;>intro h<;>try (exfalso;first | omega | exact h rfl | (revert h;decide) | (cases h;done)))
    | ((with_reducible first | refine r_gr0 [87] ?_ | refine r_gr1 [87] ?_ | refine r_gr2 [87] ?_ | refine r_gr3 [87] ?_ | refine r_gr4 [87] ?_ | refine r_gr5 [87] ?_ | refine r_gr6 [87] ?_ | refine r_gr7 [87] ?_ | refine r_gr8 [87] ?_ | refine r_gr9 [87] ?_ | refine r_gr10 [87] ?_);simp -dsimp -implicitDefEqProofs (maxSteps:=1000000) (disch:=first | omega | (simp only [LN,hcl,e1,e2,e3,hw2];omega)) only [go_sem,hcl,e1,e2,e3,hw2])
    | ((first | (with_reducible first | apply zW | apply zV | apply zU | apply zS | apply zX | show VX _ _ _ _ _ _ _ | show vstep _ _ _ _ _ | show vskip _ _ _ | show withV _ _ | apply qN | apply qR | refine zB default ?_ (by first | omega | (simp only [LN,hcl,e1,e2,e3,hw2];omega)) (by first | omega | (simp only [LN,hcl,e1,e2,e3,hw2];omega)) | refine zC default ?_ (by first | omega | (simp only [LN,hcl,e1,e2,e3,hw2];omega)) | refine qI ?_ (by first | decide | omega | assumption | (simp only [LN,hcl,e1,e2,e3,hw2];omega))) | (with_reducible first | apply zG | apply zH | apply zI) | ((with_reducible apply zJ);(first | exact kw | exact kc)) | ((with_reducible apply zK);(first | exact kp);intro gq) | ((with_reducible show pickE _ _ _);refine qA _ ?_));try simp -dsimp -implicitDefEqProofs (maxSteps:=1000000) (disch:=first | omega | (simp only [LN,hcl,e1,e2,e3,hw2];omega)) only [go_sem,hcl,e1,e2,e3,hw2])
   )
   all_goals first | omega | ((refine endX_i (gq) ?_;simp -implicitDefEqProofs only [endA];(simp -dsimp -implicitDefEqProofs (maxSteps:=1000000) (disch:=first | omega | (simp only [LN,es];omega)) only [go_sem,es];try trivial));done)
  ·have hb:A.casB o w=false:=by unfold Dv.casB;rw [hc,decide_eq_false hw];rfl
   have es:∀ g,jcas A J k o w g=J:=fun g=>by unfold jcas;rw [hb];rfl
   rw [show A.cas k o w v=A.cnt k (A.isW o) from by unfold Dv.cas;rw [hb];rfl,hb]
   have hw2:¬ (A.cnt k (A.isW o)).cur.getD (o / 8).toNat default=w:=by rw [ecu];exact hw
   repeat' (first
    | (with_reducible first | apply zY | apply zT | apply zM | apply zN | apply zO | refine qK ?_ | (show False;omega))
    | ((with_reducible first | apply zP | apply zQ | apply zR | apply zL)<;>intro h<;>try (exfalso;first | omega | exact h rfl | (revert h;decide) | (cases h;done)))
    | ((first | (with_reducible first | apply zW | apply zV | apply zU | apply zS | apply zX | show VX _ _ _ _ _ _ _ | show vstep _ _ _ _ _ | show vskip _ _ _ | show withV _ _ | apply qN | apply qR | refine zB default ?_ (by first | omega | (simp only [LN,hcl,e1,e2,e3,hw2];omega)) (by first | omega | (simp only [LN,hcl,e1,e2,e3,hw2];omega)) | refine zC default ?_ (by first | omega | (simp only [LN,hcl,e1,e2,e3,hw2];omega)) | refine qI ?_ (by first | decide | omega | assumption | (simp only [LN,hcl,e1,e2,e3,hw2];omega))) | (with_reducible first | apply zG | apply zH | apply zI) | ((with_reducible apply zJ);(first | exact kw | exact kc)) | ((with_reducible show pickE _ _ _);refine qA _ ?_));try simp -dsimp -implicitDefEqProofs (maxSteps:=1000000) (disch:=first | omega | (simp only [LN,hcl,e1,e2,e3,hw2];omega)) only [go_sem,hcl,e1,e2,e3,hw2])
   )
   all_goals first | omega | (exfalso;omega) | ((refine endX_i (true) ?_;simp -implicitDefEqProofs only [endA];(simp -dsimp -implicitDefEqProofs (maxSteps:=1000000) (disch:=first | omega | (simp only [LN,es];omega)) only [go_sem,es];try trivial));done)
 ·simp only [Bool.not_eq_true] at hc
  rw [hc] at kc
  have hb:A.casB o w=false:=by unfold Dv.casB;rw [hc];rfl
  have es:∀ g,jcas A J k o w g=J:=fun g=>by unfold jcas;rw [hb];rfl
  rw [show A.cas k o w v=A.cnt k (A.isW o) from by unfold Dv.cas;rw [hb];rfl,hb]
  repeat' (first
   | (with_reducible first | apply zY | apply zT | apply zM | apply zN | apply zO | refine qK ?_ | (show False;omega))
   | ((with_reducible first | apply zP | apply zQ | apply zR | apply zL)<;>intro h<;>try (exfalso;first | omega | exact h rfl | (revert h;decide) | (cases h;done)))
   | ((first | (with_reducible first | apply zW | apply zV | apply zU | apply zS | apply zX | show VX _ _ _ _ _ _ _ | show vstep _ _ _ _ _ | show vskip _ _ _ | show withV _ _ | apply qN | apply qR | refine zB default ?_ | refine zC default ?_ | refine qI ?_) | (with_reducible first | apply zG | apply zH | apply zI) | ((with_reducible apply zJ);(first | exact kw | exact kc)) | ((with_reducible show pickE _ _ _);refine qA _ ?_));try simp -dsimp -implicitDefEqProofs (maxSteps:=1000000) (disch:=first | omega | (simp only [LN];omega)) only [go_sem])
  )
  all_goals first | omega | ((refine endX_i (true) ?_;simp -implicitDefEqProofs only [endA];(simp -dsimp -implicitDefEqProofs (maxSteps:=1000000) (disch:=first | omega | (simp only [LN,es];omega)) only [go_sem,es];try trivial));done)
end Go.Proofs.YtckhjklcfagkoaaGreatDoor
namespace Go.Proofs.YtckhjklcfagkoaaGreatDoor
set_option maxHeartbeats 4000000
set_option maxRecDepth 100000
open Go Go.Ab
attribute [local irreducible] callK callF loopQ vstep vskip pickE hideP
attribute [local go_sem] deO peO cuO liO thO hiO noO
theorem tFlush (A:Dv) (J:JT) (k:Nat) (hk:k<8) (h:WF A) (o:Int) (ho:0≤o∧o≤18446744073709551615):ACalls Tryz.prog 41 [.loc (4+k) 0,.p (.v (.int .u64 o))] (dvL A J) (.p (.tup [])) (dvL (A.flush k o) J):=by
 refine yA (E:=E) (fn:=Tryz.f41) 55 [] rfl rfl rfl rfl (by decide) rfl rfl ?_
 have h6:=h.n6
 have ks:=dSize6 A J h.n6
 have kc:=tCnt A J k hk (A.isB o)
 by_cases hc:A.cntB (A.isB o)=true
 ·have hb:A.isB o=true:=cntB_of hc
  simp [Dv.isB] at hb
  obtain ⟨r,hr⟩:∃ r,r=(o / 64).toNat:=⟨_,rfl⟩
  have hr6:r<6:=by omega
  have hrn:r<(A.cnt k (A.isB o)).n:=by rw [(cnt_p A k _).1];omega
  have hl:=h.len r hr6
  have e1:IntKind.u64.wrap (o.tdiv 64)=(r:Int):=by rw [Int.tdiv_eq_ediv_of_nonneg (by omega),IntKind.wrap_u64];omega
  have e2:IntKind.i64.wrap (r:Int)=(r:Int):=by rw [IntKind.wrap_i64];omega
  have hcd:=(cnt_p A k (A.isB o)).2.2.2.2.1
  have hch:=(cnt_p A k (A.isB o)).2.2.2.1
  have e3:IntKind.u64.wrap (((A.cnt k (A.isB o)).hist r).length:Int)=((A.cnt k (A.isB o)).hist r).length:=by rw [hch,IntKind.wrap_u64];omega
  have e4:IntKind.u64.wrap ((A.cnt k (A.isB o)).done r+((A.cnt k (A.isB o)).hist r).length)=(A.cnt k (A.isB o)).done r+((A.cnt k (A.isB o)).hist r).length:=by rw [hch,hcd,IntKind.wrap_u64];omega
  rw [hc] at kc
  rw [show A.flush k o=(A.cnt k (A.isB o)).noted k r from by rw [hr];exact if_pos hc]
  repeat' (first
   | (with_reducible first | apply zY | apply zT | apply zM | apply zN | apply zO | refine chk_ok (by rcases lt8 hk with rfl | rfl | rfl | rfl | rfl | rfl | rfl | rfl<;>kernel_rfl) ?_)
   | ((with_reducible first | apply zP | apply zQ | apply zR | apply zL)<;>intro h<;>try (exfalso;first | omega | exact h rfl | (revert h;decide) | (cases h;done)))
   | ((first | (with_reducible first | apply zW | apply zV | apply zU | apply zS | apply zX | show VX _ _ _ _ _ _ _ | show vstep _ _ _ _ _ | show vskip _ _ _ | show withV _ _ | apply qN | apply qR | refine zB default ?_ (by first | omega | (simp only [LN,e1,e2,e3,e4];omega)) (by first | omega | (simp only [LN,e1,e2,e3,e4];omega)) | refine zC default ?_ (by first | omega | (simp only [LN,e1,e2,e3,e4];omega)) | refine qI ?_ (by first | decide | omega | assumption | (simp only [LN,e1,e2,e3,e4];omega))) | (with_reducible first | apply zG | apply zH | apply zI) | ((with_reducible apply zJ);(first | exact ks | exact kc)) | ((with_reducible show pickE _ _ _);refine qA _ ?_));try simp -dsimp -implicitDefEqProofs (maxSteps:=1000000) (disch:=first | omega | (simp only [LN,e1,e2,e3,e4];omega)) only [go_sem,e1,e2,e3,e4])
  )
  simp [Dv.noted,jk]
 ·simp only [Bool.not_eq_true] at hc
  rw [hc] at kc
  rw [show A.flush k o=A.cnt k (A.isB o) from by unfold Dv.flush;rw [hc];rfl]
  repeat' (first
   | (with_reducible first | apply zY | apply zT | apply zM | apply zN | apply zO | refine qK ?_ | (show False;omega))
   | ((with_reducible first | apply zP | apply zQ | apply zR | apply zL)<;>intro h<;>try (exfalso;first | omega | exact h rfl | (revert h;decide) | (cases h;done)))
   | ((first | (with_reducible first | apply zW | apply zV | apply zU | apply zS | apply zX | show VX _ _ _ _ _ _ _ | show vstep _ _ _ _ _ | show vskip _ _ _ | show withV _ _ | apply qN | apply qR | refine zB default ?_ | refine zC default ?_ | refine qI ?_) | (with_reducible first | apply zG | apply zH | apply zI) | ((with_reducible apply zJ);(first | exact ks | exact kc)) | ((with_reducible show pickE _ _ _);refine qA _ ?_));try simp -dsimp -implicitDefEqProofs (maxSteps:=1000000) (disch:=first | omega | (simp only [LN];omega)) only [go_sem])
  )
end Go.Proofs.YtckhjklcfagkoaaGreatDoor
