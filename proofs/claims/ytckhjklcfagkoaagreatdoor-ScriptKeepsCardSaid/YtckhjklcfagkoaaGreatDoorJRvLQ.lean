/- Contracts of functions of this program, and the plain facts that they rest on. No conditions. -/
import Derived.Test.YtckhjklcfagkoaaGreatDoorJRvIQ
import Derived.Test.YtckhjklcfagkoaaGreatDoorJScMQ
set_option linter.unusedSimpArgs false
set_option linter.unusedVariables false
namespace Go.Proofs.YtckhjklcfagkoaaGreatDoor
open Go Go.Ab
attribute [local irreducible] callK callF loopQ vstep vskip pickE hideP
set_option maxRecDepth 100000
theorem getD_set (l:List Int) (q j:Nat) (v:Int) (hq:q<l.length):(l.set q v).getD j 0=if j=q then v else l.getD j 0:=by
 simp only [List.getD_eq_getElem?_getD,List.getElem?_set]
 by_cases e:j=q
 ·subst e;simp [hq]
 ·rw [if_neg (fun h=>e h.symm),if_neg e]
theorem curOk_of {A:Dv} (h1:A.cur.length=8*A.n) (h2:∀ j,j<8*A.n→A.cur.getD j 0=(appL A.per (A.hist (j / 8))).getD j 0):CurOk A:=by
 refine list_getD (by rw [h1,contS_len]) fun j hj=>?_
 rw [h1] at hj
 rw [h2 j hj,contS_get _ _ _ hj,List.take_length]
theorem curOk_at {A:Dv} (h:CurOk A) {j:Nat} (hj:j<8*A.n):A.cur.getD j 0=(appL A.per (A.hist (j / 8))).getD j 0:=by
 have h2:A.cur=_:=h
 rw [h2,contS_get _ _ _ hj,List.take_length]
structure RInv (A:Dv) (M:MT) (N:Nat):Prop where
 wf:WF A
 cu:CurOk A
 rg:RngL A.per
 lo:LO A
 nt:NtOk A M N
theorem NtOk.same {A B:Dv} {M:MT} {N:Nat} (h:NtOk A M N) (e:B.note=A.note):NtOk B M N:=⟨fun k hk p hp=>by rw [e];exact h.a k hk p hp,fun k hk x v hx=>h.b k hk x v (by rw [← e];exact hx),h.c,h.l⟩
theorem RInv.cnt {A:Dv} {M:MT} {N:Nat} (h:RInv A M N) (k:Nat) (v:Bool):RInv (A.cnt k v) M N:=by
 obtain ⟨a1,a2,a3,a4,a5,a6⟩:=cnt_p A k v
 refine ⟨h.wf.cnt _ _,curOk_of (by rw [a3,a1];exact h.wf.cur) fun j hj=>?_,by rw [a2];exact h.rg,h.lo.cnt k v,h.nt.same a6⟩
 rw [a1] at hj
 rw [a2,a3,a4];exact curOk_at h.cu hj
theorem RInv.put {A:Dv} {M:MT} {N:Nat} (h:RInv A M N) {r:Nat} {o v:Int} (hw:WF (A.put r o v)) (hr:r<A.n) (ho:o / 64=r∧o % 8=0∧0≤o):RInv (A.put r o v) M N:=by
 refine ⟨hw,curOk_of (by show (A.cur.set _ _).length=_;rw [List.length_set];exact h.wf.cur) fun j hj=>?_,h.rg,h.lo,h.nt.same rfl⟩
 have hj:j<8*A.n:=hj
 have hc:=h.wf.cur
 have hp:=h.wf.per
 have hq:(o / 8).toNat<8*A.n:=by omega
 show (A.cur.set (o / 8).toNat v).getD j 0=_
 rw [getD_set _ _ _ _ (by omega),put_hist]
 show _=(appL A.per _).getD j 0
 by_cases hjr:j / 8=r
 ·rw [if_pos hjr,appL_app]
  show _=((appL A.per (A.hist r)).set (o / 8).toNat v).getD j 0
  rw [getD_set _ _ _ _ (by rw [appL_len];omega)]
  split
  ·rfl
  ·rw [curOk_at h.cu hj,hjr]
 ·rw [if_neg hjr,if_neg (by omega)]
  exact curOk_at h.cu hj
theorem RInv.persist {A:Dv} {M:MT} {N:Nat} (h:RInv A M N) {r k:Nat} (hw:WF (A.persist r k)) (hr:r<A.n):RInv (A.persist r k) M N:=by
 have h6:=h.wf.n6
 have hh:=fun x (hx:x∈(A.hist r).take k)=>h.wf.hist r (by omega) x (List.mem_of_mem_take hx)
 refine ⟨hw,curOk_of h.wf.cur fun j hj=>?_,appL_rng _ (fun x hx=>(hh x hx).2) _ h.rg,h.lo,h.nt.same rfl⟩
 show A.cur.getD j 0=(appL (appL A.per ((A.hist r).take k)) _).getD j 0
 rw [curOk_at h.cu hj,per_hist]
 by_cases hjr:j / 8=r
 ·rw [if_pos hjr,← appL_app,List.take_append_drop,hjr]
 ·rw [if_neg hjr]
  exact (appL_loc _ j _ _ (appL_len _ _) (appL_off _ j (fun x hx=>by have:=hh x hx;omega) _)).symm
open Classical in
theorem RInv.fenS {A:Dv} {M:MT} {N:Nat} (h:RInv A M N) {k:Nat} (hn:NoteOk A k) (S:Nat→Prop):RInv (fencS A k S) M N:=by
 have h6:=h.wf.n6
 refine ⟨wf_fencS h.wf hn S,curOk_of h.wf.cur fun j hj=>?_,by rw [fencS_per];exact contS_rng h.wf h.rg _,h.lo,h.nt.same rfl⟩
 have hj:j<8*A.n:=hj
 rw [fencS_per]
 show A.cur.getD j 0=(appL _ (if S (j / 8) then (A.hist (j / 8)).drop (kF A k (j / 8)) else A.hist (j / 8))).getD j 0
 rw [curOk_at h.cu hj]
 have e:=contS_get A (fun r=>if S r then kF A k r else 0) j hj
 by_cases hs:S (j / 8)
 ·rw [if_pos hs] at e ⊢
  rw [appL_loc _ j _ _ (by rw [contS_len,appL_len];exact h.wf.per.symm) e,← appL_app,List.take_append_drop]
 ·rw [if_neg hs] at e ⊢
  exact (appL_loc _ j _ _ (by rw [contS_len];exact h.wf.per.symm) e).symm
theorem RInv.fresh {n:Nat} (hn:0<n∧n≤6) {ws:List Int} (hw:WF (Dv.fresh n ws)) (hr:RngL ws):RInv (Dv.fresh n ws) (fun _=>[]) 0:=by
 refine ⟨hw,curOk_of hw.cur fun j hj=>rfl,hr,(fun ha=>by cases ha),⟨fun k hk p hp=>by simp at hp,fun k hk x v hx=>by simp [Dv.fresh] at hx,fun k hk=>List.Pairwise.nil,fun k hk=>Nat.le_refl _⟩⟩
theorem RInv.le {A:Dv} {M:MT} {N N':Nat} (h:RInv A M N) (hN:N≤N'):RInv A M N':=⟨h.wf,h.cu,h.rg,h.lo,⟨h.nt.a,h.nt.b,h.nt.c,fun k hk=>Nat.le_trans (h.nt.l k hk) hN⟩⟩
theorem RInv.flush {A:Dv} {M:MT} {N:Nat} (h:RInv A M N) {k:Nat} (hk:k<8) (o:Int) (hw:WF (A.flush k o)):RInv (A.flush k o) (flM A M k o) (N+1):=by
 unfold flM
 by_cases hc:A.cntB (A.isB o)=true
 ·have hf:A.flush k o=(A.cnt k (A.isB o)).noted k (o / 64).toNat:=if_pos hc
  rw [if_pos hc]
  rw [hf] at hw ⊢
  have hB:=h.cnt k (A.isB o)
  generalize A.cnt k (A.isB o)=B at *
  generalize (o / 64).toNat=r at *
  refine ⟨hw,hB.cu,hB.rg,hB.lo,⟨fun i hi p hp=>?_,fun i hi x v hx=>?_,fun i hi=>?_,fun i hi=>?_⟩⟩
  ·by_cases e:i=k
   ·subst e
    simp only [upd,if_true,nuM,List.mem_append,List.mem_filter,List.mem_singleton,decide_eq_true_eq] at hp
    rcases hp with ⟨h1,h2⟩ | rfl
    ·have:=hB.nt.a i hi p h1
     simp only [Dv.noted,upd,if_true,updF]
     rw [if_neg (fun e=>h2 (by simp only [Value.int.injEq,true_and] at e;omega))];exact this
    ·simp [Dv.noted,upd,updF]
   ·simp only [upd,if_neg e] at hp
    have:=hB.nt.a i hi p hp
    simp only [Dv.noted,upd,if_neg e];exact this
  ·by_cases e:i=k
   ·subst e
    simp only [Dv.noted,upd,if_true,updF] at hx
    split at hx
    ·rename_i e2
     cases hx
     exact ⟨(r,B.done r+(B.hist r).length),by simp [upd,nuM],e2⟩
    ·rename_i e2
     obtain ⟨p,h1,h2⟩:=hB.nt.b i hi x v hx
     refine ⟨p,?_,h2⟩
     simp only [upd,if_true,nuM,List.mem_append,List.mem_filter,decide_eq_true_eq]
     exact .inl ⟨h1,fun e3=>e2 (by rw [h2,e3])⟩
   ·simp only [Dv.noted,upd,if_neg e] at hx
    obtain ⟨p,h1,h2⟩:=hB.nt.b i hi x v hx
    exact ⟨p,by simp only [upd,if_neg e];exact h1,h2⟩
  ·by_cases e:i=k
   ·subst e
    simp only [upd,if_true,nuM]
    rw [List.pairwise_append]
    refine ⟨(hB.nt.c i hi).filter _,List.pairwise_singleton _ _,fun a ha b hb=>?_⟩
    rw [List.mem_filter] at ha
    rw [List.mem_singleton] at hb
    subst hb
    simpa using ha.2
   ·simp only [upd,if_neg e];exact hB.nt.c i hi
  ·by_cases e:i=k
   ·subst e
    simp only [upd,if_true,nuM,List.length_append,List.length_singleton]
    have:=hB.nt.l i hi
    have:=List.length_filter_le (fun p:Nat × Int=>decide (p.1≠r)) (M i)
    omega
   ·simp only [upd,if_neg e];have:=hB.nt.l i hi;omega
 ·rw [if_neg hc]
  rw [show A.flush k o=A.cnt k (A.isB o) from if_neg hc]
  exact (h.cnt _ _).le (by omega)
end Go.Proofs.YtckhjklcfagkoaaGreatDoor
namespace Go.Proofs.YtckhjklcfagkoaaGreatDoor
open Go Go.Ab
attribute [local irreducible] callK callF loopQ vstep vskip pickE hideP
set_option maxRecDepth 100000
theorem RInv.fence {A:Dv} {M:MT} {N:Nat} (h:RInv A M N) {k:Nat} (hk:k<8) (hn:NoteOk A k):RInv (A.fence k) (feM A M k) N:=by
 unfold feM
 by_cases hc:A.cntB true=true
 ·have hcp:=cnt_p A k true
  have hf:A.fence k={ fencS (A.cnt k true) k (fun _=>True) with note:=upd (A.cnt k true).note k (fun _=>none) }:=if_pos hc
  have hnB:NoteOk (A.cnt k true) k:=by
   intro x v hx
   rw [hcp.2.2.2.2.2] at hx
   rw [hcp.1,hcp.2.2.2.1,hcp.2.2.2.2.1]
   exact hn x v hx
  rw [if_pos hc,hf]
  have hF:=(h.cnt k true).fenS hnB (fun _=>True)
  have hno:(fencS (A.cnt k true) k (fun _=>True)).note=(A.cnt k true).note:=rfl
  generalize (A.cnt k true).note=nt at *
  generalize fencS (A.cnt k true) k (fun _=>True)=B at *
  subst hno
  refine ⟨⟨hF.wf.n0,hF.wf.n6,hF.wf.per,hF.wf.cur,hF.wf.hist,hF.wf.top,hF.wf.len,trivial⟩,hF.cu,hF.rg,hF.lo,⟨fun i hi p hp=>?_,fun i hi x v hx=>?_,fun i hi=>?_,fun i hi=>?_⟩⟩
  ·by_cases e:i=k
   ·subst e;simp [upd] at hp
   ·simp only [upd,if_neg e] at hp ⊢;exact hF.nt.a i hi p hp
  ·by_cases e:i=k
   ·subst e;simp [upd] at hx
   ·simp only [upd,if_neg e] at hx ⊢;exact hF.nt.b i hi x v hx
  ·by_cases e:i=k
   ·subst e;simp [upd]
   ·simp only [upd,if_neg e];exact hF.nt.c i hi
  ·by_cases e:i=k
   ·subst e;simp [upd]
   ·simp only [upd,if_neg e];exact hF.nt.l i hi
 ·rw [if_neg hc]
  rw [show A.fence k=A.cnt k true from if_neg hc]
  exact h.cnt _ _
theorem RInv.store {A:Dv} {M:MT} {N:Nat} (h:RInv A M N) (k:Nat) {o v:Int} (ho:0≤o) (hw:WF (A.store k o v)):RInv (A.store k o v) M N:=by
 by_cases hc:A.cntB (A.isW o)=true
 ·have hf:A.store k o v=(A.cnt k (A.isW o)).put (o / 64).toNat o v:=if_pos hc
  rw [hf] at hw ⊢
  obtain ⟨h1,h2,h3⟩:=isW_of (cntB_of hc) ho
  exact (h.cnt k _).put hw (by rw [(cnt_p A k _).1];exact h1) ⟨h2,h3,ho⟩
 ·rw [show A.store k o v=A.cnt k (A.isW o) from if_neg hc]
  exact h.cnt _ _
theorem RInv.cas {A:Dv} {M:MT} {N:Nat} (h:RInv A M N) (k:Nat) {o w v:Int} (ho:0≤o) (hw:WF (A.cas k o w v)):RInv (A.cas k o w v) M N:=by
 by_cases hb:A.casB o w=true
 ·have hf:A.cas k o w v=(A.cnt k (A.isW o)).put (o / 64).toNat o v:=if_pos hb
  rw [hf] at hw ⊢
  have hc:A.cntB (A.isW o)=true:=by unfold Dv.casB at hb;simp only [Bool.and_eq_true] at hb;exact hb.1
  obtain ⟨h1,h2,h3⟩:=isW_of (cntB_of hc) ho
  exact (h.cnt k _).put hw (by rw [(cnt_p A k _).1];exact h1) ⟨h2,h3,ho⟩
 ·rw [show A.cas k o w v=A.cnt k (A.isW o) from if_neg hb]
  exact h.cnt _ _
theorem RInv.wb {A:Dv} {M:MT} {N:Nat} (h:RInv A M N) (r k:Int) (hw:WF (A.wb r k)):RInv (A.wb r k) M N:=by
 by_cases hb:A.wbB r k=true
 ·have hf:A.wb r k=A.persist r.toNat k.toNat:=if_pos hb
  rw [hf] at hw ⊢
  unfold Dv.wbB at hb
  simp only [Bool.and_eq_true,decide_eq_true_eq] at hb
  exact h.persist hw (by omega)
 ·rw [show A.wb r k=A from if_neg hb]
  exact h
theorem RInv.arm {A:Dv} {M:MT} {N:Nat} (h:RInv A M N) {n:Int} (hn:n≤9223372036854775807):RInv (A.arm n) M N:=by
 unfold Dv.arm
 split
 ·exact h
 ·exact ⟨⟨h.wf.n0,h.wf.n6,h.wf.per,h.wf.cur,h.wf.hist,h.wf.top,h.wf.len,trivial⟩,h.cu,h.rg,fun _=>⟨by show 0≤max n 0;omega,by show max n 0≤_;omega⟩,h.nt.same rfl⟩
theorem fW_rng (p:List UInt8) (m i:Nat):RngL (fW p m i):=by
 intro j
 rcases Nat.lt_or_ge j m with h | h
 ·rw [fW_get _ _ _ _ h]
  have h1:=wrdU_lt p (8*j) (min 8 (i - 8*j))
  have h2:(256:Nat) ^ min 8 (i - 8*j)≤256 ^ 8:=Nat.pow_le_pow_right (by decide) (by omega)
  have h3:(256:Nat) ^ 8=18446744073709551616:=by decide
  omega
 ·rw [List.getD_eq_getElem?_getD,List.getElem?_eq_none (by rw [fW_len];exact h)];exact ⟨by decide,by decide⟩
theorem RInv.crash {A:Dv} (hA:0<A.n∧A.n≤6) (c:List UInt8) (hw:WF (A.crash c)):RInv (A.crash c) (fun _=>[]) 0:=RInv.fresh hA hw (fW_rng _ _ _)
def Mv (A:Dv) (M:MT) (x:Ev):MT :=
 if okE x=true then (if x.k=3 then flM A M x.th.toNat x.o else if x.k=4 then feM A M x.th.toNat else if x.k=7 then fun _=>[] else M) else M
theorem RInv.step {A:Dv} {M:MT} {N:Nat} (h:RInv A M N) (hno:∀ k,k<8→NoteOk A k) {x:Ev} (R:Rng x) (hw:WF (A.step x)):RInv (A.step x) (Mv A M x) (N+1):=by
 unfold Dv.step at hw ⊢
 unfold Mv
 by_cases hv:okE x=true
 ·rw [if_pos hv] at hw ⊢
  rw [if_pos hv]
  have hok:=okE_t hv
  have hth:x.k≤4→x.th.toNat<8:=fun hk=>by unfold okK at hok;omega
  have hro:=R.o
  by_cases k1:x.k=1
  ·rw [if_pos k1] at hw ⊢
   rw [if_neg (by omega),if_neg (by omega),if_neg (by omega)]
   exact (h.store _ hro.1 hw).le (by omega)
  rw [if_neg k1] at hw ⊢
  by_cases k2:x.k=2
  ·rw [if_pos k2] at hw ⊢
   rw [if_neg (by omega),if_neg (by omega),if_neg (by omega)]
   exact (h.cas _ hro.1 hw).le (by omega)
  rw [if_neg k2] at hw ⊢
  by_cases k3:x.k=3
  ·rw [if_pos k3] at hw ⊢
   rw [if_pos k3]
   exact h.flush (hth (by omega)) _ hw
  rw [if_neg k3] at hw ⊢
  rw [if_neg k3]
  by_cases k4:x.k=4
  ·rw [if_pos k4] at hw ⊢
   rw [if_pos k4]
   exact (h.fence (hth (by omega)) (hno _ (hth (by omega)))).le (by omega)
  rw [if_neg k4] at hw ⊢
  rw [if_neg k4]
  by_cases k5:x.k=5
  ·rw [if_pos k5] at hw ⊢
   rw [if_neg (by omega)]
   exact (h.wb _ _ hw).le (by omega)
  rw [if_neg k5] at hw ⊢
  by_cases k6:x.k=6
  ·rw [if_pos k6]
   rw [if_neg (by omega)]
   exact (h.arm R.n.2).le (by omega)
  rw [if_neg k6] at hw ⊢
  have k7:x.k=7:=by unfold okK at hok;omega
  rw [if_pos k7]
  exact (RInv.crash ⟨h.wf.n0,h.wf.n6⟩ _ hw).le (by omega)
 ·rw [if_neg hv] at hw ⊢
  rw [if_neg hv]
  exact h.le (by omega)
end Go.Proofs.YtckhjklcfagkoaaGreatDoor
namespace Go.Proofs.YtckhjklcfagkoaaGreatDoor
set_option maxHeartbeats 4000000
set_option maxRecDepth 100000
open Go Go.Ab
attribute [local irreducible] callK callF loopQ vstep vskip pickE hideP
attribute [local go_sem] rdO rlO lns_len rE
def rdV (A:Dv) (M:MT):PV:=.eptr [.view 10 (lnsR A),.view 2 ((M 0).map eNt),.view 2 ((M 1).map eNt),.view 2 ((M 2).map eNt),.view 2 ((M 3).map eNt),.view 2 ((M 4).map eNt),.view 2 ((M 5).map eNt),.view 2 ((M 6).map eNt),.view 2 ((M 7).map eNt),.v (.int .i64 (A.err 0)),.v (.int .i64 (A.err 1)),.v (.int .i64 (A.err 2)),.v (.int .i64 (A.err 3)),.v (.int .i64 (A.err 4)),.v (.int .i64 (A.err 5)),.v (.int .i64 (A.err 6)),.v (.int .i64 (A.err 7)),.v (.int .i64 (leftR A)),.v (.bool A.off),.v (.int .u64 A.ex)] 0
attribute [local go_sem] rdV
theorem lnT (A:Dv):(lnsR A).take A.n=lnsR A:=List.take_of_length_le (by rw [lns_len];exact Nat.le_refl _)
theorem pIs (A:Dv) (M:MT) (hn:A.n≤6) (o:Int) (ho:0≤o∧o≤18446744073709551615):PCalls Tryz.prog 29 [rdV A M,.v (.int .u64 o)] (.v (.bool (A.isW o))):=by
 refine yB (E:=E) (fn:=Tryz.f29) 19 [.tmp 4] rfl rfl rfl rfl (by decide) rfl ?_
 have e1:o.tmod 8=o % 8:=Int.tmod_eq_emod_of_nonneg ho.1
 have e2:IntKind.u64.wrap (o.tdiv 64)=o / 64:=by rw [Int.tdiv_eq_ediv_of_nonneg ho.1,IntKind.wrap_u64];omega
 have e3:IntKind.u64.wrap (A.n:Int)=A.n:=by rw [IntKind.wrap_u64];omega
 have e4:IntKind.u64.wrap (o / 64)=o / 64:=by rw [IntKind.wrap_u64];omega
 repeat' (first
  | (with_reducible first | apply zY | apply zT | apply zM | apply zN | apply zO | refine qK ?_ | (show False;omega))
  | ((with_reducible first | apply zP | apply zQ | apply zR | apply zL)<;>intro h)
  | ((first | (with_reducible first | apply zW | apply zV | apply zU | apply zS | apply zX | show VX _ _ _ _ _ _ _ | show vstep _ _ _ _ _ | show vskip _ _ _ | show withV _ _ | apply qN | apply qR | refine zB default ?_ (by first | omega | (simp only [LN,e1,e2,e3,e4];omega)) (by first | omega | (simp only [LN,e1,e2,e3,e4];omega)) | refine zC default ?_ (by first | omega | (simp only [LN,e1,e2,e3,e4];omega)) | refine qI ?_ (by first | decide | omega | assumption | (simp only [LN,e1,e2,e3,e4];omega))) | ((with_reducible show pickE _ _ _);refine qA _ ?_));try simp -dsimp -implicitDefEqProofs (maxSteps:=1000000) (disch:=first | omega | (simp only [LN,e1,e2,e3,e4];omega)) only [go_sem,e1,e2,e3,e4])
 )
 all_goals first | (congr 1;unfold Dv.isW;rw [Bool.eq_iff_iff];simp;omega)
theorem cnt_offT {A:Dv} (h:A.off=true) (k:Nat) (v:Bool):(A.cnt k v).off=true∧A.cntB v=false:=by
 constructor
 ·unfold Dv.cnt Dv.fail
  rw [if_pos h]
  split<;>exact h
 ·unfold Dv.cntB;rw [h];rfl
theorem store_offT {A:Dv} (h:A.off=true) (k:Nat) (o v:Int):(A.store k o v).off=true:=by
 unfold Dv.store;rw [(cnt_offT h k _).2];exact (cnt_offT h k _).1
theorem cas_offT {A:Dv} (h:A.off=true) (k:Nat) (o w v:Int):(A.cas k o w v).off=true:=by
 unfold Dv.cas Dv.casB;rw [(cnt_offT h k _).2];exact (cnt_offT h k _).1
theorem flush_offT {A:Dv} (h:A.off=true) (k:Nat) (o:Int):(A.flush k o).off=true:=by
 unfold Dv.flush;rw [(cnt_offT h k _).2];exact (cnt_offT h k _).1
theorem fence_offT {A:Dv} (h:A.off=true) (k:Nat):(A.fence k).off=true:=by
 unfold Dv.fence;rw [(cnt_offT h k _).2];exact (cnt_offT h k _).1
theorem rStepN (A:Dv) (M:MT) (x:Ev) (hc:x.ch.length≤1000000) (hv:okE x=false):ACalls Tryz.prog 13 [.loc 0 0,.p (rE x)] [rdO A M 1,rlO A] (.tup [.loc 0 0,.p (.v (.bool (A.stepB x))),.p (.v (.int .i64 (A.stepE x)))]) [rdO (A.step x) (Mv A M x) 1,rlO (A.step x)]:=by
 refine yA (E:=E) (fn:=Tryz.f13) 104 [.tmp 4,.tmp 5,.tmp 6] rfl rfl rfl rfl (by decide) rfl rfl ?_
 have kv:=rValid x hc
 rw [hv] at kv
 have e1:A.step x=A:=by unfold Dv.step;rw [hv];rfl
 have e2:A.stepB x=false:=by unfold Dv.stepB;rw [hv];rfl
 have e3:A.stepE x=1:=by unfold Dv.stepE;rw [hv];rfl
 have e4:Mv A M x=M:=by unfold Mv;rw [hv];rfl
 rw [e1,e2,e3,e4]
 repeat' (first
  | (with_reducible first | apply zY | apply zT | apply zM | apply zN | apply zO | refine qK ?_ | (show False;omega))
  | ((with_reducible first | apply zP | apply zQ | apply zR | apply zL)<;>intro h<;>try (exfalso;first | omega | exact h rfl | (revert h;decide) | (cases h;done)))
  | ((first | (with_reducible first | apply zW | apply zV | apply zU | apply zS | apply zX | show VX _ _ _ _ _ _ _ | show vstep _ _ _ _ _ | show vskip _ _ _ | show withV _ _ | apply qN | apply qR | refine zB default ?_ | refine zC default ?_ | refine qI ?_) | ((with_reducible apply zD);(exact kv)) | ((with_reducible apply zE);(exact kv);rfl) | ((with_reducible apply zF);(exact kv)) | ((with_reducible show pickE _ _ _);refine qA _ ?_));try simp -dsimp -implicitDefEqProofs (maxSteps:=1000000) (disch:=first | omega | (simp only [LN];omega)) only [go_sem])
 )
theorem rStep1 (A:Dv) (M:MT) (N:Nat) (h:RInv A M N) (x:Ev) (R:Rng x) (hv:okE x=true) (hk:x.k=1):ACalls Tryz.prog 13 [.loc 0 0,.p (rE x)] [rdO A M 1,rlO A] (.tup [.loc 0 0,.p (.v (.bool (A.stepB x))),.p (.v (.int .i64 (A.stepE x)))]) [rdO (A.step x) (Mv A M x) 1,rlO (A.step x)]:=by
 refine yA (E:=E) (fn:=Tryz.f13) 104 [.tmp 4,.tmp 5,.tmp 6] rfl rfl rfl rfl (by decide) rfl rfl ?_
 have kv:=rValid x (by have:=okE_t hv;unfold okK at this;omega)
 rw [hv] at kv
 have hro:=R.o
 have hrv:=R.v
 obtain ⟨e,h1,h2⟩:=ev_1 (okE_t hv) hk
 obtain ⟨t,ht⟩:=Int.eq_ofNat_of_zero_le h1
 have ht8:t<8:=by omega
 rw [ht] at e
 generalize x.o=o at *
 generalize x.v=v at *
 subst e
 have e1:A.step ⟨1,(t:Int),o,v,0,0,0,[]⟩=A.store t o v:=by unfold Dv.step;rw [hv];rfl
 have e2:A.stepB ⟨1,(t:Int),o,v,0,0,0,[]⟩=false:=by unfold Dv.stepB;rw [hv];rfl
 have e3:A.stepE ⟨1,(t:Int),o,v,0,0,0,[]⟩=if (A.store t o v).off=true then 3 else if A.isW o=true then 0 else 2:=by unfold Dv.stepE;rw [hv,e1];simp
 have e4:Mv A M ⟨1,(t:Int),o,v,0,0,0,[]⟩=M:=by unfold Mv;rw [hv];simp
 have h6:=h.wf.n6
 have ki:=pIs A M h6 o hro
 have ks:=rStore A M t ht8 h.wf h.lo o v hro
 have ho:=fun e=>store_offT (A:=A) e t o v
 rw [e1,e2,e3,e4]
 generalize hB:A.store t o v=B at *
 generalize hw:A.isW o=w at *
 repeat' (first
  | (with_reducible first | apply zY | apply zT | apply zM | apply zN | apply zO | refine qK ?_ | (show False;omega))
  | ((with_reducible first | apply zP | apply zQ | apply zR | apply zL)<;>intro h<;>try (exfalso;first | omega | exact h rfl | (revert h;decide) | (cases h;done)))
  | ((first | (with_reducible first | apply zW | apply zV | apply zU | apply zS | apply zX | show VX _ _ _ _ _ _ _ | show vstep _ _ _ _ _ | show vskip _ _ _ | show withV _ _ | apply qN | apply qR | refine zB default ?_ (by first | omega | (simp only [LN,lnT];omega)) (by first | omega | (simp only [LN,lnT];omega)) | refine zC default ?_ (by first | omega | (simp only [LN,lnT];omega)) | refine qI ?_ (by first | decide | omega | assumption | (simp only [LN,lnT];omega))) | ((with_reducible apply zD);(first | exact kv | exact ki)) | ((with_reducible apply zE);(first | exact kv | exact ki);rfl) | ((with_reducible apply zF);(first | exact kv | exact ki)) | (with_reducible first | apply zG | apply zH | apply zI) | ((with_reducible apply zJ);(first | exact ks)) | ((with_reducible show pickE _ _ _);refine qA _ ?_));try simp -dsimp -implicitDefEqProofs (maxSteps:=1000000) (disch:=first | omega | (simp only [LN,lnT];omega)) only [go_sem,lnT])
 )
 all_goals first | (simp [*];done)
end Go.Proofs.YtckhjklcfagkoaaGreatDoor
namespace Go.Proofs.YtckhjklcfagkoaaGreatDoor
set_option maxHeartbeats 4000000
set_option maxRecDepth 100000
open Go Go.Ab
attribute [local irreducible] callK callF loopQ vstep vskip pickE hideP
attribute [local go_sem] rdO rlO lns_len rE rdV
theorem rStep2 (A:Dv) (M:MT) (N:Nat) (h:RInv A M N) (x:Ev) (R:Rng x) (hv:okE x=true) (hk:x.k=2):ACalls Tryz.prog 13 [.loc 0 0,.p (rE x)] [rdO A M 1,rlO A] (.tup [.loc 0 0,.p (.v (.bool (A.stepB x))),.p (.v (.int .i64 (A.stepE x)))]) [rdO (A.step x) (Mv A M x) 1,rlO (A.step x)]:=by
 refine yA (E:=E) (fn:=Tryz.f13) 104 [.tmp 4,.tmp 5,.tmp 6] rfl rfl rfl rfl (by decide) rfl rfl ?_
 have kv:=rValid x (by have:=okE_t hv;unfold okK at this;omega)
 rw [hv] at kv
 have hro:=R.o
 have hrv:=R.v
 have hrw:=R.w
 have h6:=h.wf.n6
 obtain ⟨e,h1,h2⟩:=ev_2 (okE_t hv) hk
 obtain ⟨t,ht⟩:=Int.eq_ofNat_of_zero_le h1
 have ht8:t<8:=by omega
 rw [ht] at e
 generalize x.o=o at *
 generalize x.v=v at *
 generalize x.w=w at *
 subst e
 have e1:A.step ⟨2,(t:Int),o,v,w,0,0,[]⟩=A.cas t o w v:=by unfold Dv.step;rw [hv];rfl
 have e2:A.stepB ⟨2,(t:Int),o,v,w,0,0,[]⟩=A.casB o w:=by unfold Dv.stepB;rw [hv];rfl
 have e3:A.stepE ⟨2,(t:Int),o,v,w,0,0,[]⟩=if (A.cas t o w v).off=true then 3 else if A.isW o=true then 0 else 2:=by unfold Dv.stepE;rw [hv,e1];simp
 have e4:Mv A M ⟨2,(t:Int),o,v,w,0,0,[]⟩=M:=by unfold Mv;rw [hv];simp
 rw [e1,e2,e3,e4]
 clear e1 e2 e3 e4
 have ki:=pIs A M h6 o hro
 have ks:=rCAS A M t ht8 h.wf h.lo h.cu o w v hro
 have ho:=fun e=>cas_offT (A:=A) e t o w v
 have hco:=cas_off (A:=A) (k:=t) (o:=o) (w:=w) (v:=v)
 generalize hB:A.cas t o w v=B at *
 generalize hw:A.isW o=iw at *
 generalize hcb:A.casB o w=cb at *
 repeat' (first
  | (with_reducible first | apply zY | apply zT | apply zM | apply zN | apply zO | refine qK ?_ | (show False;omega))
  | ((with_reducible first | apply zP | apply zQ | apply zR | apply zL)<;>intro h<;>try (exfalso;first | omega | exact h rfl | (revert h;decide) | (cases h;done)))
  | ((first | (with_reducible first | apply zW | apply zV | apply zU | apply zS | apply zX | show VX _ _ _ _ _ _ _ | show vstep _ _ _ _ _ | show vskip _ _ _ | show withV _ _ | apply qN | apply qR | refine zB default ?_ (by first | omega | (simp only [LN,lnT];omega)) (by first | omega | (simp only [LN,lnT];omega)) | refine zC default ?_ (by first | omega | (simp only [LN,lnT];omega)) | refine qI ?_ (by first | decide | omega | assumption | (simp only [LN,lnT];omega))) | ((with_reducible apply zD);(first | exact kv | exact ki)) | ((with_reducible apply zE);(first | exact kv | exact ki);rfl) | ((with_reducible apply zF);(first | exact kv | exact ki)) | (with_reducible first | apply zG | apply zH | apply zI) | ((with_reducible apply zJ);(first | exact ks)) | ((with_reducible show pickE _ _ _);refine qA _ ?_));try simp -dsimp -implicitDefEqProofs (maxSteps:=1000000) (disch:=first | omega | (simp only [LN,lnT];omega)) only [go_sem,lnT])
 )
 all_goals first | (simp [*];done) | (cases cb<;>simp_all;done)
theorem rStep3 (A:Dv) (M:MT) (N:Nat) (h:RInv A M N) (hN:N≤1000000) (x:Ev) (R:Rng x) (hv:okE x=true) (hk:x.k=3):ACalls Tryz.prog 13 [.loc 0 0,.p (rE x)] [rdO A M 1,rlO A] (.tup [.loc 0 0,.p (.v (.bool (A.stepB x))),.p (.v (.int .i64 (A.stepE x)))]) [rdO (A.step x) (Mv A M x) 1,rlO (A.step x)]:=by
 refine yA (E:=E) (fn:=Tryz.f13) 104 [.tmp 4,.tmp 5,.tmp 6] rfl rfl rfl rfl (by decide) rfl rfl ?_
 have kv:=rValid x (by have:=okE_t hv;unfold okK at this;omega)
 rw [hv] at kv
 have hro:=R.o
 have hrv:=R.v
 have hrw:=R.w
 have h6:=h.wf.n6
 obtain ⟨e,h1,h2⟩:=ev_3 (okE_t hv) hk
 obtain ⟨t,ht⟩:=Int.eq_ofNat_of_zero_le h1
 have ht8:t<8:=by omega
 rw [ht] at e
 generalize x.o=o at *
 subst e
 have e1:A.step ⟨3,(t:Int),o,0,0,0,0,[]⟩=A.flush t o:=by unfold Dv.step;rw [hv];rfl
 have e2:A.stepB ⟨3,(t:Int),o,0,0,0,0,[]⟩=false:=by unfold Dv.stepB;rw [hv];rfl
 have e3:A.stepE ⟨3,(t:Int),o,0,0,0,0,[]⟩=if (A.flush t o).off=true then 3 else if A.isB o=true then 0 else 2:=by unfold Dv.stepE;rw [hv,e1];simp
 have e4:Mv A M ⟨3,(t:Int),o,0,0,0,0,[]⟩=flM A M t o:=by unfold Mv;rw [hv];simp
 rw [e1,e2,e3,e4]
 clear e1 e2 e3 e4
 have ki:=pIs A M h6 o hro
 have ks:=rFlush A M N h.nt hN t ht8 h.wf h.lo o hro
 have ho:=fun e=>flush_offT (A:=A) e t o
 have a1:IntKind.u64.wrap (o.tdiv 64)=o / 64:=by rw [Int.tdiv_eq_ediv_of_nonneg hro.1,IntKind.wrap_u64];omega
 have a2:IntKind.u64.wrap (A.n:Int)=A.n:=by rw [IntKind.wrap_u64];omega
 have a3:IntKind.u64.wrap (o / 64)=o / 64:=by rw [IntKind.wrap_u64];omega
 have a4:decide (o / 64<(A.n:Int))=A.isB o:=by unfold Dv.isB;rw [Bool.eq_iff_iff];simp;omega
 generalize hB:A.flush t o=B at *
 generalize hF:flM A M t o=F at *
 generalize hw:A.isB o=iw at *
 repeat' (first
  | (with_reducible first | apply zY | apply zT | apply zM | apply zN | apply zO | refine qK ?_ | (show False;omega))
  | ((with_reducible first | apply zP | apply zQ | apply zR | apply zL)<;>intro h<;>try (exfalso;first | omega | exact h rfl | (revert h;decide) | (cases h;done)))
  | ((first | (with_reducible first | apply zW | apply zV | apply zU | apply zS | apply zX | show VX _ _ _ _ _ _ _ | show vstep _ _ _ _ _ | show vskip _ _ _ | show withV _ _ | apply qN | apply qR | refine zB default ?_ (by first | omega | (simp only [LN,lnT,a1,a2,a3,a4];omega)) (by first | omega | (simp only [LN,lnT,a1,a2,a3,a4];omega)) | refine zC default ?_ (by first | omega | (simp only [LN,lnT,a1,a2,a3,a4];omega)) | refine qI ?_ (by first | decide | omega | assumption | (simp only [LN,lnT,a1,a2,a3,a4];omega))) | ((with_reducible apply zD);(first | exact kv | exact ki)) | ((with_reducible apply zE);(first | exact kv | exact ki);rfl) | ((with_reducible apply zF);(first | exact kv | exact ki)) | (with_reducible first | apply zG | apply zH | apply zI) | ((with_reducible apply zJ);(first | exact ks)) | ((with_reducible show pickE _ _ _);refine qA _ ?_));try simp -dsimp -implicitDefEqProofs (maxSteps:=1000000) (disch:=first | omega | (simp only [LN,lnT,a1,a2,a3,a4];omega)) only [go_sem,lnT,a1,a2,a3,a4])
 )
 all_goals first | (simp [*];done)
theorem rStep4 (A:Dv) (M:MT) (N:Nat) (h:RInv A M N) (hN:N≤1000000) (hno:∀ k,k<8→NoteOk A k) (x:Ev) (R:Rng x) (hv:okE x=true) (hk:x.k=4):ACalls Tryz.prog 13 [.loc 0 0,.p (rE x)] [rdO A M 1,rlO A] (.tup [.loc 0 0,.p (.v (.bool (A.stepB x))),.p (.v (.int .i64 (A.stepE x)))]) [rdO (A.step x) (Mv A M x) 1,rlO (A.step x)]:=by
 refine yA (E:=E) (fn:=Tryz.f13) 104 [.tmp 4,.tmp 5,.tmp 6] rfl rfl rfl rfl (by decide) rfl rfl ?_
 have kv:=rValid x (by have:=okE_t hv;unfold okK at this;omega)
 rw [hv] at kv
 have hro:=R.o
 have hrv:=R.v
 have hrw:=R.w
 have h6:=h.wf.n6
 obtain ⟨e,h1,h2⟩:=ev_4 (okE_t hv) hk
 obtain ⟨t,ht⟩:=Int.eq_ofNat_of_zero_le h1
 have ht8:t<8:=by omega
 rw [ht] at e
 subst e
 have e1:A.step ⟨4,(t:Int),0,0,0,0,0,[]⟩=A.fence t:=by unfold Dv.step;rw [hv];rfl
 have e2:A.stepB ⟨4,(t:Int),0,0,0,0,0,[]⟩=false:=by unfold Dv.stepB;rw [hv];rfl
 have e3:A.stepE ⟨4,(t:Int),0,0,0,0,0,[]⟩=if (A.fence t).off=true then 3 else 0:=by unfold Dv.stepE;rw [hv,e1];simp
 have e4:Mv A M ⟨4,(t:Int),0,0,0,0,0,[]⟩=feM A M t:=by unfold Mv;rw [hv];simp
 rw [e1,e2,e3,e4]
 clear e1 e2 e3 e4
 have ki:=pIs A M h6 0 (by omega)
 have ks:=rFence A M N h.nt hN t ht8 h.wf h.lo (hno t ht8)
 have ho:=fun e=>fence_offT (A:=A) e t
 generalize hB:A.fence t=B at *
 generalize hF:feM A M t=F at *
 repeat' (first
  | (with_reducible first | apply zY | apply zT | apply zM | apply zN | apply zO | refine qK ?_ | (show False;omega))
  | ((with_reducible first | apply zP | apply zQ | apply zR | apply zL)<;>intro h<;>try (exfalso;first | omega | exact h rfl | (revert h;decide) | (cases h;done)))
  | ((first | (with_reducible first | apply zW | apply zV | apply zU | apply zS | apply zX | show VX _ _ _ _ _ _ _ | show vstep _ _ _ _ _ | show vskip _ _ _ | show withV _ _ | apply qN | apply qR | refine zB default ?_ (by first | omega | (simp only [LN,lnT];omega)) (by first | omega | (simp only [LN,lnT];omega)) | refine zC default ?_ (by first | omega | (simp only [LN,lnT];omega)) | refine qI ?_ (by first | decide | omega | assumption | (simp only [LN,lnT];omega))) | ((with_reducible apply zD);(first | exact kv | exact ki)) | ((with_reducible apply zE);(first | exact kv | exact ki);rfl) | ((with_reducible apply zF);(first | exact kv | exact ki)) | (with_reducible first | apply zG | apply zH | apply zI) | ((with_reducible apply zJ);(first | exact ks)) | ((with_reducible show pickE _ _ _);refine qA _ ?_));try simp -dsimp -implicitDefEqProofs (maxSteps:=1000000) (disch:=first | omega | (simp only [LN,lnT];omega)) only [go_sem,lnT])
 )
 all_goals first | (simp [*];done)
theorem rStep5 (A:Dv) (M:MT) (N:Nat) (h:RInv A M N) (x:Ev) (R:Rng x) (hv:okE x=true) (hk:x.k=5):ACalls Tryz.prog 13 [.loc 0 0,.p (rE x)] [rdO A M 1,rlO A] (.tup [.loc 0 0,.p (.v (.bool (A.stepB x))),.p (.v (.int .i64 (A.stepE x)))]) [rdO (A.step x) (Mv A M x) 1,rlO (A.step x)]:=by
 refine yA (E:=E) (fn:=Tryz.f13) 104 [.tmp 4,.tmp 5,.tmp 6] rfl rfl rfl rfl (by decide) rfl rfl ?_
 have kv:=rValid x (by have:=okE_t hv;unfold okK at this;omega)
 rw [hv] at kv
 have hro:=R.o
 have hrv:=R.v
 have hrw:=R.w
 have h6:=h.wf.n6
 obtain ⟨e,h1,h2⟩:=ev_5 (okE_t hv) hk
 generalize x.ln=ln at *
 generalize x.n=n at *
 subst e
 have e1:A.step ⟨5,0,0,0,0,ln,n,[]⟩=A.wb ln n:=by unfold Dv.step;rw [hv];rfl
 have e2:A.stepB ⟨5,0,0,0,0,ln,n,[]⟩=A.wbB ln n:=by unfold Dv.stepB;rw [hv];rfl
 have e3:A.stepE ⟨5,0,0,0,0,ln,n,[]⟩=0:=by unfold Dv.stepE;rw [hv];simp
 have e4:Mv A M ⟨5,0,0,0,0,ln,n,[]⟩=M:=by unfold Mv;rw [hv];simp
 rw [e1,e2,e3,e4]
 clear e1 e2 e3 e4
 have ki:=pIs A M h6 0 (by omega)
 by_cases hb:A.wbB ln n=true
 ·rw [show A.wb ln n=A.persist ln.toNat n.toNat from if_pos hb,hb]
  unfold Dv.wbB at hb
  simp only [Bool.and_eq_true,decide_eq_true_eq,Bool.not_eq_true'] at hb
  have ks:=rWB1 A M h.wf ln.toNat n.toNat hb.1 (by omega) (by omega)
  rw [show ((ln.toNat:Nat):Int)=ln by omega,show ((n.toNat:Nat):Int)=n by omega] at ks
  repeat' (first
   | (with_reducible first | apply zY | apply zT | apply zM | apply zN | apply zO | refine qK ?_ | (show False;omega))
   | ((with_reducible first | apply zP | apply zQ | apply zR | apply zL)<;>intro h<;>try (exfalso;first | omega | exact h rfl | (revert h;decide) | (cases h;done)))
   | ((first | (with_reducible first | apply zW | apply zV | apply zU | apply zS | apply zX | show VX _ _ _ _ _ _ _ | show vstep _ _ _ _ _ | show vskip _ _ _ | show withV _ _ | apply qN | apply qR | refine zB default ?_ (by first | omega | (simp only [LN,lnT];omega)) (by first | omega | (simp only [LN,lnT];omega)) | refine zC default ?_ (by first | omega | (simp only [LN,lnT];omega)) | refine qI ?_ (by first | decide | omega | assumption | (simp only [LN,lnT];omega))) | ((with_reducible apply zD);(first | exact kv | exact ki)) | ((with_reducible apply zE);(first | exact kv | exact ki);rfl) | ((with_reducible apply zF);(first | exact kv | exact ki)) | (with_reducible first | apply zG | apply zH | apply zI) | ((with_reducible apply zJ);(first | exact ks)) | ((with_reducible show pickE _ _ _);refine qA _ ?_));try simp -dsimp -implicitDefEqProofs (maxSteps:=1000000) (disch:=first | omega | (simp only [LN,lnT];omega)) only [go_sem,lnT])
  )
 ·simp only [Bool.not_eq_true] at hb
  have ks:=rWB0 A M h.wf ln n hb
  rw [show A.wb ln n=A from by unfold Dv.wb;rw [hb];rfl,hb]
  repeat' (first
   | (with_reducible first | apply zY | apply zT | apply zM | apply zN | apply zO | refine qK ?_ | (show False;omega))
   | ((with_reducible first | apply zP | apply zQ | apply zR | apply zL)<;>intro h<;>try (exfalso;first | omega | exact h rfl | (revert h;decide) | (cases h;done)))
   | ((first | (with_reducible first | apply zW | apply zV | apply zU | apply zS | apply zX | show VX _ _ _ _ _ _ _ | show vstep _ _ _ _ _ | show vskip _ _ _ | show withV _ _ | apply qN | apply qR | refine zB default ?_ (by first | omega | (simp only [LN,lnT];omega)) (by first | omega | (simp only [LN,lnT];omega)) | refine zC default ?_ (by first | omega | (simp only [LN,lnT];omega)) | refine qI ?_ (by first | decide | omega | assumption | (simp only [LN,lnT];omega))) | ((with_reducible apply zD);(first | exact kv | exact ki)) | ((with_reducible apply zE);(first | exact kv | exact ki);rfl) | ((with_reducible apply zF);(first | exact kv | exact ki)) | (with_reducible first | apply zG | apply zH | apply zI) | ((with_reducible apply zJ);(first | exact ks)) | ((with_reducible show pickE _ _ _);refine qA _ ?_));try simp -dsimp -implicitDefEqProofs (maxSteps:=1000000) (disch:=first | omega | (simp only [LN,lnT];omega)) only [go_sem,lnT])
  )
theorem rStep6 (A:Dv) (M:MT) (N:Nat) (h:RInv A M N) (x:Ev) (R:Rng x) (hv:okE x=true) (hk:x.k=6):ACalls Tryz.prog 13 [.loc 0 0,.p (rE x)] [rdO A M 1,rlO A] (.tup [.loc 0 0,.p (.v (.bool (A.stepB x))),.p (.v (.int .i64 (A.stepE x)))]) [rdO (A.step x) (Mv A M x) 1,rlO (A.step x)]:=by
 refine yA (E:=E) (fn:=Tryz.f13) 104 [.tmp 4,.tmp 5,.tmp 6] rfl rfl rfl rfl (by decide) rfl rfl ?_
 have kv:=rValid x (by have:=okE_t hv;unfold okK at this;omega)
 rw [hv] at kv
 have hro:=R.o
 have hrv:=R.v
 have hrw:=R.w
 have h6:=h.wf.n6
 obtain ⟨e,h1,h2⟩:=ev_6 (okE_t hv) hk
 generalize x.n=n at *
 subst e
 have e1:A.step ⟨6,0,0,0,0,0,n,[]⟩=A.arm n:=by unfold Dv.step;rw [hv];rfl
 have e2:A.stepB ⟨6,0,0,0,0,0,n,[]⟩=false:=by unfold Dv.stepB;rw [hv];rfl
 have e3:A.stepE ⟨6,0,0,0,0,0,n,[]⟩=0:=by unfold Dv.stepE;rw [hv];simp
 have e4:Mv A M ⟨6,0,0,0,0,0,n,[]⟩=M:=by unfold Mv;rw [hv];simp
 rw [e1,e2,e3,e4]
 clear e1 e2 e3 e4
 have ki:=pIs A M h6 0 (by omega)
 have ks:=rArm A M n
 generalize hB:A.arm n=B at *
 repeat' (first
  | (with_reducible first | apply zY | apply zT | apply zM | apply zN | apply zO | refine qK ?_ | (show False;omega))
  | ((with_reducible first | apply zP | apply zQ | apply zR | apply zL)<;>intro h<;>try (exfalso;first | omega | exact h rfl | (revert h;decide) | (cases h;done)))
  | ((first | (with_reducible first | apply zW | apply zV | apply zU | apply zS | apply zX | show VX _ _ _ _ _ _ _ | show vstep _ _ _ _ _ | show vskip _ _ _ | show withV _ _ | apply qN | apply qR | refine zB default ?_ (by first | omega | (simp only [LN,lnT];omega)) (by first | omega | (simp only [LN,lnT];omega)) | refine zC default ?_ (by first | omega | (simp only [LN,lnT];omega)) | refine qI ?_ (by first | decide | omega | assumption | (simp only [LN,lnT];omega))) | ((with_reducible apply zD);(first | exact kv | exact ki)) | ((with_reducible apply zE);(first | exact kv | exact ki);rfl) | ((with_reducible apply zF);(first | exact kv | exact ki)) | (with_reducible first | apply zG | apply zH | apply zI) | ((with_reducible apply zJ);(first | exact ks)) | ((with_reducible show pickE _ _ _);refine qA _ ?_));try simp -dsimp -implicitDefEqProofs (maxSteps:=1000000) (disch:=first | omega | (simp only [LN,lnT];omega)) only [go_sem,lnT])
 )
end Go.Proofs.YtckhjklcfagkoaaGreatDoor
namespace Go.Proofs.YtckhjklcfagkoaaGreatDoor
set_option maxHeartbeats 4000000
set_option maxRecDepth 100000
open Go Go.Ab
attribute [local irreducible] callK callF loopQ vstep vskip pickE hideP
attribute [local go_sem] rdO rlO lns_len rE rdV
theorem rStep7 (A:Dv) (M:MT) (N:Nat) (h:RInv A M N) (x:Ev) (hv:okE x=true) (hk:x.k=7):ACalls Tryz.prog 13 [.loc 0 0,.p (rE x)] [rdO A M 1,rlO A] (.tup [.loc 2 0,.p (.v (.bool false)),.p (.v (.int .i64 0))]) [rdO A M 1,rlO A,rdO (A.step x) (fun _=>[]) 3,rlO (A.step x)]:=by
 refine yA (E:=E) (fn:=Tryz.f13) 104 [.tmp 4,.tmp 5,.tmp 6] rfl rfl rfl rfl (by decide) rfl rfl ?_
 have kv:=rValid x (by have:=okE_t hv;unfold okK at this;omega)
 rw [hv] at kv
 obtain ⟨e,h1⟩:=ev_7 (okE_t hv) hk
 generalize x.ch=ch at *
 subst e
 have e1:A.step ⟨7,0,0,0,0,0,0,ch⟩=A.crash ch:=by unfold Dv.step;rw [hv];rfl
 have h6:=h.wf.n6
 have h0:=h.wf.n0
 have ki:=pIs A M h6 0 (by omega)
 have kI:=rImage A M h.wf h.rg ch (by omega)
 rw [oL_by,byL_pB] at kI
 have hlp:(pB (imgC A ch) (64*A.n)).length=64*A.n:=pB_len _ _
 have kF:=rFrom (pB (imgC A ch) (64*A.n)) A.n hlp ⟨h0,h6⟩
 rw [hlp,show Dv.fresh A.n (fW (pB (imgC A ch) (64*A.n)) (8*A.n) (64*A.n))=A.crash ch from rfl] at kF
 rw [e1]
 generalize pB (imgC A ch) (64*A.n)=p at *
 generalize hB:A.crash ch=B at *
 have hch:ch.map eB=ch.map eC:=rfl
 repeat' (first
  | (with_reducible first | apply zY | apply zT | apply zM | apply zN | apply zO | refine qK ?_ | (show False;omega))
  | ((with_reducible first | apply zP | apply zQ | apply zR | apply zL)<;>intro h<;>try (exfalso;first | omega | exact h rfl | (revert h;decide) | (cases h;done)))
  | ((first | (with_reducible first | apply zW | apply zV | apply zU | apply zS | apply zX | show VX _ _ _ _ _ _ _ | show vstep _ _ _ _ _ | show vskip _ _ _ | show withV _ _ | apply qN | apply qR | refine zB default ?_ (by first | omega | (simp only [LN,lnT,hch];omega)) (by first | omega | (simp only [LN,lnT,hch];omega)) | refine zC default ?_ (by first | omega | (simp only [LN,lnT,hch];omega)) | refine qI ?_ (by first | decide | omega | assumption | (simp only [LN,lnT,hch];omega))) | ((with_reducible apply zD);(first | exact kv | exact ki)) | ((with_reducible apply zE);(first | exact kv | exact ki);rfl) | ((with_reducible apply zF);(first | exact kv | exact ki)) | (with_reducible first | apply zG | apply zH | apply zI) | ((with_reducible apply zJ);(first | exact kI | exact kF)) | ((with_reducible show pickE _ _ _);refine qA _ ?_));try simp -dsimp -implicitDefEqProofs (maxSteps:=1000000) (disch:=first | omega | (simp only [LN,lnT,hch];omega)) only [go_sem,lnT,hch])
 )
end Go.Proofs.YtckhjklcfagkoaaGreatDoor
