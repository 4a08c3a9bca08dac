/- Contracts of functions of this program, and the plain facts that they rest on. No conditions. -/
import Derived.Test.YtckhjklcfagkoaaGreatDoorJRvDQ
import Derived.Test.YtckhjklcfagkoaaGreatDoorJDvR0Q
set_option linter.unusedSimpArgs false
set_option linter.unusedVariables false
namespace Go.Proofs.YtckhjklcfagkoaaGreatDoor
set_option maxHeartbeats 4000000
set_option maxRecDepth 100000
open Go Go.Ab
attribute [local irreducible] callK callF loopQ vstep vskip pickE hideP
attribute [local go_sem] rdO rlO lns_len eNt
def setOb:ASt→List (Nat × Ob)→ASt
 | s,[]=>s
 | s,(i,o)::r=>setOb ⟨s.n,s.t,setL s.L i (some o)⟩ r
attribute [local go_sem] setOb
theorem r_loopS {P:Program} {nb:Nat} {Q:Exit→ASt→Prop} {n:Nat} {t:List (Nat × Option AV)} {L:List (Option Ob)} {c:Code} {α:Type} (keep:List Nat) (vs:α→Nat→List (Nat × AV)) (obs:α→Nat→List (Nat × Ob)) (new:α→List Ob) (tu:α→List (Nat × Ob)) (p:α→Prop) (m:α→Nat) (x₀:α)
  (h0:p x₀) (hs0:Wk nb ⟨n,t,L⟩ (setOb (hdS nb ⟨n,t,L⟩ keep (vs x₀) (obs x₀) (new x₀)) (tu x₀))) (I:α→ASt) (hI:∀ x,setOb (hdS nb ⟨n,t,L⟩ keep (vs x) (obs x) (new x)) (tu x)=I x)
  (round:∀ x,p x→awp P nb c (loopQ nb I p m x Q) (I x)):awp P nb (.loop c) Q ⟨n,t,L⟩ :=
 r_loop I p m x₀ h0 (by rw [← hI];exact hs0) round
def SL (L:List (Nat × Int)) (i:Nat):Nat→Prop:=fun r=>∃ p,p∈L.take i∧p.1=r
theorem SL_0 (L:List (Nat × Int)) (r:Nat):¬ SL L 0 r:=by rintro ⟨p,h,_⟩;simp at h
theorem SL_s {L:List (Nat × Int)} {i:Nat} (h:i<L.length) (r:Nat):SL L (i+1) r↔SL L i r∨r=(L.getD i default).1:=by
 unfold SL
 rw [yE default h]
 constructor
 ·rintro ⟨p,h1,h2⟩
  rcases List.mem_append.1 h1 with h1 | h1
  ·exact .inl ⟨p,h1,h2⟩
  ·rw [List.mem_singleton] at h1;subst h1;exact .inr h2.symm
 ·rintro (⟨p,h1,h2⟩ | rfl)
  ·exact ⟨p,List.mem_append_left _ h1,h2⟩
  ·exact ⟨_,List.mem_append_right _ (List.mem_singleton.2 rfl),rfl⟩
theorem SL_new {L:List (Nat × Int)} (hp:L.Pairwise fun p q=>p.1≠q.1) {i:Nat} (h:i<L.length):¬ SL L i (L.getD i default).1:=by
 rintro ⟨p,h1,h2⟩
 obtain ⟨j,hj,e⟩:=List.mem_iff_getElem.1 h1
 rw [List.length_take] at hj
 rw [List.getElem_take] at e
 have:=List.pairwise_iff_getElem.1 hp j i (by omega) h (by omega)
 rw [e,h2] at this
 simp [List.getD_eq_getElem?_getD,h] at this
def feM (A:Dv) (M:MT) (k:Nat):MT:=if A.cntB true=true then upd M k [] else M
theorem fencS_SL {A B:Dv} {M:MT} {N k:Nat} (hM:NtOk A M N) (hk:k<8) (hb:B.note=A.note):fencS B k (SL (M k) (M k).length)=fencS B k (fun _=>True):=by
 refine fencS_eq fun r=>?_
 rw [if_pos trivial]
 split
 ·rfl
 ·rename_i hs
  unfold kF
  split
  ·rename_i v hv
   rw [hb] at hv
   obtain ⟨p,h1,h2⟩:=hM.b k hk _ _ hv
   simp only [Value.int.injEq,true_and] at h2
   exact absurd ⟨p,by rw [List.take_length];exact h1,by omega⟩ hs
  ·rfl
theorem SL_is {A B:Dv} {M:MT} {N k:Nat} (hM:NtOk A M N) (hk:k<8) (hb:B.note=A.note) (hB:WF B) (hn:NoteOk B k) {L:List (Nat × Int)} (hL:L=M k) {i:Nat} (hi:i<L.length) {D:Dv} (hD:D=fencS B k (SL L i)) :
  ∃ (q:Nat) (v:Int),L.getD i default=(q,v)∧q<B.n∧D.done q=B.done q∧D.hist q=B.hist q∧0≤v∧v≤B.done q+(B.hist q).length∧kF B k q=(v - B.done q).toNat∧D.persist q (kF B k q)=fencS B k (SL L (i+1)):=by
 have hm:L.getD i default∈M k:=by rw [← hL];simp [List.getD_eq_getElem?_getD,hi]
 have hnew:=SL_new (by rw [hL];exact hM.c k hk) hi
 have hs:=SL_s hi
 generalize L.getD i default=p at *
 obtain ⟨q,v⟩:=p
 have ha:=hM.a k hk _ hm
 rw [← hb] at ha
 obtain ⟨r,h1,h2,h3,h4⟩:=hn _ _ ha
 simp only [Value.int.injEq,true_and] at h2
 have:r=q:=by omega
 subst this
 have e1:D.done r=B.done r:=by rw [hD];exact if_neg hnew
 have e2:D.hist r=B.hist r:=by rw [hD];exact if_neg hnew
 refine ⟨r,v,rfl,h1,e1,e2,h3,h4,by unfold kF;rw [ha],?_⟩
 rw [hD];exact fencS_step hB hn h1 hnew hs
theorem rFence (A:Dv) (M:MT) (N:Nat) (hM:NtOk A M N) (hN:N≤1000000) (k:Nat) (hk:k<8) (h:WF A) (hL:LO A) (hn:NoteOk A k):ACalls Tryz.prog 47 [.loc 0 0,.p (.v (.int .i64 k))] [rdO A M 1,rlO A] (.p (.tup [])) [rdO (A.fence k) (feM A M k) 1,rlO (A.fence k)]:=by
 refine yA (E:=E) (fn:=Tryz.f47) 47 [] rfl rfl rfl rfl (by decide) rfl rfl ?_
 have kc:=rCnt A M k hk true hL
 by_cases hc:A.cntB true=true
 ·have hcp:=cnt_p A k true
  have hf:A.fence k={ fencS (A.cnt k true) k (fun _=>True) with note:=upd (A.cnt k true).note k (fun _=>none) }:=if_pos hc
  have hBw:WF (A.cnt k true):=h.cnt _ _
  have hnB:NoteOk (A.cnt k true) k:=by
   intro x v hx
   rw [hcp.2.2.2.2.2] at hx
   rw [hcp.1,hcp.2.2.2.1,hcp.2.2.2.2.1]
   exact hn x v hx
  have hbn:(A.cnt k true).note=A.note:=hcp.2.2.2.2.2
  rw [hc] at kc
  rw [hf,show feM A M k=upd M k [] from if_pos hc]
  have hle:=hM.l k hk
  obtain ⟨L,hL2⟩:∃ L,L=M k:=⟨_,rfl⟩
  rw [← hL2] at hle
  have hLl:L.length=(M k).length:=by rw [hL2]
  have hall:=fencS_SL (B:=A.cnt k true) hM hk hbn
  rw [← hL2] at hall
  have hz:=fencS_none hBw (k:=k) (S:=SL L 0) (fun r _ hs=>absurd hs (SL_0 L r)) (fun r _=>SL_0 L r)
  have his:=fun (i:Nat) (hi:i<L.length) (D:Dv) (hD:D=fencS (A.cnt k true) k (SL L i))=>SL_is hM hk hbn hBw hnB hL2 hi hD
  have hwf:=fun (i:Nat)=>wf_fencS hBw hnB (SL L i)
  have hFv:∀ S,(fencS (A.cnt k true) k S).n=(A.cnt k true).n∧(fencS (A.cnt k true) k S).err=(A.cnt k true).err∧(fencS (A.cnt k true) k S).off=(A.cnt k true).off∧(fencS (A.cnt k true) k S).ex=(A.cnt k true).ex∧leftR (fencS (A.cnt k true) k S)=leftR (A.cnt k true):=fun S=>⟨rfl,rfl,rfl,rfl,rfl⟩
  have hlenB:=hBw.len
  obtain ⟨a1,a2,a3,a4,a5,a6⟩:({ fencS (A.cnt k true) k (fun _=>True) with note:=upd (A.cnt k true).note k (fun _=>none) }:Dv).n=(fencS (A.cnt k true) k (fun _=>True)).n∧({ fencS (A.cnt k true) k (fun _=>True) with note:=upd (A.cnt k true).note k (fun _=>none) }:Dv).err=(fencS (A.cnt k true) k (fun _=>True)).err∧({ fencS (A.cnt k true) k (fun _=>True) with note:=upd (A.cnt k true).note k (fun _=>none) }:Dv).off=(fencS (A.cnt k true) k (fun _=>True)).off∧({ fencS (A.cnt k true) k (fun _=>True) with note:=upd (A.cnt k true).note k (fun _=>none) }:Dv).ex=(fencS (A.cnt k true) k (fun _=>True)).ex∧lnsR { fencS (A.cnt k true) k (fun _=>True) with note:=upd (A.cnt k true).note k (fun _=>none) }=lnsR (fencS (A.cnt k true) k (fun _=>True))∧leftR { fencS (A.cnt k true) k (fun _=>True) with note:=upd (A.cnt k true).note k (fun _=>none) }=leftR (fencS (A.cnt k true) k (fun _=>True)):=⟨rfl,rfl,rfl,rfl,rfl,rfl⟩
  generalize ({ fencS (A.cnt k true) k (fun _=>True) with note:=upd (A.cnt k true).note k (fun _=>none) }:Dv)=C at *
  clear hf
  generalize fencS (A.cnt k true) k=F at *
  generalize hB:A.cnt k true=B at *
  have h6:=hBw.n6
  rcases lt8 hk with rfl | rfl | rfl | rfl | rfl | rfl | rfl | rfl
  all_goals
   repeat' (first
    | (with_reducible first | apply zY | apply zT | apply zM | apply zN | apply zO | refine qK ?_ | (show False;omega))
    | ((with_reducible first | apply zP | apply zQ | apply zR | apply zL)<;>intro h<;>try (exfalso;first | omega | exact h rfl | (revert h;decide) | (cases h;done)))
    | ((first | (with_reducible first | apply zW | apply zV | apply zU | apply zS | apply zX | show VX _ _ _ _ _ _ _ | show vstep _ _ _ _ _ | show vskip _ _ _ | show withV _ _ | apply qN | apply qR | refine zB default ?_ | refine zC default ?_ | refine qI ?_) | (with_reducible first | apply zG | apply zH | apply zI) | ((with_reducible apply zJ);(first | exact kc)) | ((with_reducible show pickE _ _ _);refine qA _ ?_));try simp -dsimp -implicitDefEqProofs (maxSteps:=1000000) (disch:=first | omega | (simp only [LN];omega)) only [go_sem])
   )
   refine r_loopS (α:=Nat × Dv) [0,1,16,17] (fun x b=>[(18,aI x.1)]) (fun x b=>[]) (fun x=>[]) (fun x=>[(0,rdO x.2 M 1),(1,rlO x.2)]) (fun x=>x.1≤L.length∧x.2=F (SL L x.1)) (fun x=>L.length - x.1) ((0,B)) ?_ ?_ ?_ ?_ ?_
   rotate_left 3
   ·intro x;(simp -dsimp -implicitDefEqProofs (maxSteps:=1000000) (disch:=first | omega | (simp only [LN];omega)) only [go_sem])<;>exact rfl
   rotate_left 2
   ·refine wk_auto ?_;(simp -dsimp -implicitDefEqProofs (maxSteps:=1000000) (disch:=first | omega | (simp only [LN];omega)) only [go_sem])<;>(try omega)
   rotate_left 1
   ·exact ⟨Nat.zero_le _,hz.symm⟩
   ·rintro ⟨i,D⟩ ⟨hi,hD⟩
    simp only at hi hD
    have w3:IntKind.i64.wrap ((i:Int)+1)=((i+1:Nat):Int):=by rw [IntKind.wrap_i64];push_cast;omega
    have hDw:WF D:=hD ▸ hwf i
    have hDn:D.n=B.n:=by rw [hD];exact (hFv _).1
    repeat' ((fail_if_success (with_reducible show awp _ _ (Code.region 3 _ _) _ _));first
     | (with_reducible first | apply zY | apply zT | apply zM | apply zN | apply zO | refine qK ?_ | (show False;omega))
     | ((with_reducible first | apply zP | apply zQ | apply zR | apply zL)<;>intro h<;>try (exfalso;first | omega | exact h rfl | (revert h;decide) | (cases h;done)))
     | ((first | (with_reducible first | apply zW | apply zV | apply zU | apply zS | apply zX | show VX _ _ _ _ _ _ _ | show vstep _ _ _ _ _ | show vskip _ _ _ | show withV _ _ | apply qN | apply qR | refine zB default ?_ (by first | omega | (simp only [LN,hLl];omega)) (by first | omega | (simp only [LN,hLl];omega)) | refine zC default ?_ (by first | omega | (simp only [LN,hLl];omega)) | refine qI ?_ (by first | decide | omega | assumption | (simp only [LN,hLl];omega))) | ((with_reducible show pickE _ _ _);refine qA _ ?_));try simp -dsimp -implicitDefEqProofs (maxSteps:=1000000) (disch:=first | omega | (simp only [LN,hLl];omega)) only [go_sem,hLl])
    )
    ·have hil:i<L.length:=by omega
     obtain ⟨q,v,hp,hq,hd,hh,hv0,hv1,hkf,hst⟩:=his i hil D hD
     rw [hL2] at hp
     have hlq:=hlenB q (by omega)
     have hg:=lns_get D (r:=q) (by omega)
     rw [← hd] at hkf hv1
     have w1:IntKind.i64.wrap (v - D.done q)=v - D.done q:=by rw [IntKind.wrap_i64];omega
     have w2:IntKind.i64.wrap (q:Int)=q:=by rw [IntKind.wrap_i64];omega
     by_cases hgt:D.done q<v
     ·have hkp:((v - D.done q).toNat:Int)=v - D.done q:=by omega
      rw [hkf] at hst
      have kp:=rPer D M hDw q (v - D.done q).toNat (by omega) (by rw [hh];omega)
      rw [hkp] at kp
      repeat' (first
       | (with_reducible first | apply zY | apply zT | apply zM | apply zN | apply zO | refine qK ?_ | (show False;omega))
       | ((with_reducible first | apply zP | apply zQ | apply zR | apply zL)<;>intro h<;>try (exfalso;first | omega | exact h rfl | (revert h;decide) | (cases h;done)))
       | ((first | (with_reducible first | apply zW | apply zV | apply zU | apply zS | apply zX | show VX _ _ _ _ _ _ _ | show vstep _ _ _ _ _ | show vskip _ _ _ | show withV _ _ | apply qN | apply qR | refine zB default ?_ (by first | omega | (simp only [LN,hp,hg,lnP,w1,w2,w3];omega)) (by first | omega | (simp only [LN,hp,hg,lnP,w1,w2,w3];omega)) | refine zC default ?_ (by first | omega | (simp only [LN,hp,hg,lnP,w1,w2,w3];omega)) | refine qI ?_ (by first | decide | omega | assumption | (simp only [LN,hp,hg,lnP,w1,w2,w3];omega))) | (with_reducible first | apply zG | apply zH | apply zI) | ((with_reducible apply zJ);(first | exact kp)) | ((with_reducible show pickE _ _ _);refine qA _ ?_));try simp -dsimp -implicitDefEqProofs (maxSteps:=1000000) (disch:=first | omega | (simp only [LN,hp,hg,lnP,w1,w2,w3];omega)) only [go_sem,hp,hg,lnP,w1,w2,w3])
      )
      (refine zZ ((i+1,D.persist q (v - D.done q).toNat)) ?_ ?_ ?_;(exact ⟨hil,hst⟩);(show _<_;omega);(simp -dsimp -implicitDefEqProofs (maxSteps:=1000000) (disch:=first | omega | (simp only [LN];omega)) only [go_sem];try trivial))
     ·rw [hkf,show (v - D.done q).toNat=0 by omega,persist_0] at hst
      repeat' (first
       | (with_reducible first | apply zY | apply zT | apply zM | apply zN | apply zO | refine qK ?_ | (show False;omega))
       | ((with_reducible first | apply zP | apply zQ | apply zR | apply zL)<;>intro h<;>try (exfalso;first | omega | exact h rfl | (revert h;decide) | (cases h;done)))
       | ((first | (with_reducible first | apply zW | apply zV | apply zU | apply zS | apply zX | show VX _ _ _ _ _ _ _ | show vstep _ _ _ _ _ | show vskip _ _ _ | show withV _ _ | apply qN | apply qR | refine zB default ?_ (by first | omega | (simp only [LN,hp,hg,lnP,w1,w2,w3];omega)) (by first | omega | (simp only [LN,hp,hg,lnP,w1,w2,w3];omega)) | refine zC default ?_ (by first | omega | (simp only [LN,hp,hg,lnP,w1,w2,w3];omega)) | refine qI ?_ (by first | decide | omega | assumption | (simp only [LN,hp,hg,lnP,w1,w2,w3];omega))) | ((with_reducible show pickE _ _ _);refine qA _ ?_));try simp -dsimp -implicitDefEqProofs (maxSteps:=1000000) (disch:=first | omega | (simp only [LN,hp,hg,lnP,w1,w2,w3];omega)) only [go_sem,hp,hg,lnP,w1,w2,w3])
      )
      (refine zZ ((i+1,D)) ?_ ?_ ?_;(exact ⟨hil,hst⟩);(show _<_;omega);(simp -dsimp -implicitDefEqProofs (maxSteps:=1000000) (disch:=first | omega | (simp only [LN];omega)) only [go_sem];try trivial))
    ·have hil:i=L.length:=by omega
     subst hil
     rw [hall] at hD
     obtain ⟨b1,b2,b3,b4,b5⟩:=hFv (fun _=>True)
     rw [← hD] at b1 b2 b3 b4 b5 a1 a2 a3 a4 a5 a6
     repeat' (first
      | (with_reducible first | apply zY | apply zT | apply zM | apply zN | apply zO | refine qK ?_ | (show False;omega))
      | ((with_reducible first | apply zP | apply zQ | apply zR | apply zL)<;>intro h<;>try (exfalso;first | omega | exact h rfl | (revert h;decide) | (cases h;done)))
      | ((first | (with_reducible first | apply zW | apply zV | apply zU | apply zS | apply zX | show VX _ _ _ _ _ _ _ | show vstep _ _ _ _ _ | show vskip _ _ _ | show withV _ _ | apply qN | apply qR | refine zB default ?_ | refine zC default ?_ | refine qI ?_) | ((with_reducible show pickE _ _ _);refine qA _ ?_));try simp -dsimp -implicitDefEqProofs (maxSteps:=1000000) (disch:=first | omega | (simp only [LN];omega)) only [go_sem])
     )
     simp [upd,a1,a2,a3,a4,a5,a6,b1,b2,b3,b4,b5]
 ·simp only [Bool.not_eq_true] at hc
  rw [hc] at kc
  rw [show A.fence k=A.cnt k true from by unfold Dv.fence;rw [hc];rfl,show feM A M k=M from by unfold feM;rw [hc];rfl]
  repeat' (first
   | (with_reducible first | apply zY | apply zT | apply zM | apply zN | apply zO | refine qK ?_ | (show False;omega))
   | ((with_reducible first | apply zP | apply zQ | apply zR | apply zL)<;>intro h<;>try (exfalso;first | omega | exact h rfl | (revert h;decide) | (cases h;done)))
   | ((first | (with_reducible first | apply zW | apply zV | apply zU | apply zS | apply zX | show VX _ _ _ _ _ _ _ | show vstep _ _ _ _ _ | show vskip _ _ _ | show withV _ _ | apply qN | apply qR | refine zB default ?_ | refine zC default ?_ | refine qI ?_) | (with_reducible first | apply zG | apply zH | apply zI) | ((with_reducible apply zJ);(first | exact kc)) | ((with_reducible show pickE _ _ _);refine qA _ ?_));try simp -dsimp -implicitDefEqProofs (maxSteps:=1000000) (disch:=first | omega | (simp only [LN];omega)) only [go_sem])
  )
end Go.Proofs.YtckhjklcfagkoaaGreatDoor
namespace Go.Proofs.YtckhjklcfagkoaaGreatDoor
set_option maxHeartbeats 4000000
set_option maxRecDepth 100000
open Go Go.Ab
attribute [local irreducible] callK callF loopQ vstep vskip pickE hideP
attribute [local go_sem] rdO rlO lns_len
theorem rDirty (A:Dv) (M:MT) (h:WF A):ACalls Tryz.prog 56 [.loc 0 0] [rdO A M 1,rlO A] (.p (.view 1 ((dirL A A.n).map eNd))) [rdO A M 1,rlO A]:=by
 refine yA (E:=E) (fn:=Tryz.f56) 27 [.tmp 2] rfl rfl rfl rfl (by decide) rfl rfl ?_
 have h6:=h.n6
 repeat' (first
  | (with_reducible first | apply zY | apply zT | apply zM | apply zN | apply zO | refine qK ?_ | (show False;omega))
  | ((with_reducible first | apply zP | apply zQ | apply zR | apply zL)<;>intro h)
  | ((first | (with_reducible first | apply zW | apply zV | apply zU | apply zS | apply zX | show VX _ _ _ _ _ _ _ | show vstep _ _ _ _ _ | show vskip _ _ _ | show withV _ _ | apply qN | apply qR | refine zB default ?_ | refine zC default ?_ | refine qI ?_) | ((with_reducible show pickE _ _ _);refine qA _ ?_));try simp -dsimp -implicitDefEqProofs (maxSteps:=1000000) (disch:=first | omega | (simp only [LN];omega)) only [go_sem])
 )
 refine r_loopA (α:=Nat) [10,11] (fun i b=>[(3,.sl b 1 0 (dirL A i).length),(12,aI i)]) (fun i b=>[]) (fun i=>[.arr 1 ((dirL A i).map eNd)]) (fun i=>i≤A.n) (fun i=>A.n - i) (0) ?h0_1 ?hs0_1 ?I_1 ?hI_1 ?round_1
 case hI_1=>intro x;(simp -dsimp -implicitDefEqProofs (maxSteps:=1000000) (disch:=first | omega | (simp only [LN];omega)) only [go_sem])<;>exact rfl
 case hs0_1=>refine wk_auto ?_;(simp -dsimp -implicitDefEqProofs (maxSteps:=1000000) (disch:=first | omega | (simp only [LN,show dirL A 0=[] from rfl];omega)) only [go_sem,show dirL A 0=[] from rfl])<;>(try omega)
 case h0_1=>exact Nat.zero_le _
 case round_1 =>
  intro i h1
  have hl:=dirL_len A i
  have hs:=dirL_s A i
  by_cases hi:i<A.n
  ·have hg:=lns_get A hi
   by_cases hd:A.hist i=[]
   ·have h0:(A.hist i).length=0:=by rw [hd];rfl
    rw [if_pos hd,List.append_nil] at hs
    repeat' (first
     | (with_reducible first | apply zY | apply zT | apply zM | apply zN | apply zO | refine qK ?_ | (show False;omega))
     | ((with_reducible first | apply zP | apply zQ | apply zR | apply zL)<;>intro h<;>try (exfalso;first | omega | exact h rfl | (revert h;decide) | (cases h;done)))
     | ((first | (with_reducible first | apply zW | apply zV | apply zU | apply zS | apply zX | show VX _ _ _ _ _ _ _ | show vstep _ _ _ _ _ | show vskip _ _ _ | show withV _ _ | apply qN | apply qR | refine zB default ?_ (by first | omega | (simp only [LN,hg,lnP];omega)) (by first | omega | (simp only [LN,hg,lnP];omega)) | refine zC default ?_ (by first | omega | (simp only [LN,hg,lnP];omega)) | refine qI ?_ (by first | decide | omega | assumption | (simp only [LN,hg,lnP];omega))) | ((with_reducible show pickE _ _ _);refine qA _ ?_));try simp -dsimp -implicitDefEqProofs (maxSteps:=1000000) (disch:=first | omega | (simp only [LN,hg,lnP];omega)) only [go_sem,hg,lnP])
    )
    all_goals first | omega | (refine zZ (i+1) ?_ ?_ ?_;(omega);(show _<_;omega);(simp -dsimp -implicitDefEqProofs (maxSteps:=1000000) (disch:=first | omega | (simp only [LN,hs];omega)) only [go_sem,hs];try trivial))
   ·have h0:0<(A.hist i).length:=List.length_pos_iff.2 hd
    rw [if_neg hd] at hs
    repeat' (first
     | (with_reducible first | apply zY | apply zT | apply zM | apply zN | apply zO | refine qK ?_ | (show False;omega))
     | ((with_reducible first | apply zP | apply zQ | apply zR | apply zL)<;>intro h<;>try (exfalso;first | omega | exact h rfl | (revert h;decide) | (cases h;done)))
     | ((first | (with_reducible first | apply zW | apply zV | apply zU | apply zS | apply zX | show VX _ _ _ _ _ _ _ | show vstep _ _ _ _ _ | show vskip _ _ _ | show withV _ _ | apply qN | apply qR | refine zB default ?_ (by first | omega | (simp only [LN,hg,lnP];omega)) (by first | omega | (simp only [LN,hg,lnP];omega)) | refine zC default ?_ (by first | omega | (simp only [LN,hg,lnP];omega)) | refine qI ?_ (by first | decide | omega | assumption | (simp only [LN,hg,lnP];omega))) | ((with_reducible show pickE _ _ _);refine qA _ ?_));try simp -dsimp -implicitDefEqProofs (maxSteps:=1000000) (disch:=first | omega | (simp only [LN,hg,lnP];omega)) only [go_sem,hg,lnP])
    )
    all_goals first | omega | ((refine zZ (i+1) ?_ ?_ ?_;(omega);(show _<_;omega);(simp -dsimp -implicitDefEqProofs (maxSteps:=1000000) (disch:=first | omega | (simp only [LN,hs];omega)) only [go_sem,hs];try trivial));simp [eNd])
  ·obtain rfl:i=A.n:=by omega
   repeat' (first
    | (with_reducible first | apply zY | apply zT | apply zM | apply zN | apply zO | refine qK ?_ | (show False;omega))
    | ((with_reducible first | apply zP | apply zQ | apply zR | apply zL)<;>intro h<;>try (exfalso;first | omega | exact h rfl | (revert h;decide) | (cases h;done)))
    | ((first | (with_reducible first | apply zW | apply zV | apply zU | apply zS | apply zX | show VX _ _ _ _ _ _ _ | show vstep _ _ _ _ _ | show vskip _ _ _ | show withV _ _ | apply qN | apply qR | refine zB default ?_ | refine zC default ?_ | refine qI ?_) | ((with_reducible show pickE _ _ _);refine qA _ ?_));try simp -dsimp -implicitDefEqProofs (maxSteps:=1000000) (disch:=first | omega | (simp only [LN];omega)) only [go_sem])
   )
   all_goals first | omega | rfl
end Go.Proofs.YtckhjklcfagkoaaGreatDoor
namespace Go.Proofs.YtckhjklcfagkoaaGreatDoor
set_option maxHeartbeats 4000000
set_option maxRecDepth 100000
open Go Go.Ab
attribute [local irreducible] callK callF loopQ vstep vskip pickE hideP
attribute [local go_sem] rdO rlO lns_len eNd
def RngL (ws:List Int):Prop:=∀ j,0≤ws.getD j 0∧ws.getD j 0≤18446744073709551615
theorem appL_rng (l:List (Int × Int)) (hl:∀ x,x∈l→0≤x.2∧x.2≤18446744073709551615):∀ ws,RngL ws→RngL (appL ws l):=by
 induction l with
 | nil=>intro ws h;exact h
 | cons x l ih =>
  intro ws h
  refine ih (fun y hy=>hl y (List.mem_cons_of_mem _ hy)) _ fun j=>?_
  have hx:=hl x (List.mem_cons_self ..)
  have hj:=h j
  simp only [List.getD_eq_getElem?_getD,List.getElem?_set] at hj ⊢
  split
  ·split
   ·exact hx
   ·exact ⟨by decide,by decide⟩
  ·exact hj
theorem contS_rng {A:Dv} (h:WF A) (hp:RngL A.per) (f:Nat→Nat):RngL (contS A f):=by
 intro j
 have h6:=h.n6
 rcases Nat.lt_or_ge j (8*A.n) with hj | hj
 ·rw [contS_get _ _ _ hj]
  exact appL_rng _ (fun x hx=>(h.hist _ (by omega) x (List.mem_of_mem_take hx)).2) _ hp j
 ·rw [List.getD_eq_getElem?_getD,List.getElem?_eq_none (by rw [contS_len];exact hj)];exact ⟨by decide,by decide⟩
def kC (A:Dv) (ks:List Nat) (r:Nat):Nat:=if A.hist r=[] then 0 else ks.getD (dirL A r).length 0
def oL (ws:List Int) (N:Nat):List PV:=(List.range N).map fun j=>.v (.int .u8 (byW ws j))
theorem oL_len (ws:List Int) (N:Nat):(oL ws N).length=N:=by simp [oL]
theorem oL_s (ws:List Int) (N:Nat):oL ws (N+1)=oL ws N++[.v (.int .u8 (byW ws N))]:=by simp [oL,List.range_succ]
theorem oL_by (ws:List Int) (N:Nat):oL ws N=byL ws N N:=by
 unfold oL byL
 refine List.map_congr_left fun j hj=>?_
 rw [if_pos (List.mem_range.1 hj)]
theorem byW_256 (ws:List Int) {i m b:Nat} (hb:b<8):byW ws (64*i+8*m+b)=IntKind.u8.wrap (ws.getD (8*i+m) 0 / 256 ^ b):=by
 unfold byW
 rw [show (64*i+8*m+b) / 8=8*i+m by omega,show (64*i+8*m+b) % 8*8=b*8 by omega]
 rcases lt8 hb with rfl | rfl | rfl | rfl | rfl | rfl | rfl | rfl<;>rfl
theorem q256 {W:Int} (h:0≤W∧W≤18446744073709551615) {b:Nat} (hb:b<8):IntKind.u64.wrap ((W / 256 ^ b).tdiv 256)=W / 256 ^ (b+1):=by
 rcases lt8 hb with rfl | rfl | rfl | rfl | rfl | rfl | rfl | rfl
 all_goals
  simp only [Int.reducePow,Nat.reduceAdd]
  rw [Int.tdiv_eq_ediv_of_nonneg (by omega),IntKind.wrap_u64]
  omega
theorem rCont (A:Dv) (M:MT) (h:WF A) (hp:RngL A.per) (ks:List Nat) (hks:ks.length≤1000000) (hk:∀ r,r<A.n→kC A ks r≤(A.hist r).length):ACalls Tryz.prog 54 [.loc 0 0,.p (.view 1 (ks.map eNd))] [rdO A M 1,rlO A] (.p (.view 1 (oL (contS A (kC A ks)) (64*A.n)))) [rdO A M 1,rlO A]:=by
 refine yA (E:=E) (fn:=Tryz.f54) 57 [.tmp 4] rfl rfl rfl rfl (by decide) rfl rfl ?_
 have h6:=h.n6
 have hrg:=contS_rng h hp (kC A ks)
 obtain ⟨ws,hws⟩:∃ ws,ws=contS A (kC A ks):=⟨_,rfl⟩
 rw [← hws]
 rw [← hws] at hrg
 repeat' (first
  | (with_reducible first | apply zY | apply zT | apply zM | apply zN | apply zO | refine qK ?_ | (show False;omega))
  | ((with_reducible first | apply zP | apply zQ | apply zR | apply zL)<;>intro h)
  | ((first | (with_reducible first | apply zW | apply zV | apply zU | apply zS | apply zX | show VX _ _ _ _ _ _ _ | show vstep _ _ _ _ _ | show vskip _ _ _ | show withV _ _ | apply qN | apply qR | refine zB default ?_ | refine zC default ?_ | refine qI ?_) | ((with_reducible show pickE _ _ _);refine qA _ ?_));try simp -dsimp -implicitDefEqProofs (maxSteps:=1000000) (disch:=first | omega | (simp only [LN];omega)) only [go_sem])
 )
 refine r_loopA (α:=Nat) [1,17,18] (fun i b=>[(5,.sl b 1 0 (64*i)),(6,aI (dirL A i).length),(19,aI i)]) (fun i b=>[]) (fun i=>[.arr 1 (oL ws (64*i))]) (fun i=>i≤A.n) (fun i=>A.n - i) (0) ?h0_1 ?hs0_1 ?I_1 ?hI_1 ?round_1
 case hI_1=>intro x;(simp -dsimp -implicitDefEqProofs (maxSteps:=1000000) (disch:=first | omega | (simp only [LN];omega)) only [go_sem])<;>exact rfl
 case hs0_1=>refine wk_auto ?_;(simp -dsimp -implicitDefEqProofs (maxSteps:=1000000) (disch:=first | omega | (simp only [LN,show dirL A 0=[] from rfl,show oL ws (64*0)=[] from rfl];omega)) only [go_sem,show dirL A 0=[] from rfl,show oL ws (64*0)=[] from rfl])<;>(try omega)
 case h0_1=>exact Nat.zero_le _
 case round_1 =>
  intro i h1
  have hl:=dirL_len A i
  have hs:=dirL_s A i
  have ol:=oL_len ws
  by_cases hi:i<A.n
  ·have hg:=lns_get A hi
   have kw:=rWords A h i (kC A ks i) hi (hk i hi)
   have hcw:∀ m,m<8→(appL A.per ((A.hist i).take (kC A ks i))).getD (8*i+m) 0=ws.getD (8*i+m) 0:=by
    intro m hm
    rw [hws,contS_get _ _ _ (by omega),show (8*i+m) / 8=i by omega]
   have w3:IntKind.i64.wrap (((dirL A i).length:Int)+1)=(((dirL A i).length+1:Nat):Int):=by rw [IntKind.wrap_i64];push_cast;omega
   have hcase:((A.hist i).length=0∧kC A ks i=0∧(dirL A (i+1)).length=(dirL A i).length)∨(0<(A.hist i).length∧(dirL A i).length<ks.length∧ks.getD (dirL A i).length default=kC A ks i∧(dirL A (i+1)).length=(dirL A i).length+1)∨(0<(A.hist i).length∧¬ (dirL A i).length<ks.length∧kC A ks i=0∧(dirL A (i+1)).length=(dirL A i).length+1):=by
    by_cases hd:A.hist i=[]
    ·rw [if_pos hd,List.append_nil] at hs
     exact .inl ⟨by rw [hd];rfl,if_pos hd,by rw [hs]⟩
    ·have h0:0<(A.hist i).length:=List.length_pos_iff.2 hd
     rw [if_neg hd] at hs
     have e:kC A ks i=ks.getD (dirL A i).length 0:=if_neg hd
     by_cases hlt:(dirL A i).length<ks.length
     ·exact .inr (.inl ⟨h0,hlt,e.symm,by rw [hs];simp⟩)
     ·exact .inr (.inr ⟨h0,hlt,by rw [e,List.getD_eq_getElem?_getD,List.getElem?_eq_none (by omega)];rfl,by rw [hs];simp⟩)
   have hw:∀ j,j<8→wA (appL A.per ((A.hist i).take (kC A ks i))) i j=wA ws i j:=fun j hj=>by unfold wA;rw [hcw j hj]
   rw [hw 0 (by decide),hw 1 (by decide),hw 2 (by decide),hw 3 (by decide),hw 4 (by decide),hw 5 (by decide),hw 6 (by decide),hw 7 (by decide)] at kw
   clear hw hcw
   generalize kC A ks i=κ at *
   have c3:∀ x:Nat,x=x:=fun _=>rfl
   rcases hcase with ⟨c1,rfl,c4⟩ | ⟨c1,c2,c3,c4⟩ | ⟨c1,c2,rfl,c4⟩
   all_goals
    repeat' (first
     | (with_reducible first | apply zY | apply zT | apply zM | apply zN | apply zO | refine qK ?_ | (show False;omega))
     | ((with_reducible first | apply zP | apply zQ | apply zR | apply zL)<;>intro h<;>try (exfalso;first | omega | exact h rfl | (revert h;decide) | (cases h;done)))
     | ((first | (with_reducible first | apply zW | apply zV | apply zU | apply zS | apply zX | show VX _ _ _ _ _ _ _ | show vstep _ _ _ _ _ | show vskip _ _ _ | show withV _ _ | apply qN | apply qR | refine zB default ?_ (by first | omega | (simp only [LN,hg,lnP,c3,w3];omega)) (by first | omega | (simp only [LN,hg,lnP,c3,w3];omega)) | refine zC default ?_ (by first | omega | (simp only [LN,hg,lnP,c3,w3];omega)) | refine qI ?_ (by first | decide | omega | assumption | (simp only [LN,hg,lnP,c3,w3];omega))) | ((with_reducible apply zD);(exact kw)) | ((with_reducible apply zE);(exact kw);rfl) | ((with_reducible apply zF);(exact kw)) | ((with_reducible show pickE _ _ _);refine qA _ ?_));try simp -dsimp -implicitDefEqProofs (maxSteps:=1000000) (disch:=first | omega | (simp only [LN,hg,lnP,c3,w3];omega)) only [go_sem,hg,lnP,c3,w3])
    )
    refine r_loopA (α:=Nat) [1,6,17,18,19,39] (fun m b=>[(5,.sl b 1 0 (64*i+8*m)),(40,aI m)]) (fun m b=>[]) (fun m=>[.arr 1 (oL ws (64*i+8*m))]) (fun m=>m≤8) (fun m=>8 - m) (0) ?_ ?_ ?_ ?_ ?_
    rotate_left 3
    ·intro x;(simp -dsimp -implicitDefEqProofs (maxSteps:=1000000) (disch:=first | omega | (simp only [LN];omega)) only [go_sem])<;>exact rfl
    rotate_left 2
    ·refine wk_auto ?_;(simp -dsimp -implicitDefEqProofs (maxSteps:=1000000) (disch:=first | omega | (simp only [LN,Nat.mul_zero,Nat.add_zero,ol];omega)) only [go_sem,Nat.mul_zero,Nat.add_zero,ol])<;>(try omega)
    rotate_left 1
    ·exact Nat.zero_le _
    ·intro m hm
     by_cases hm8:m<8
     ·have hWr:=hrg (8*i+m)
      have w4:IntKind.i64.wrap ((m:Int)+1)=((m+1:Nat):Int):=by rw [IntKind.wrap_i64];push_cast;omega
      repeat' (first
       | (with_reducible first | apply zY | apply zT | apply zM | apply zN | apply zO | refine qK ?_ | (show False;omega))
       | ((with_reducible first | apply zP | apply zQ | apply zR | apply zL)<;>intro h<;>try (exfalso;first | omega | exact h rfl | (revert h;decide) | (cases h;done)))
       | ((first | (with_reducible first | apply zW | apply zV | apply zU | apply zS | apply zX | show VX _ _ _ _ _ _ _ | show vstep _ _ _ _ _ | show vskip _ _ _ | show withV _ _ | apply qN | apply qR | refine zB default ?_ | refine zC default ?_ | refine qI ?_) | ((with_reducible show pickE _ _ _);refine qA _ ?_));try simp -dsimp -implicitDefEqProofs (maxSteps:=1000000) (disch:=first | omega | (simp only [LN];omega)) only [go_sem])
      )
      refine ⟨.p (wA ws i m),by rcases lt8 hm8 with rfl | rfl | rfl | rfl | rfl | rfl | rfl | rfl<;>rfl,?_⟩
      simp -dsimp -implicitDefEqProofs (maxSteps:=1000000) (disch:=first | omega | (simp only [LN,wA];omega)) only [go_sem,wA]
      have hb:=fun b (hb:b<8)=>byW_256 ws (i:=i) (m:=m) hb
      generalize ws.getD (8*i+m) 0=W at *
      repeat' (first
       | (with_reducible first | apply zY | apply zT | apply zM | apply zN | apply zO | refine qK ?_ | (show False;omega))
       | ((with_reducible first | apply zP | apply zQ | apply zR | apply zL)<;>intro h<;>try (exfalso;first | omega | exact h rfl | (revert h;decide) | (cases h;done)))
       | ((first | (with_reducible first | apply zW | apply zV | apply zU | apply zS | apply zX | show VX _ _ _ _ _ _ _ | show vstep _ _ _ _ _ | show vskip _ _ _ | show withV _ _ | apply qN | apply qR | refine zB default ?_ | refine zC default ?_ | refine qI ?_) | ((with_reducible show pickE _ _ _);refine qA _ ?_));try simp -dsimp -implicitDefEqProofs (maxSteps:=1000000) (disch:=first | omega | (simp only [LN];omega)) only [go_sem])
      )
      refine r_loopA (α:=Nat) [1,6,17,18,19,39,40] (fun b2 b=>[(5,.sl b 1 0 (64*i+8*m+b2)),(11,.p (.v (.int .u64 (W / 256 ^ b2)))),(12,aI b2)]) (fun b2 b=>[]) (fun b2=>[.arr 1 (oL ws (64*i+8*m+b2))]) (fun b2=>b2≤8) (fun b2=>8 - b2) (0) ?_ ?_ ?_ ?_ ?_
      rotate_left 3
      ·intro x;(simp -dsimp -implicitDefEqProofs (maxSteps:=1000000) (disch:=first | omega | (simp only [LN];omega)) only [go_sem])<;>exact rfl
      rotate_left 2
      ·refine wk_auto ?_;(simp -dsimp -implicitDefEqProofs (maxSteps:=1000000) (disch:=first | omega | (simp only [LN,Nat.add_zero,Int.pow_zero,Int.ediv_one];omega)) only [go_sem,Nat.add_zero,Int.pow_zero,Int.ediv_one])<;>(try omega)
      rotate_left 1
      ·exact Nat.zero_le _
      ·intro b2 hb2
       by_cases hb8:b2<8
       ·have e1:=q256 hWr hb8
        have e2:=oL_s ws (64*i+8*m+b2)
        rw [hb b2 hb8] at e2
        have w5:IntKind.i64.wrap ((b2:Int)+1)=((b2+1:Nat):Int):=by rw [IntKind.wrap_i64];push_cast;omega
        have o4:=ol (64*i+8*m+b2)
        repeat' (first
         | (with_reducible first | apply zY | apply zT | apply zM | apply zN | apply zO | refine qK ?_ | (show False;omega))
         | ((with_reducible first | apply zP | apply zQ | apply zR | apply zL)<;>intro h<;>try (exfalso;first | omega | exact h rfl | (revert h;decide) | (cases h;done)))
         | ((first | (with_reducible first | apply zW | apply zV | apply zU | apply zS | apply zX | show VX _ _ _ _ _ _ _ | show vstep _ _ _ _ _ | show vskip _ _ _ | show withV _ _ | apply qN | apply qR | refine zB default ?_ (by first | omega | (simp only [LN,e1,w5];omega)) (by first | omega | (simp only [LN,e1,w5];omega)) | refine zC default ?_ (by first | omega | (simp only [LN,e1,w5];omega)) | refine qI ?_ (by first | decide | omega | assumption | (simp only [LN,e1,w5];omega))) | ((with_reducible show pickE _ _ _);refine qA _ ?_));try simp -dsimp -implicitDefEqProofs (maxSteps:=1000000) (disch:=first | omega | (simp only [LN,e1,w5];omega)) only [go_sem,e1,w5])
        )
        all_goals first | omega | ((refine zZ (b2+1) ?_ ?_ ?_;(omega);(show _<_;omega);(simp -dsimp -implicitDefEqProofs (maxSteps:=1000000) (disch:=first | omega | (simp only [LN,e1];omega)) only [go_sem,e1];try trivial));exact ⟨.inl e2.symm,rfl⟩)
       ·obtain rfl:b2=8:=by omega
        repeat' (first
         | (with_reducible first | apply zY | apply zT | apply zM | apply zN | apply zO | refine qK ?_ | (show False;omega))
         | ((with_reducible first | apply zP | apply zQ | apply zR | apply zL)<;>intro h<;>try (exfalso;first | omega | exact h rfl | (revert h;decide) | (cases h;done)))
         | ((first | (with_reducible first | apply zW | apply zV | apply zU | apply zS | apply zX | show VX _ _ _ _ _ _ _ | show vstep _ _ _ _ _ | show vskip _ _ _ | show withV _ _ | apply qN | apply qR | refine zB default ?_ (by first | omega | (simp only [LN,w4];omega)) (by first | omega | (simp only [LN,w4];omega)) | refine zC default ?_ (by first | omega | (simp only [LN,w4];omega)) | refine qI ?_ (by first | decide | omega | assumption | (simp only [LN,w4];omega))) | ((with_reducible show pickE _ _ _);refine qA _ ?_));try simp -dsimp -implicitDefEqProofs (maxSteps:=1000000) (disch:=first | omega | (simp only [LN,w4];omega)) only [go_sem,w4])
        )
        all_goals first | omega | (refine zZ (m+1) ?_ ?_ ?_;(omega);(show _<_;omega);(simp -dsimp -implicitDefEqProofs (maxSteps:=1000000) (disch:=first | omega | (simp only [LN,Nat.mul_add,Nat.mul_one,Nat.add_assoc];omega)) only [go_sem,Nat.mul_add,Nat.mul_one,Nat.add_assoc];try trivial))
     ·obtain rfl:m=8:=by omega
      repeat' (first
       | (with_reducible first | apply zY | apply zT | apply zM | apply zN | apply zO | refine qK ?_ | (show False;omega))
       | ((with_reducible first | apply zP | apply zQ | apply zR | apply zL)<;>intro h<;>try (exfalso;first | omega | exact h rfl | (revert h;decide) | (cases h;done)))
       | ((first | (with_reducible first | apply zW | apply zV | apply zU | apply zS | apply zX | show VX _ _ _ _ _ _ _ | show vstep _ _ _ _ _ | show vskip _ _ _ | show withV _ _ | apply qN | apply qR | refine zB default ?_ | refine zC default ?_ | refine qI ?_) | ((with_reducible show pickE _ _ _);refine qA _ ?_));try simp -dsimp -implicitDefEqProofs (maxSteps:=1000000) (disch:=first | omega | (simp only [LN];omega)) only [go_sem])
      )
      all_goals first | omega | (refine zZ (i+1) ?_ ?_ ?_;(omega);(show _<_;omega);(simp -dsimp -implicitDefEqProofs (maxSteps:=1000000) (disch:=first | omega | (simp only [LN,Nat.mul_add,Nat.mul_one,Nat.reduceMul,c4];omega)) only [go_sem,Nat.mul_add,Nat.mul_one,Nat.reduceMul,c4];try trivial))
  ·obtain rfl:i=A.n:=by omega
   have o1:min (64*A.n) (oL ws (64*A.n)).length=64*A.n:=by rw [ol];exact Nat.min_self _
   have o3:=ol (64*A.n)
   have o2:List.take (64*A.n) (oL ws (64*A.n))=oL ws (64*A.n):=List.take_of_length_le (by rw [ol];exact Nat.le_refl _)
   repeat' (first
    | (with_reducible first | apply zY | apply zT | apply zM | apply zN | apply zO | refine qK ?_ | (show False;omega))
    | ((with_reducible first | apply zP | apply zQ | apply zR | apply zL)<;>intro h<;>try (exfalso;first | omega | exact h rfl | (revert h;decide) | (cases h;done)))
    | ((first | (with_reducible first | apply zW | apply zV | apply zU | apply zS | apply zX | show VX _ _ _ _ _ _ _ | show vstep _ _ _ _ _ | show vskip _ _ _ | show withV _ _ | apply qN | apply qR | refine zB default ?_ (by first | omega | (simp only [LN,o1,o2,o3];omega)) (by first | omega | (simp only [LN,o1,o2,o3];omega)) | refine zC default ?_ (by first | omega | (simp only [LN,o1,o2,o3];omega)) | refine qI ?_ (by first | decide | omega | assumption | (simp only [LN,o1,o2,o3];omega))) | ((with_reducible show pickE _ _ _);refine qA _ ?_));try simp -dsimp -implicitDefEqProofs (maxSteps:=1000000) (disch:=first | omega | (simp only [LN,o1,o2,o3];omega)) only [go_sem,o1,o2,o3])
   )
   all_goals first | omega | rfl
end Go.Proofs.YtckhjklcfagkoaaGreatDoor
