/- Contracts of functions of this program, and the plain facts that they rest on. No conditions. -/
import Derived.Test.YtckhjklcfagkoaaGreatDoorJDvF0Q
import Derived.Test.YtckhjklcfagkoaaGreatDoorJScIQ
set_option linter.unusedSimpArgs false
set_option linter.unusedVariables false
namespace Go.Proofs.YtckhjklcfagkoaaGreatDoor
open Go Go.Ab
attribute [local irreducible] callK callF loopQ vstep vskip pickE hideP
set_option maxRecDepth 100000
@[go_sem high] theorem nthL27 {A:Dv} {J:JT} {r:Nat} (hr:r<6):nth [AV.p (.v (.int .u64 (A.done 0))),.sl 27 2 (jk A J 0).length (A.hist 0).length,AV.p (.v (.int .u64 (A.done 1))),.sl 28 2 (jk A J 1).length (A.hist 1).length,AV.p (.v (.int .u64 (A.done 2))),.sl 29 2 (jk A J 2).length (A.hist 2).length,AV.p (.v (.int .u64 (A.done 3))),.sl 30 2 (jk A J 3).length (A.hist 3).length,AV.p (.v (.int .u64 (A.done 4))),.sl 31 2 (jk A J 4).length (A.hist 4).length,AV.p (.v (.int .u64 (A.done 5))),.sl 32 2 (jk A J 5).length (A.hist 5).length] (r*2)=some (.p (.v (.int .u64 (A.done r)))):=by
 rcases lt6 hr with rfl | rfl | rfl | rfl | rfl | rfl<;>rfl
theorem left_lt {es:Array MapEntry} {seen:Array Nat} {e:MapEntry} (he:e∈(leftOf es seen).toList):(leftOf es (seen.push e.born)).size<(leftOf es seen).size:=by
 obtain ⟨h1,h2⟩:=left_mem he
 have:=filt_lt (fun x:MapEntry=>!seen.contains x.born) (fun x=>!(seen.push e.born).contains x.born) es.toList (fun x _ hx=>by
  simp at hx ⊢
  exact hx.1) e h1 (by simpa using h2) (by simp)
 have e2:∀ s:Array Nat,(leftOf es s).size=(es.toList.filter fun x=>!s.contains x.born).length:=fun s=>by
  rw [← Array.toList_filter,Array.length_toList];rfl
 rw [e2,e2];exact this
open Classical in
theorem fencS_eq {B:Dv} {k:Nat} {S S':Nat→Prop} (h:∀ r,(if S r then kF B k r else 0)=if S' r then kF B k r else 0):fencS B k S=fencS B k S':=by
 refine Dv.ext' rfl ?_ rfl ?_ ?_ rfl rfl rfl rfl rfl rfl
 ·rw [fencS_per,fencS_per,show (fun r=>if S r then kF B k r else 0)=fun r=>if S' r then kF B k r else 0 from funext h]
 ·funext r
  have e:∀ T:Nat→Prop,(fencS B k T).hist r=(B.hist r).drop (if T r then kF B k r else 0):=fun T=>by
   show (if T r then (B.hist r).drop (kF B k r) else B.hist r)=_
   split<;>simp
  rw [e,e,h r]
 ·funext r
  have e:∀ T:Nat→Prop,(fencS B k T).done r=B.done r+((if T r then kF B k r else 0:Nat):Int):=fun T=>by
   show (if T r then B.done r+kF B k r else B.done r)=_
   split<;>simp
  rw [e,e,h r]
theorem entry_is {B:Dv} {k:Nat} (hn:NoteOk B k) {es:Array MapEntry} {cl:Nat} (hm:MapIs (some .i64) (.i .u64 (B.note k)) es cl) {e:MapEntry} (he:e∈es.toList) :
  ∃ (r:Nat) (v:Int),r<B.n∧e.key=.int .i64 r∧B.note k (.int .i64 r)=some v∧e.val=.int .u64 v∧0≤v∧v≤B.done r+(B.hist r).length:=by
 have h1:=hm.has e he
 simp only [EK.has] at h1
 obtain ⟨v,hv⟩:=Option.isSome_iff_exists.1 h1
 obtain ⟨r,h2,h3,h4,h5⟩:=hn _ _ hv
 refine ⟨r,v,h2,h3,by rw [← h3];exact hv,?_,h4,h5⟩
 rw [hm.val e he]
 simp only [EK.get,hv,Option.getD_some]
theorem fencS_all {B:Dv} {k:Nat} {es:Array MapEntry} {cl:Nat} (hd:∀ r,r<6→0≤B.done r) (hn6:B.n≤6) (hn:NoteOk B k) (hm:MapIs (some .i64) (.i .u64 (B.note k)) es cl) {seen:Array Nat} (h0:(leftOf es seen).size=0):fencS B k (Saw es seen)=fencS B k (fun _=>True):=by
 refine fencS_eq fun r=>?_
 rw [if_pos trivial]
 split
 ·rfl
 ·rename_i hs
  unfold kF
  split
  ·rename_i p hp
   by_cases hex:∃ e,e∈es.toList∧e.key=.int .i64 r
   ·obtain ⟨e,he,hk⟩:=hex
    refine absurd ⟨e,he,hk,?_⟩ hs
    have hnl:e ∉ (leftOf es seen).toList:=by
     have:(leftOf es seen).toList=[]:=List.length_eq_zero_iff.1 (by rw [Array.length_toList];exact h0)
     rw [this];simp
    simp only [leftOf,Array.toList_filter,List.mem_filter,not_and] at hnl
    simpa using hnl he
   ·have ho:=hm.out (.int .i64 r) (by simp [keyD,MapKept.IsKey]) (fun e he hk=>hex ⟨e,he,hk⟩)
    simp only [EK.get,EK.zero,hp,Option.getD_some,Value.int.injEq,true_and] at ho
    obtain ⟨r',h1,h2,_,_⟩:=hn _ _ hp
    simp only [Value.int.injEq,true_and] at h2
    have:=hd r (by omega)
    omega
  ·rfl
noncomputable def Dv.fence (A:Dv) (k:Nat):Dv:=if A.cntB true=true then { fencS (A.cnt k true) k (fun _=>True) with note:=upd (A.cnt k true).note k (fun _=>none) } else A.cnt k true
theorem NoteOk.cnt {A:Dv} {q:Nat} (h:NoteOk A q) (k:Nat) (v:Bool):NoteOk (A.cnt k v) q:=by
 obtain ⟨e1,e2,e3,e4,e5,e6⟩:=cnt_p A k v
 unfold NoteOk
 rw [e1,e4,e5,e6]
 exact h
def JOk (A:Dv) (J:JT):Prop:=∀ r,r<6→((jk A J r).length:Int)≤A.done r
theorem JOk.persist {A:Dv} {J:JT} (h:JOk A J) (h0:∀ r,r<6→0≤A.done r) (q k:Nat) (hk:k≤(A.hist q).length):JOk (A.persist q k) (jper A J q k):=by
 intro r hr
 have h1:=h r hr
 have h2:=h0 r hr
 rw [per_done]
 by_cases e:k<(A.hist q).length
 ·rw [jk_per A J q k r e]
  by_cases hq:r=q
  ·subst hq;simp only [if_true,List.length_append,List.length_take];omega
  ·simp only [if_neg hq];exact h1
 ·rw [jk_perA A J q k r (by omega)]
  by_cases hq:r=q
  ·subst hq;simp only [if_true,List.length_nil];omega
  ·simp only [if_neg hq];exact h1
end Go.Proofs.YtckhjklcfagkoaaGreatDoor
namespace Go.Proofs.YtckhjklcfagkoaaGreatDoor
set_option maxHeartbeats 4000000
set_option maxRecDepth 100000
open Go Go.Ab
attribute [local irreducible] callK callF loopQ vstep vskip pickE hideP
attribute [local go_sem] eU deO peO cuO liO thO hiO noO
def byW (ws:List Int) (j:Nat):Int:=IntKind.u8.wrap (ws.getD (j / 8) 0 / 2 ^ (j % 8*8))
def byL (ws:List Int) (m i:Nat):List PV:=(List.range m).map fun j=>.v (.int .u8 (if j<i then byW ws j else 0))
theorem byL_0 (ws:List Int) (m:Nat):List.replicate m (PV.v (.int .u8 0))=byL ws m 0:=by
 unfold byL
 apply List.ext_getElem (by simp)
 intro i h1 h2
 simp
theorem byL_len (ws:List Int) (m i:Nat):(byL ws m i).length=m:=by simp [byL]
theorem byL_s (ws:List Int) (m i:Nat):(byL ws m i).set i (.v (.int .u8 (byW ws i)))=byL ws m (i+1):=by
 unfold byL
 apply List.ext_getElem (by simp)
 intro j h1 h2
 rw [List.getElem_set]
 simp only [List.getElem_map,List.getElem_range]
 by_cases e:i=j
 ·subst e;rw [if_pos rfl,if_pos (by omega)]
 ·rw [if_neg e]
  by_cases h:j<i
  ·rw [if_pos h,if_pos (by omega)]
  ·rw [if_neg h,if_neg (by omega)]
theorem dBytes (ws:List Int) (hw:ws.length≤100000):ACalls Tryz.prog 66 [.sl 0 1 0 ws.length] [.arr 1 (ws.map eU)] (.sl 1 1 0 (8*ws.length)) [.arr 1 (ws.map eU),.arr 1 (byL ws (8*ws.length) (8*ws.length))]:=by
 refine yA (E:=E) (fn:=Tryz.f66) 30 [.tmp 2] rfl rfl rfl rfl (by decide) rfl rfl ?_
 have hq:IntKind.i64.wrap ((ws.length:Int)*8)=((8*ws.length:Nat):Int):=by rw [IntKind.wrap_i64];omega
 repeat' (first
  | (with_reducible first | apply zY | apply zT | apply zM | apply zN | apply zO | refine qK ?_ | (show False;omega))
  | ((with_reducible first | apply zP | apply zQ | apply zR | apply zL)<;>intro h)
  | ((first | (with_reducible first | apply zW | apply zV | apply zU | apply zS | apply zX | show VX _ _ _ _ _ _ _ | show vstep _ _ _ _ _ | show vskip _ _ _ | show withV _ _ | apply qN | apply qR | refine zB default ?_ (by first | omega | (simp only [LN,hq];omega)) (by first | omega | (simp only [LN,hq];omega)) | refine zC default ?_ (by first | omega | (simp only [LN,hq];omega)) | refine qI ?_ (by first | decide | omega | assumption | (simp only [LN,hq];omega))) | ((with_reducible show pickE _ _ _);refine qA _ ?_));try simp -dsimp -implicitDefEqProofs (maxSteps:=1000000) (disch:=first | omega | (simp only [LN,hq];omega)) only [go_sem,hq])
 )
 refine r_loopA (α:=Nat) [0,3,10] (fun i b=>[(11,aI i)]) (fun i b=>[(3,.arr 1 (byL ws (8*ws.length) i))]) (fun i=>[]) (fun i=>i≤8*ws.length) (fun i=>8*ws.length - i) (0) ?h0_1 ?hs0_1 ?I_1 ?hI_1 ?round_1
 case hI_1=>intro x;(simp -dsimp -implicitDefEqProofs (maxSteps:=1000000) (disch:=first | omega | (simp only [LN];omega)) only [go_sem])<;>exact rfl
 case hs0_1=>refine wk_auto ?_;(simp -dsimp -implicitDefEqProofs (maxSteps:=1000000) (disch:=first | omega | (simp only [LN,byL_0 ws];omega)) only [go_sem,byL_0 ws])<;>(try omega)
 case h0_1=>exact Nat.zero_le _
 case round_1 =>
  intro i h1
  by_cases hi:i<8*ws.length
  ·have e1:IntKind.i64.wrap ((i:Int).tdiv 8)=((i / 8:Nat):Int):=by rw [show ((i:Int).tdiv 8)=((i / 8:Nat):Int) from rfl,IntKind.wrap_i64];omega
   have e2:(i:Int).tmod 8=((i % 8:Nat):Int):=rfl
   have e3:IntKind.i64.wrap (((i % 8:Nat):Int)*8)=((i % 8*8:Nat):Int):=by rw [IntKind.wrap_i64];omega
   have e4:((i:Int) / 8).toNat=i / 8:=by omega
   have e5:(IntKind.u64.wrap ((i % 8*8:Nat):Int)).toNat=i % 8*8:=by rw [IntKind.wrap_u64];omega
   have e6:min (i % 8*8) 64=i % 8*8:=by omega
   have hs:=byL_s ws (8*ws.length) i
   have hl:=byL_len ws (8*ws.length) i
   unfold byW at hs
   change (byL ws (8*ws.length) i).set i (.v (.int .u8 (IntKind.u8.wrap (ws.getD (i / 8) default / 2 ^ (i % 8*8)))))=_ at hs
   repeat' (first
    | (with_reducible first | apply zY | apply zT | apply zM | apply zN | apply zO | refine qK ?_ | (show False;omega))
    | ((with_reducible first | apply zP | apply zQ | apply zR | apply zL)<;>intro h<;>try (exfalso;first | omega | exact h rfl | (revert h;decide) | (cases h;done)))
    | ((first | (with_reducible first | apply zW | apply zV | apply zU | apply zS | apply zX | show VX _ _ _ _ _ _ _ | show vstep _ _ _ _ _ | show vskip _ _ _ | show withV _ _ | apply qN | apply qR | refine zB default ?_ (by first | omega | (simp only [LN,e1,e2,e3,e4,e5,e6,hl];omega)) (by first | omega | (simp only [LN,e1,e2,e3,e4,e5,e6,hl];omega)) | refine zC default ?_ (by first | omega | (simp only [LN,e1,e2,e3,e4,e5,e6,hl];omega)) | refine qI ?_ (by first | decide | omega | assumption | (simp only [LN,e1,e2,e3,e4,e5,e6,hl];omega))) | ((with_reducible show pickE _ _ _);refine qA _ ?_));try simp -dsimp -implicitDefEqProofs (maxSteps:=1000000) (disch:=first | omega | (simp only [LN,e1,e2,e3,e4,e5,e6,hl];omega)) only [go_sem,e1,e2,e3,e4,e5,e6,hl])
   )
   all_goals first | omega | (refine zZ (i+1) ?_ ?_ ?_;(omega);(show _<_;omega);(simp -dsimp -implicitDefEqProofs (maxSteps:=1000000) (disch:=first | omega | (simp only [LN,e4,e5,e6,hs];omega)) only [go_sem,e4,e5,e6,hs];try trivial))
  ·obtain rfl:i=8*ws.length:=by omega
   repeat' (first
    | (with_reducible first | apply zY | apply zT | apply zM | apply zN | apply zO | refine qK ?_ | (show False;omega))
    | ((with_reducible first | apply zP | apply zQ | apply zR | apply zL)<;>intro h<;>try (exfalso;first | omega | exact h rfl | (revert h;decide) | (cases h;done)))
    | ((first | (with_reducible first | apply zW | apply zV | apply zU | apply zS | apply zX | show VX _ _ _ _ _ _ _ | show vstep _ _ _ _ _ | show vskip _ _ _ | show withV _ _ | apply qN | apply qR | refine zB default ?_ (by first | omega | (simp only [LN,byL_len];omega)) (by first | omega | (simp only [LN,byL_len];omega)) | refine zC default ?_ (by first | omega | (simp only [LN,byL_len];omega)) | refine qI ?_ (by first | decide | omega | assumption | (simp only [LN,byL_len];omega))) | ((with_reducible show pickE _ _ _);refine qA _ ?_));try simp -dsimp -implicitDefEqProofs (maxSteps:=1000000) (disch:=first | omega | (simp only [LN,byL_len];omega)) only [go_sem,byL_len])
   )
   all_goals first | omega | rfl
theorem dPers6 (A:Dv) (J:JT) (h:WF A):ACalls Tryz.prog 20 [.loc 0 0] (dvL A J) (.sl 26 1 0 (64*A.n)) (dvL A J++[.arr 1 (byL A.per (64*A.n) (64*A.n))]):=by
 refine yA (E:=E) (fn:=Tryz.f20) 10 [.tmp 2] rfl rfl rfl rfl (by decide) rfl rfl ?_
 have h6:=h.n6
 have hp:=h.per
 have k:=dBytes A.per (by rw [h.per];omega)
 rw [h.per,show 8*(8*A.n)=64*A.n by omega] at k
 repeat' (first
  | (with_reducible first | apply zY | apply zT | apply zM | apply zN | apply zO | refine qK ?_ | (show False;omega))
  | ((with_reducible first | apply zP | apply zQ | apply zR | apply zL)<;>intro h)
  | ((first | (with_reducible first | apply zW | apply zV | apply zU | apply zS | apply zX | show VX _ _ _ _ _ _ _ | show vstep _ _ _ _ _ | show vskip _ _ _ | show withV _ _ | apply qN | apply qR | refine zB default ?_ | refine zC default ?_ | refine qI ?_) | (with_reducible first | apply zG | apply zH | apply zI) | ((with_reducible apply zJ);(first | exact k)) | ((with_reducible show pickE _ _ _);refine qA _ ?_));try simp -dsimp -implicitDefEqProofs (maxSteps:=1000000) (disch:=first | omega | (simp only [LN];omega)) only [go_sem])
 )
end Go.Proofs.YtckhjklcfagkoaaGreatDoor
namespace Go.Proofs.YtckhjklcfagkoaaGreatDoor
set_option maxHeartbeats 4000000
set_option maxRecDepth 100000
open Go Go.Ab
attribute [local irreducible] callK callF loopQ vstep vskip pickE hideP
attribute [local go_sem] eU deO peO cuO liO thO hiO noO
def dirL (A:Dv) (i:Nat):List Nat:=(List.range i).filter fun r=>decide (A.hist r≠[])
theorem dirL_s (A:Dv) (i:Nat):dirL A (i+1)=dirL A i++if A.hist i=[] then [] else [i]:=by
 unfold dirL
 rw [List.range_succ,List.filter_append]
 congr 1
 by_cases h:A.hist i=[]<;>simp [h]
def eNd (n:Nat):PV:=.v (.int .i64 n)
theorem dirL_len (A:Dv) (i:Nat):(dirL A i).length≤i:=by
 unfold dirL
 exact Nat.le_trans (List.length_filter_le _ _) (by simp)
theorem dDirty6 (A:Dv) (J:JT) (h:WF A):ACalls Tryz.prog 55 [.loc 0 0] (dvL A J) (.sl 26 1 0 (dirL A A.n).length) (dvL A J++[.arr 1 ((dirL A A.n).map eNd)]):=by
 refine yA (E:=E) (fn:=Tryz.f55) 31 [.tmp 2] rfl rfl rfl rfl (by decide) rfl rfl ?_
 have h6:=h.n6
 repeat' (first
  | (with_reducible first | apply zY | apply zT | apply zM | apply zN | apply zO | refine qK ?_ | (show False;omega))
  | ((with_reducible first | apply zP | apply zQ | apply zR | apply zL)<;>intro h)
  | ((first | (with_reducible first | apply zW | apply zV | apply zU | apply zS | apply zX | show VX _ _ _ _ _ _ _ | show vstep _ _ _ _ _ | show vskip _ _ _ | show withV _ _ | apply qN | apply qR | refine zB default ?_ | refine zC default ?_ | refine qI ?_) | ((with_reducible show pickE _ _ _);refine qA _ ?_));try simp -dsimp -implicitDefEqProofs (maxSteps:=1000000) (disch:=first | omega | (simp only [LN];omega)) only [go_sem])
 )
 refine r_loopA (α:=Nat) [0,11] (fun i b=>[(3,.sl b 1 0 (dirL A i).length),(12,aI i)]) (fun i b=>[]) (fun i=>[.arr 1 ((dirL A i).map eNd)]) (fun i=>i≤A.n) (fun i=>A.n - i) (0) ?h0_1 ?hs0_1 ?I_1 ?hI_1 ?round_1
 case hI_1=>intro x;(simp -dsimp -implicitDefEqProofs (maxSteps:=1000000) (disch:=first | omega | (simp only [LN];omega)) only [go_sem])<;>exact rfl
 case hs0_1=>refine wk_auto ?_;(simp -dsimp -implicitDefEqProofs (maxSteps:=1000000) (disch:=first | omega | (simp only [LN,show dirL A 0=[] from rfl];omega)) only [go_sem,show dirL A 0=[] from rfl])<;>(try omega)
 case h0_1=>exact Nat.zero_le _
 case round_1 =>
  intro i h1
  have hl:=dirL_len A i
  have hs:=dirL_s A i
  by_cases hi:i<A.n
  ·by_cases hd:A.hist i=[]
   ·have h0:(A.hist i).length=0:=by rw [hd];rfl
    rw [if_pos hd,List.append_nil] at hs
    repeat' (first
     | (with_reducible first | apply zY | apply zT | apply zM | apply zN | apply zO | refine qK ?_ | (show False;omega))
     | ((with_reducible first | apply zP | apply zQ | apply zR | apply zL)<;>intro h<;>try (exfalso;first | omega | exact h rfl | (revert h;decide) | (cases h;done)))
     | ((first | (with_reducible first | apply zW | apply zV | apply zU | apply zS | apply zX | show VX _ _ _ _ _ _ _ | show vstep _ _ _ _ _ | show vskip _ _ _ | show withV _ _ | apply qN | apply qR | refine zB default ?_ | refine zC default ?_ | refine qI ?_) | ((with_reducible show pickE _ _ _);refine qA _ ?_));try simp -dsimp -implicitDefEqProofs (maxSteps:=1000000) (disch:=first | omega | (simp only [LN];omega)) only [go_sem])
    )
    all_goals first | omega | (refine zZ (i+1) ?_ ?_ ?_;(omega);(show _<_;omega);(simp -dsimp -implicitDefEqProofs (maxSteps:=1000000) (disch:=first | omega | (simp only [LN,hs];omega)) only [go_sem,hs];try trivial))
   ·have h0:0<(A.hist i).length:=List.length_pos_iff.2 hd
    rw [if_neg hd] at hs
    repeat' (first
     | (with_reducible first | apply zY | apply zT | apply zM | apply zN | apply zO | refine qK ?_ | (show False;omega))
     | ((with_reducible first | apply zP | apply zQ | apply zR | apply zL)<;>intro h<;>try (exfalso;first | omega | exact h rfl | (revert h;decide) | (cases h;done)))
     | ((first | (with_reducible first | apply zW | apply zV | apply zU | apply zS | apply zX | show VX _ _ _ _ _ _ _ | show vstep _ _ _ _ _ | show vskip _ _ _ | show withV _ _ | apply qN | apply qR | refine zB default ?_ | refine zC default ?_ | refine qI ?_) | ((with_reducible show pickE _ _ _);refine qA _ ?_));try simp -dsimp -implicitDefEqProofs (maxSteps:=1000000) (disch:=first | omega | (simp only [LN];omega)) only [go_sem])
    )
    all_goals first | omega | ((refine zZ (i+1) ?_ ?_ ?_;(omega);(show _<_;omega);(simp -dsimp -implicitDefEqProofs (maxSteps:=1000000) (disch:=first | omega | (simp only [LN,hs];omega)) only [go_sem,hs];try trivial));simp [eNd])
  ·obtain rfl:i=A.n:=by omega
   repeat' (first
    | (with_reducible first | apply zY | apply zT | apply zM | apply zN | apply zO | refine qK ?_ | (show False;omega))
    | ((with_reducible first | apply zP | apply zQ | apply zR | apply zL)<;>intro h<;>try (exfalso;first | omega | exact h rfl | (revert h;decide) | (cases h;done)))
    | ((first | (with_reducible first | apply zW | apply zV | apply zU | apply zS | apply zX | show VX _ _ _ _ _ _ _ | show vstep _ _ _ _ _ | show vskip _ _ _ | show withV _ _ | apply qN | apply qR | refine zB default ?_ | refine zC default ?_ | refine qI ?_) | ((with_reducible show pickE _ _ _);refine qA _ ?_));try simp -dsimp -implicitDefEqProofs (maxSteps:=1000000) (disch:=first | omega | (simp only [LN];omega)) only [go_sem])
   )
   all_goals first | omega | rfl
end Go.Proofs.YtckhjklcfagkoaaGreatDoor
namespace Go.Proofs.YtckhjklcfagkoaaGreatDoor
set_option maxHeartbeats 4000000
set_option maxRecDepth 100000
open Go Go.Ab
attribute [local irreducible] callK callF loopQ vstep vskip pickE hideP
attribute [local go_sem] eU eNd deO peO cuO liO thO hiO noO
def eC (b:UInt8):PV:=.v (.int .u8 b.toNat)
attribute [local go_sem] eC
theorem dClone (l:List Int) (h:0<l.length∧l.length≤1000000):ACalls Tryz.prog 63 [.sl 0 1 0 l.length] [.arr 1 (l.map eU)] (.sl 1 1 0 l.length) [.arr 1 (l.map eU),.arr 1 (l.map eU)]:=by
 refine yA (E:=E) (fn:=Tryz.f63) 8 [.tmp 2] rfl rfl rfl rfl (by decide) rfl rfl ?_
 repeat' (first
  | (with_reducible first | apply zY | apply zT | apply zM | apply zN | apply zO | refine qK ?_ | (show False;omega))
  | ((with_reducible first | apply zP | apply zQ | apply zR | apply zL)<;>intro h)
  | ((first | (with_reducible first | apply zW | apply zV | apply zU | apply zS | apply zX | show VX _ _ _ _ _ _ _ | show vstep _ _ _ _ _ | show vskip _ _ _ | show withV _ _ | apply qN | apply qR | refine zB default ?_ | refine zC default ?_ | refine qI ?_) | ((with_reducible show pickE _ _ _);refine qA _ ?_));try simp -dsimp -implicitDefEqProofs (maxSteps:=1000000) (disch:=first | omega | (simp only [LN];omega)) only [go_sem])
 )
def kI (A:Dv) (c:List UInt8) (i:Nat):Nat:=(c.getD (i % c.length) default).toNat % ((A.hist ((dirL A A.n).getD i default)).length+1)
def imgW (A:Dv) (c:List UInt8):Nat→List Int
 | 0=>A.per
 | i+1=>appL (imgW A c i) ((A.hist ((dirL A A.n).getD i default)).take (kI A c i))
theorem imgW_len (A:Dv) (c:List UInt8):∀ i,(imgW A c i).length=A.per.length
 | 0=>rfl
 | i+1=>by rw [imgW,appL_len,imgW_len A c i]
theorem dirL_lt (A:Dv) (i:Nat) (h:i<(dirL A A.n).length):(dirL A A.n).getD i default<A.n:=by
 rw [List.getD_eq_getElem?_getD,List.getElem?_eq_getElem h]
 have:=List.getElem_mem h
 generalize (dirL A A.n)[i]=x at *
 unfold dirL at this
 rw [List.mem_filter,List.mem_range] at this
 exact this.1
theorem dImage6 (A:Dv) (J:JT) (h:WF A) (hj:∀ r,r<6→(jk A J r).length≤1000000000) (c:List UInt8) (hc:0<c.length∧c.length≤100000):ACalls Tryz.prog 83 [.loc 0 0,.p (.view 1 (c.map eC))] (dvL A J) (.sl 26 1 0 (64*A.n)) (dvL A J++[.arr 1 (byL (imgW A c (dirL A A.n).length) (64*A.n) (64*A.n))]):=by
 refine yA (E:=E) (fn:=Tryz.f83) 56 [.tmp 4] rfl rfl rfl rfl (by decide) rfl rfl ?_
 have h6:=h.n6
 have h0:=h.n0
 have hp:=h.per
 have k75:=dClone A.per (by omega)
 rw [hp] at k75
 have kd:=dDirty6 A J h
 have hdl:=dirL_len A A.n
 have hln:=h.len
 have hhs:=h.hist
 repeat' (first
  | (with_reducible first | apply zY | apply zT | apply zM | apply zN | apply zO | refine qK ?_ | (show False;omega))
  | ((with_reducible first | apply zP | apply zQ | apply zR | apply zL)<;>intro h<;>try (exfalso;first | omega | exact h rfl | (revert h;decide) | (cases h;done)))
  | ((first | (with_reducible first | apply zW | apply zV | apply zU | apply zS | apply zX | show VX _ _ _ _ _ _ _ | show vstep _ _ _ _ _ | show vskip _ _ _ | show withV _ _ | apply qN | apply qR | refine zB default ?_ | refine zC default ?_ | refine qI ?_) | (with_reducible first | apply zG | apply zH | apply zI) | ((with_reducible apply zJ);(first | exact k75 | exact kd)) | ((with_reducible show pickE _ _ _);refine qA _ ?_));try simp -dsimp -implicitDefEqProofs (maxSteps:=1000000) (disch:=first | omega | (simp only [LN];omega)) only [go_sem])
 )
 all_goals try omega
 refine r_loopA (α:=Nat) [0,1,5,21,22] (fun i b=>[(23,aI i)]) (fun i b=>[(5,.arr 1 ((imgW A c i).map eU))]) (fun i=>[]) (fun i=>i≤(dirL A A.n).length) (fun i=>(dirL A A.n).length - i) (0) ?h0_1 ?hs0_1 ?I_1 ?hI_1 ?round_1
 case hI_1=>intro x;(simp -dsimp -implicitDefEqProofs (maxSteps:=1000000) (disch:=first | omega | (simp only [LN];omega)) only [go_sem])<;>exact rfl
 case hs0_1=>refine wk_auto ?_;(simp -dsimp -implicitDefEqProofs (maxSteps:=1000000) (disch:=first | omega | (simp only [LN,show imgW A c 0=A.per from rfl];omega)) only [go_sem,show imgW A c 0=A.per from rfl])<;>(try omega)
 case h0_1=>exact Nat.zero_le _
 case round_1 =>
  intro i h1
  by_cases hi:i<(dirL A A.n).length
  ·have hr:=dirL_lt A i hi
   have hst:imgW A c (i+1)=appL (imgW A c i) ((A.hist ((dirL A A.n).getD i default)).take (kI A c i)):=rfl
   have hk0:kI A c i=(c.getD (i % c.length) default).toNat % ((A.hist ((dirL A A.n).getD i default)).length+1):=rfl
   obtain ⟨r,hre⟩:∃ r,r=(dirL A A.n).getD i default:=⟨_,rfl⟩
   rw [← hre] at hr hst hk0
   have hre:=hre.symm
   have hl:=hln r (by omega)
   have hh:=hhs r (by omega)
   have hkl:kI A c i≤(A.hist r).length:=by rw [hk0];have:=Nat.mod_lt (c.getD (i % c.length) default).toNat (show 0<(A.hist r).length+1 by omega);omega
   have e1:(i:Int).tmod c.length=((i % c.length:Nat):Int):=(Int.ofNat_tmod _ _).symm
   have e2:i % c.length<c.length:=Nat.mod_lt _ hc.1
   have e3:IntKind.i64.wrap ((c.getD (i % c.length) default).toNat:Int)=((c.getD (i % c.length) default).toNat:Int):=by
    have:=(c.getD (i % c.length) default).toNat_lt;rw [IntKind.wrap_i64];omega
   have e4:IntKind.i64.wrap (((A.hist r).length:Int)+1)=(((A.hist r).length+1:Nat):Int):=by rw [IntKind.wrap_i64];omega
   have e5:((c.getD (i % c.length) default).toNat:Int).tmod (((A.hist r).length+1:Nat):Int)=((kI A c i:Nat):Int):=by rw [hk0];exact (Int.ofNat_tmod _ _).symm
   have e6:((c.getD (i % c.length) default).toNat:Int).tmod (((A.hist r).length:Int)+1)=((kI A c i:Nat):Int):=e5
   have hil:=imgW_len A c i
   rw [hp] at hil
   have ka:=dApply (imgW A c i) (jk A J r) (A.hist r) (8*A.n) (jk A J r).length (kI A c i) hil rfl hkl (by omega) (fun x hx=>by have:=hh x hx;omega)
   have hjr:=hj r (by omega)
   have hs:r=0∨r=1∨r=2∨r=3∨r=4∨r=5:=by omega
   rcases hs with rfl | rfl | rfl | rfl | rfl | rfl
   all_goals
    repeat' (first
     | (with_reducible first | apply zY | apply zT | apply zM | apply zN | apply zO | refine qK ?_ | (show False;omega))
     | ((with_reducible first | apply zP | apply zQ | apply zR | apply zL)<;>intro h<;>try (exfalso;first | omega | exact h rfl | (revert h;decide) | (cases h;done)))
     | ((first | (with_reducible first | apply zW | apply zV | apply zU | apply zS | apply zX | show VX _ _ _ _ _ _ _ | show vstep _ _ _ _ _ | show vskip _ _ _ | show withV _ _ | apply qN | apply qR | refine zB default ?_ (by first | omega | (simp only [LN,e1,e2,e3,e4,e5,e6,hre];omega)) (by first | omega | (simp only [LN,e1,e2,e3,e4,e5,e6,hre];omega)) | refine zC default ?_ (by first | omega | (simp only [LN,e1,e2,e3,e4,e5,e6,hre];omega)) | refine qI ?_ (by first | decide | omega | assumption | (simp only [LN,e1,e2,e3,e4,e5,e6,hre];omega))) | (with_reducible first | apply zG | apply zH | apply zI) | ((with_reducible apply zJ);(first | exact ka)) | ((with_reducible show pickE _ _ _);refine qA _ ?_));try simp -dsimp -implicitDefEqProofs (maxSteps:=1000000) (disch:=first | omega | (simp only [LN,e1,e2,e3,e4,e5,e6,hre];omega)) only [go_sem,e1,e2,e3,e4,e5,e6,hre])
    )
    all_goals try omega
    refine And.intro (by split<;>(simp<;>omega)) ?_
    repeat' (first
     | (with_reducible first | apply zY | apply zT | apply zM | apply zN | apply zO | refine qK ?_ | (show False;omega))
     | ((with_reducible first | apply zP | apply zQ | apply zR | apply zL)<;>intro h<;>try (exfalso;first | omega | exact h rfl | (revert h;decide) | (cases h;done)))
     | ((first | (with_reducible first | apply zW | apply zV | apply zU | apply zS | apply zX | show VX _ _ _ _ _ _ _ | show vstep _ _ _ _ _ | show vskip _ _ _ | show withV _ _ | apply qN | apply qR | refine zB default ?_ (by first | omega | (simp only [LN,e1,e2,e3,e4,e5,e6,hre];omega)) (by first | omega | (simp only [LN,e1,e2,e3,e4,e5,e6,hre];omega)) | refine zC default ?_ (by first | omega | (simp only [LN,e1,e2,e3,e4,e5,e6,hre];omega)) | refine qI ?_ (by first | decide | omega | assumption | (simp only [LN,e1,e2,e3,e4,e5,e6,hre];omega))) | (with_reducible first | apply zG | apply zH | apply zI) | ((with_reducible apply zJ);(first | exact ka)) | ((with_reducible show pickE _ _ _);refine qA _ ?_));try simp -dsimp -implicitDefEqProofs (maxSteps:=1000000) (disch:=first | omega | (simp only [LN,e1,e2,e3,e4,e5,e6,hre];omega)) only [go_sem,e1,e2,e3,e4,e5,e6,hre])
    )
    all_goals first | omega | (refine zZ (i+1) ?_ ?_ ?_;(omega);(show _<_;omega);(simp -dsimp -implicitDefEqProofs (maxSteps:=1000000) (disch:=first | omega | (simp only [LN,hst];omega)) only [go_sem,hst];try trivial))
  ·obtain rfl:i=(dirL A A.n).length:=by omega
   have hil:=imgW_len A c (dirL A A.n).length
   rw [hp] at hil
   have kb:=dBytes (imgW A c (dirL A A.n).length) (by omega)
   rw [hil,show 8*(8*A.n)=64*A.n by omega] at kb
   repeat' (first
    | (with_reducible first | apply zY | apply zT | apply zM | apply zN | apply zO | refine qK ?_ | (show False;omega))
    | ((with_reducible first | apply zP | apply zQ | apply zR | apply zL)<;>intro h<;>try (exfalso;first | omega | exact h rfl | (revert h;decide) | (cases h;done)))
    | ((first | (with_reducible first | apply zW | apply zV | apply zU | apply zS | apply zX | show VX _ _ _ _ _ _ _ | show vstep _ _ _ _ _ | show vskip _ _ _ | show withV _ _ | apply qN | apply qR | refine zB default ?_ | refine zC default ?_ | refine qI ?_) | (with_reducible first | apply zG | apply zH | apply zI) | ((with_reducible apply zJ);(first | exact kb)) | ((with_reducible show pickE _ _ _);refine qA _ ?_));try simp -dsimp -implicitDefEqProofs (maxSteps:=1000000) (disch:=first | omega | (simp only [LN];omega)) only [go_sem])
   )
   all_goals first | omega | rfl
end Go.Proofs.YtckhjklcfagkoaaGreatDoor
namespace Go.Proofs.YtckhjklcfagkoaaGreatDoor
set_option maxHeartbeats 4000000
set_option maxRecDepth 100000
open Go Go.Ab
attribute [local irreducible] callK callF loopQ vstep vskip pickE hideP
attribute [local go_sem] eU deO peO cuO liO thO hiO noO
def Dv.fresh (n:Nat) (ws:List Int):Dv:={ n:=n,per:=ws,cur:=ws,hist:=fun _=>[],done:=fun _=>0,err:=fun _=>0,note:=fun _ _=>none,off:=false,armed:=false,left:=0,ex:=0 }
def J0:JT:=fun _=>[]
theorem jk_fresh (n:Nat) (ws:List Int) (r:Nat):jk (Dv.fresh n ws) J0 r=[]:=rfl
theorem WF.fresh (n:Nat) (ws:List Int) (h0:0<n) (h6:n≤6) (hw:ws.length=8*n):WF (Dv.fresh n ws) :=
 ⟨h0,h6,hw,hw,fun r _ x hx=>by simp [Dv.fresh] at hx,fun _ _ _=>rfl,fun r _=>by simp [Dv.fresh],trivial⟩
theorem dOf6 (ws:List Int) (n:Nat) (hw:ws.length=8*n) (hn:0<n∧n≤6):ACalls Tryz.prog 62 [.sl 0 1 0 (8*n)] [.arr 1 (ws.map eU)] (.loc 1 0) [peO (Dv.fresh n ws),deO (Dv.fresh n ws) 0 2 3 4,cuO (Dv.fresh n ws),liO (Dv.fresh n ws) J0 12,thO (Dv.fresh n ws) 0 1 18,thO (Dv.fresh n ws) 1 1 18,thO (Dv.fresh n ws) 2 1 18,thO (Dv.fresh n ws) 3 1 18,thO (Dv.fresh n ws) 4 1 18,thO (Dv.fresh n ws) 5 1 18,thO (Dv.fresh n ws) 6 1 18,thO (Dv.fresh n ws) 7 1 18,hiO (Dv.fresh n ws) J0 0,hiO (Dv.fresh n ws) J0 1,hiO (Dv.fresh n ws) J0 2,hiO (Dv.fresh n ws) J0 3,hiO (Dv.fresh n ws) J0 4,hiO (Dv.fresh n ws) J0 5,noO (Dv.fresh n ws) 0,noO (Dv.fresh n ws) 1,noO (Dv.fresh n ws) 2,noO (Dv.fresh n ws) 3,noO (Dv.fresh n ws) 4,noO (Dv.fresh n ws) 5,noO (Dv.fresh n ws) 6,noO (Dv.fresh n ws) 7]:=by
 refine yA (E:=E) (fn:=Tryz.f62) 29 [.tmp 2] rfl rfl rfl rfl (by decide) rfl rfl ?_
 have k75:=dClone ws (by omega)
 rw [hw] at k75
 have hq:IntKind.i64.wrap (((8*n:Nat):Int).tdiv 8)=n:=by
  rw [show (((8*n:Nat):Int).tdiv 8)=((8*n / 8:Nat):Int) from rfl,IntKind.wrap_i64];omega
 repeat' ((fail_if_success (with_reducible show awp _ _ (Code.region 2 _ _) _ _));first
  | (with_reducible first | apply zY | apply zT | apply zM | apply zN | apply zO | refine qK ?_ | (show False;omega))
  | ((with_reducible first | apply zP | apply zQ | apply zR | apply zL)<;>intro h<;>try (exfalso;first | omega | exact h rfl | (revert h;decide) | (cases h;done)))
  | ((first | (with_reducible first | apply zW | apply zV | apply zU | apply zS | apply zX | show VX _ _ _ _ _ _ _ | show vstep _ _ _ _ _ | show vskip _ _ _ | show withV _ _ | apply qN | apply qR | refine zB default ?_ (by first | omega | (simp only [LN,hq];omega)) (by first | omega | (simp only [LN,hq];omega)) | refine zC default ?_ (by first | omega | (simp only [LN,hq];omega)) | refine qI ?_ (by first | decide | omega | assumption | (simp only [LN,hq];omega))) | (with_reducible first | apply zG | apply zH | apply zI) | ((with_reducible apply zJ);(first | exact k75)) | ((with_reducible show pickE _ _ _);refine qA _ ?_));try simp -dsimp -implicitDefEqProofs (maxSteps:=1000000) (disch:=first | omega | (simp only [LN,hq];omega)) only [go_sem,hq])
 )
 all_goals try omega
 refine r_pvar 2 n 6 (.int .u64 0) (.slice none 0 0) (by rfl) hn.1 rfl rfl ?_
 simp -implicitDefEqProofs only [rowP]
 simp -dsimp -implicitDefEqProofs (maxSteps:=1000000) (disch:=first | omega | (simp only [LN];omega)) only [go_sem]
 repeat' (first
  | (with_reducible first | apply zY | apply zT | apply zM | apply zN | apply zO | refine qK ?_ | (show False;omega))
  | ((with_reducible first | apply zP | apply zQ | apply zR | apply zL)<;>intro h<;>try (exfalso;first | omega | exact h rfl | (revert h;decide) | (cases h;done)))
  | ((first | (with_reducible first | apply zW | apply zV | apply zU | apply zS | apply zX | show VX _ _ _ _ _ _ _ | show vstep _ _ _ _ _ | show vskip _ _ _ | show withV _ _ | apply qN | apply qR | refine zB default ?_ (by first | omega | (simp only [LN,hq];omega)) (by first | omega | (simp only [LN,hq];omega)) | refine zC default ?_ (by first | omega | (simp only [LN,hq];omega)) | refine qI ?_ (by first | decide | omega | assumption | (simp only [LN,hq];omega))) | ((with_reducible show pickE _ _ _);refine qA _ ?_));try simp -dsimp -implicitDefEqProofs (maxSteps:=1000000) (disch:=first | omega | (simp only [LN,hq];omega)) only [go_sem,hq])
 )
 refine r_rounds 9 ?_
 iterate 9
  refine yF ?_
  repeat' (first
   | (with_reducible first | apply zY | apply zT | apply zM | apply zN | apply zO | refine qK ?_ | (show False;omega))
   | ((with_reducible first | apply zP | apply zQ | apply zR | apply zL)<;>intro h<;>try (exfalso;first | omega | exact h rfl | (revert h;decide) | (cases h;done)))
   | ((first | (with_reducible first | apply zW | apply zV | apply zU | apply zS | apply zX | show VX _ _ _ _ _ _ _ | show vstep _ _ _ _ _ | show vskip _ _ _ | show withV _ _ | apply qN | apply qR | refine zB default ?_ | refine zC default ?_ | refine qI ?_) | ((with_reducible show pickE _ _ _);refine qA _ ?_));try simp -dsimp -implicitDefEqProofs (maxSteps:=1000000) (disch:=first | omega | (simp only [LN];omega)) only [go_sem])
  )
 all_goals simp [Dv.fresh,jk]
end Go.Proofs.YtckhjklcfagkoaaGreatDoor
