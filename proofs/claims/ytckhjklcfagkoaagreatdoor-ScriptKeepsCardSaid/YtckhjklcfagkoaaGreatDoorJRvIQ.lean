/- Contracts of functions of this program, and the plain facts that they rest on. No conditions. -/
import Derived.Test.YtckhjklcfagkoaaGreatDoorJRvFQ
import Derived.Test.YtckhjklcfagkoaaGreatDoorJDvF0Q
import Derived.Test.YtckhjklcfagkoaaGreatDoorJDvOQ
set_option linter.unusedSimpArgs false
set_option linter.unusedVariables false
namespace Go.Proofs.YtckhjklcfagkoaaGreatDoor
open Go Go.Ab
attribute [local irreducible] callK callF loopQ vstep vskip pickE hideP
set_option maxRecDepth 100000
theorem dirL_pre (A:Dv) {r n:Nat} (h:r≤n):∃ T,dirL A n=dirL A r++T:=by
 induction n with
 | zero =>
  obtain rfl:r=0:=by omega
  exact ⟨[],(List.append_nil _).symm⟩
 | succ n ih =>
  rcases Nat.lt_or_ge n r with h1 | h1
  ·obtain rfl:r=n+1:=by omega
   exact ⟨[],(List.append_nil _).symm⟩
  ·obtain ⟨T,hT⟩:=ih h1
   exact ⟨T++if A.hist n=[] then [] else [n],by rw [dirL_s,hT,List.append_assoc]⟩
theorem dirL_at {A:Dv} {r n:Nat} (h:r<n) (hd:A.hist r≠[]):(dirL A r).length<(dirL A n).length∧(dirL A n).getD (dirL A r).length default=r:=by
 obtain ⟨T,hT⟩:=dirL_pre A (show r+1≤n from h)
 rw [dirL_s,if_neg hd] at hT
 rw [hT]
 exact ⟨by simp,by simp [List.getD_eq_getElem?_getD]⟩
theorem dirL_ix {A:Dv} {n i:Nat} (hi:i<(dirL A n).length):A.hist ((dirL A n).getD i default)≠[]∧(dirL A n).getD i default<n∧(dirL A ((dirL A n).getD i default)).length=i:=by
 induction n with
 | zero=>exact absurd hi (by simp [dirL])
 | succ n ih =>
  rcases Nat.lt_or_ge i (dirL A n).length with h | h
  ·have e:(dirL A (n+1)).getD i default=(dirL A n).getD i default:=by
    rw [dirL_s,List.getD_eq_getElem?_getD,List.getD_eq_getElem?_getD,List.getElem?_append_left h]
   rw [e]
   obtain ⟨h1,h2,h3⟩:=ih h
   exact ⟨h1,by omega,h3⟩
  ·rw [dirL_s] at hi
   by_cases hd:A.hist n=[]
   ·rw [if_pos hd,List.append_nil] at hi;omega
   ·rw [if_neg hd,List.length_append,List.length_singleton] at hi
    have e:(dirL A (n+1)).getD i default=n:=by
     rw [dirL_s,if_neg hd,List.getD_eq_getElem?_getD,List.getElem?_append_right h,show i - (dirL A n).length=0 by omega];rfl
    rw [e]
    exact ⟨hd,by omega,by omega⟩
theorem contS_dir {A:Dv} {f g:Nat→Nat} (h:∀ r,r<A.n→A.hist r≠[]→f r=g r):contS A f=contS A g:=by
 unfold contS
 refine List.map_congr_left fun j hj=>?_
 have hj:=List.mem_range.1 hj
 by_cases hd:A.hist (j / 8)=[]
 ·rw [hd];simp
 ·rw [h _ (by omega) hd]
theorem kC_map {A:Dv} (g:Nat→Nat) {r:Nat} (hr:r<A.n) (hd:A.hist r≠[]):kC A ((dirL A A.n).map g) r=g r:=by
 obtain ⟨h1,h2⟩:=dirL_at hr hd
 have:kC A ((dirL A A.n).map g) r=((dirL A A.n).map g).getD (dirL A r).length 0:=if_neg hd
 rw [this]
 rw [List.getD_eq_getElem?_getD,List.getElem?_eq_getElem h1] at h2
 simp only [Option.getD_some] at h2
 rw [List.getD_eq_getElem?_getD,List.getElem?_map,List.getElem?_eq_getElem h1]
 simp [h2]
theorem kC_le {A:Dv} (ks:List Nat) (g:Nat→Nat) (hg:∀ r,r<A.n→A.hist r≠[]→kC A ks r=g r∧g r≤(A.hist r).length) (r:Nat) (hr:r<A.n):kC A ks r≤(A.hist r).length:=by
 by_cases hd:A.hist r=[]
 ·rw [show kC A ks r=0 from if_pos hd];omega
 ·obtain ⟨h1,h2⟩:=hg r hr hd;omega
theorem imgW_get {A:Dv} (h:WF A) (c:List UInt8) {i:Nat} (hi:i≤(dirL A A.n).length) {j:Nat} (hj:j<8*A.n):(imgW A c i).getD j 0=if A.hist (j / 8)≠[]∧(dirL A (j / 8)).length<i then (appL A.per ((A.hist (j / 8)).take (kI A c (dirL A (j / 8)).length))).getD j 0 else A.per.getD j 0:=by
 have h6:=h.n6
 induction i with
 | zero=>rw [if_neg (fun e=>by omega)];rfl
 | succ i ih =>
  have ih:=ih (by omega)
  obtain ⟨d1,d2,d3⟩:=dirL_ix (show i<(dirL A A.n).length by omega)
  have hst:imgW A c (i+1)=appL (imgW A c i) ((A.hist ((dirL A A.n).getD i default)).take (kI A c i)):=rfl
  rw [hst]
  generalize (dirL A A.n).getD i default=r at *
  by_cases hjr:j / 8=r
  ·rw [hjr] at ih ⊢
   rw [if_pos ⟨d1,by omega⟩,d3]
   rw [if_neg (fun e=>by omega)] at ih
   exact appL_loc _ j _ _ (imgW_len A c i) ih
  ·rw [appL_off _ j (fun x hx=>by
    have:=h.hist r (by omega) x (List.mem_of_mem_take hx)
    omega),ih]
   by_cases hd:A.hist (j / 8)=[]
   ·rw [if_neg (fun e=>e.1 hd),if_neg (fun e=>e.1 hd)]
   ·have hne:(dirL A (j / 8)).length≠i:=by
     intro e
     have h1:=(dirL_at (A:=A) (n:=A.n) (r:=j / 8) (by omega) hd).2
     have h2:=(dirL_at (A:=A) (n:=A.n) d2 d1).2
     rw [e] at h1;rw [d3] at h2;omega
    by_cases hlt:(dirL A (j / 8)).length<i
    ·rw [if_pos ⟨hd,hlt⟩,if_pos ⟨hd,by omega⟩]
    ·rw [if_neg (fun e=>hlt e.2),if_neg (fun e=>by omega)]
def gI (A:Dv) (c:List UInt8) (r:Nat):Nat:=if c.length=0 then 0 else kI A c (dirL A r).length
theorem contS_img {A:Dv} (h:WF A) (c:List UInt8):contS A (gI A c)=imgC A c:=by
 refine list_getD (by rw [contS_len,imgC_len,h.per]) fun j hj=>?_
 rw [contS_len] at hj
 rw [contS_get _ _ _ hj]
 unfold gI imgC
 by_cases hc:c.length=0
 ·simp only [if_pos hc];rw [List.take_zero];rfl
 ·simp only [if_neg hc]
  rw [imgW_get h c (Nat.le_refl _) hj]
  by_cases hd:A.hist (j / 8)=[]
  ·rw [if_neg (fun e=>e.1 hd),hd];simp [appL]
  ·rw [if_pos ⟨hd,(dirL_at (by omega) hd).1⟩]
theorem gI_le {A:Dv} (c:List UInt8) {r:Nat} (hr:r<A.n) (hd:A.hist r≠[]):gI A c r≤(A.hist r).length:=by
 unfold gI kI
 rw [(dirL_at hr hd).2]
 split
 ·omega
 ·have:=Nat.mod_lt (c.getD ((dirL A r).length % c.length) default).toNat (show 0<(A.hist r).length+1 by omega)
  omega
end Go.Proofs.YtckhjklcfagkoaaGreatDoor
namespace Go.Proofs.YtckhjklcfagkoaaGreatDoor
open Go Go.Ab
attribute [local irreducible] callK callF loopQ vstep vskip pickE hideP
theorem own_ple {Z:Nat→Prop} {lb:Lb} {L:List (Option Ob)} {w:World} {i sz:Nat} {es es':List PV} (h:Own Z lb L w) (hi:L[i]? = some (some (.arr sz es))) (hp:PLes es es'):Own Z lb (L.set i (some (.arr sz es'))) w:=by
 have hlt:i<L.length:=by
  rcases Nat.lt_or_ge i L.length with h1 | h1
  ·exact h1
  ·rw [List.getElem?_eq_none h1] at hi;cases hi
 have get:∀ (j:Nat) o,(L.set i (some (.arr sz es')))[j]? = some (some o)→(j=i∧o=.arr sz es')∨(j≠i∧L[j]? = some (some o)):=by
  intro j o hj
  by_cases e:i=j
  ·subst e
   rw [List.getElem?_set_self hlt] at hj
   simp only [Option.some.injEq] at hj
   exact .inl ⟨rfl,hj.symm⟩
  ·rw [List.getElem?_set_ne e] at hj
   exact .inr ⟨fun h=>e h.symm,hj⟩
 refine ⟨by rw [List.length_set];exact h.len,fun j o hj=>?_,fun j hj=>?_,fun j k o o' b hj hk l1 l2 e1 e2=>?_,h.zlt⟩
 ·rcases get j o hj with ⟨rfl,rfl⟩ | ⟨_,hj⟩
  ·obtain ⟨x,h1,h2⟩:=h.obj _ _ hi
   refine ⟨x,h1,?_⟩
   cases x with
   | none =>
    obtain ⟨rfl,h3⟩:=h2
    simp only [PLes] at hp
    exact ⟨hp,h3⟩
   | some b =>
    obtain ⟨a1,a2,vs,arr,ty,fr,a3,a4⟩:=h2
    exact ⟨a1,a2,vs,arr,ty,fr,ples_rep _ _ _ hp a3,a4⟩
  ·exact h.obj _ _ hj
 ·by_cases e:i=j
  ·subst e;rw [List.getElem?_set_self hlt] at hj;cases hj
  ·rw [List.getElem?_set_ne e] at hj;exact h.hole _ hj
 ·have old:∀ (j:Nat) o,(L.set i (some (.arr sz es')))[j]? = some (some o)→o.live→∃ o2,L[j]? = some (some o2)∧o2.live:=by
   intro j o hj hl
   rcases get j o hj with ⟨rfl,rfl⟩ | ⟨_,hj⟩
   ·exact ⟨_,hi,trivial⟩
   ·exact ⟨o,hj,hl⟩
  obtain ⟨p1,p2,p3⟩:=old j o hj l1
  obtain ⟨q1,q2,q3⟩:=old k o' hk l2
  exact h.inj j k _ _ b p2 q2 p3 q3 e1 e2
theorem acalls_ple {P:Program} {f:FuncId} {args:List AV} {L L':List Ob} {r:AV} {i sz:Nat} {es es':List PV} (h:ACalls P f args L r L') (hi:L'[i]? = some (.arr sz es)) (hp:PLes es es'):ACalls P f args L r (L'.set i (.arr sz es')):=by
 refine ⟨h.1,by rw [List.length_set];exact h.2.1,fun Z lb w vals ho hr=>?_⟩
 refine (h.2.2 Z lb w vals ho hr).mono fun e w'=>?_
 rintro ⟨u,Z',lb',h1,h2,h3⟩
 refine ⟨u,Z',lb',h1,?_,h3⟩
 rw [List.map_set]
 exact own_ple h2 (by rw [List.getElem?_map,hi];rfl) hp
theorem ples_map {α:Type} (f g:α→PV) (l:List α) (h:∀ x,x∈l→PLe (f x) (g x)):PLes (l.map f) (l.map g):=by
 induction l with
 | nil=>simp [PLes]
 | cons x l ih =>
  simp only [List.map_cons,PLes]
  exact ⟨h x (List.mem_cons_self ..),ih fun y hy=>h y (List.mem_cons_of_mem _ hy)⟩
end Go.Proofs.YtckhjklcfagkoaaGreatDoor
namespace Go.Proofs.YtckhjklcfagkoaaGreatDoor
set_option maxHeartbeats 4000000
set_option maxRecDepth 100000
open Go Go.Ab
attribute [local irreducible] callK callF loopQ vstep vskip pickE hideP
attribute [local go_sem] rdO rlO lns_len eNd
theorem r_frz {P:Program} {nb:Nat} {Q:Exit→ASt→Prop} {s:ASt} {c:Code} (keep:List Nat) (vs:Nat→List (Nat × AV)) (h:∀ I,hdS nb s keep vs (fun _=>[]) []=I→wkAll nb s I (sgOf nb s I.t I.L)∧awp P nb c Q I):awp P nb c Q s :=
 r_weak (wk_auto (h _ rfl).1) (h _ rfl).2
theorem rCurrent (A:Dv) (M:MT) (h:WF A) (hp:RngL A.per) (hC:CurOk A):ACalls Tryz.prog 53 [.loc 0 0] [rdO A M 1,rlO A] (.p (.view 1 (oL A.cur (64*A.n)))) [rdO A M 1,rlO A]:=by
 refine yA (E:=E) (fn:=Tryz.f53) 30 [.tmp 2] rfl rfl rfl rfl (by decide) rfl rfl ?_
 have h6:=h.n6
 have kd:=rDirty A M h
 have hml:∀ r,r<A.n→A.hist r≠[]→kC A ((dirL A A.n).map fun r=>(A.hist r).length) r=(A.hist r).length∧(A.hist r).length≤(A.hist r).length:=fun r h1 h2=>⟨kC_map _ h1 h2,Nat.le_refl _⟩
 have hlt:=dirL_len A A.n
 have kc:=rCont A M h hp ((dirL A A.n).map fun r=>(A.hist r).length) (by rw [List.length_map];omega) (kC_le _ _ hml)
 rw [contS_dir (fun r h1 h2=>(hml r h1 h2).1),← (show A.cur=_ from hC),List.map_map] at kc
 repeat' (first
  | (with_reducible first | apply zY | apply zT | apply zM | apply zN | apply zO | refine qK ?_ | (show False;omega))
  | ((with_reducible first | apply zP | apply zQ | apply zR | apply zL)<;>intro h<;>try (exfalso;first | omega | exact h rfl | (revert h;decide) | (cases h;done)))
  | ((first | (with_reducible first | apply zW | apply zV | apply zU | apply zS | apply zX | show VX _ _ _ _ _ _ _ | show vstep _ _ _ _ _ | show vskip _ _ _ | show withV _ _ | apply qN | apply qR | refine zB default ?_ | refine zC default ?_ | refine qI ?_) | (with_reducible first | apply zG | apply zH | apply zI) | ((with_reducible apply zJ);(first | exact kd)) | ((with_reducible show pickE _ _ _);refine qA _ ?_));try simp -dsimp -implicitDefEqProofs (maxSteps:=1000000) (disch:=first | omega | (simp only [LN];omega)) only [go_sem])
 )
 refine r_loopA (α:=Nat) [0,8,9] (fun i b=>[(3,.sl b 1 0 i),(10,aI i)]) (fun i b=>[]) (fun i=>[.arr 1 (((dirL A A.n).take i).map (eNd ∘ fun r=>(A.hist r).length))]) (fun i=>i≤(dirL A A.n).length) (fun i=>(dirL A A.n).length - i) (0) ?h0_1 ?hs0_1 ?I_1 ?hI_1 ?round_1
 case hI_1=>intro x;(simp -dsimp -implicitDefEqProofs (maxSteps:=1000000) (disch:=first | omega | (simp only [LN];omega)) only [go_sem])<;>exact rfl
 case hs0_1=>refine wk_auto ?_;(simp -dsimp -implicitDefEqProofs (maxSteps:=1000000) (disch:=first | omega | (simp only [LN,List.take_zero,List.map_nil];omega)) only [go_sem,List.take_zero,List.map_nil])<;>(try omega)
 case h0_1=>exact Nat.zero_le _
 case round_1 =>
  intro i h1
  have w3:IntKind.i64.wrap ((i:Int)+1)=((i+1:Nat):Int):=by rw [IntKind.wrap_i64];push_cast;omega
  by_cases hi:i<(dirL A A.n).length
  ·have hr:=(dirL_ix hi).2.1
   have ht:=yE default hi
   obtain ⟨r,hx⟩:∃ r,(dirL A A.n).getD i default=r:=⟨_,rfl⟩
   rw [hx] at hr ht
   have hg:=lns_get A hr
   have hl:(((dirL A A.n).take i).map (eNd ∘ fun r=>(A.hist r).length)).length=i:=by rw [List.length_map,List.length_take];omega
   repeat' (first
    | (with_reducible first | apply zY | apply zT | apply zM | apply zN | apply zO | refine qK ?_ | (show False;omega))
    | ((with_reducible first | apply zP | apply zQ | apply zR | apply zL)<;>intro h<;>try (exfalso;first | omega | exact h rfl | (revert h;decide) | (cases h;done)))
    | ((first | (with_reducible first | apply zW | apply zV | apply zU | apply zS | apply zX | show VX _ _ _ _ _ _ _ | show vstep _ _ _ _ _ | show vskip _ _ _ | show withV _ _ | apply qN | apply qR | refine zB default ?_ (by first | omega | (simp only [LN,hx,hg,lnP,w3];omega)) (by first | omega | (simp only [LN,hx,hg,lnP,w3];omega)) | refine zC default ?_ (by first | omega | (simp only [LN,hx,hg,lnP,w3];omega)) | refine qI ?_ (by first | decide | omega | assumption | (simp only [LN,hx,hg,lnP,w3];omega))) | ((with_reducible show pickE _ _ _);refine qA _ ?_));try simp -dsimp -implicitDefEqProofs (maxSteps:=1000000) (disch:=first | omega | (simp only [LN,hx,hg,lnP,w3];omega)) only [go_sem,hx,hg,lnP,w3])
   )
   all_goals first | omega | ((refine zZ (i+1) ?_ ?_ ?_;(omega);(show _<_;omega);(simp -dsimp -implicitDefEqProofs (maxSteps:=1000000) (disch:=first | omega | (simp only [LN,ht,List.map_append];omega)) only [go_sem,ht,List.map_append];try trivial));exact .inl rfl)
  ·obtain rfl:i=(dirL A A.n).length:=by omega
   have hl:(((dirL A A.n)).map (eNd ∘ fun r=>(A.hist r).length)).length=(dirL A A.n).length:=by rw [List.length_map]
   rw [List.take_length]
   repeat' ((fail_if_success (with_reducible show awp _ _ (Code.region 7 _ _) _ _));first
    | (with_reducible first | apply zY | apply zT | apply zM | apply zN | apply zO | refine qK ?_ | (show False;omega))
    | ((with_reducible first | apply zP | apply zQ | apply zR | apply zL)<;>intro h<;>try (exfalso;first | omega | exact h rfl | (revert h;decide) | (cases h;done)))
    | ((first | (with_reducible first | apply zW | apply zV | apply zU | apply zS | apply zX | show VX _ _ _ _ _ _ _ | show vstep _ _ _ _ _ | show vskip _ _ _ | show withV _ _ | apply qN | apply qR | refine zB default ?_ | refine zC default ?_ | refine qI ?_) | ((with_reducible show pickE _ _ _);refine qA _ ?_));try simp -dsimp -implicitDefEqProofs (maxSteps:=1000000) (disch:=first | omega | (simp only [LN];omega)) only [go_sem])
   )
   refine r_frz [0] (fun b=>[(3,.p (.view 1 ((dirL A A.n).map (eNd ∘ fun r=>(A.hist r).length))))]) fun I hI=>?_
   simp -dsimp -implicitDefEqProofs (maxSteps:=1000000) (disch:=first | omega | (simp only [LN];omega)) only [go_sem] at hI
   subst hI
   refine And.intro ?_ ?_
   ·(simp -dsimp -implicitDefEqProofs (maxSteps:=1000000) (disch:=first | omega | (simp only [LN,hl];omega)) only [go_sem,hl])<;>(try omega)
   repeat' (first
    | (with_reducible first | apply zY | apply zT | apply zM | apply zN | apply zO | refine qK ?_ | (show False;omega))
    | ((with_reducible first | apply zP | apply zQ | apply zR | apply zL)<;>intro h<;>try (exfalso;first | omega | exact h rfl | (revert h;decide) | (cases h;done)))
    | ((first | (with_reducible first | apply zW | apply zV | apply zU | apply zS | apply zX | show VX _ _ _ _ _ _ _ | show vstep _ _ _ _ _ | show vskip _ _ _ | show withV _ _ | apply qN | apply qR | refine zB default ?_ | refine zC default ?_ | refine qI ?_) | (with_reducible first | apply zG | apply zH | apply zI) | ((with_reducible apply zJ);(first | exact kc)) | ((with_reducible show pickE _ _ _);refine qA _ ?_));try simp -dsimp -implicitDefEqProofs (maxSteps:=1000000) (disch:=first | omega | (simp only [LN];omega)) only [go_sem])
   )
   all_goals first | omega | rfl
def zLn:PV:=.agg [.v (.int .u64 0),.v (.int .u64 0),.v (.int .u64 0),.v (.int .u64 0),.v (.int .u64 0),.v (.int .u64 0),.v (.int .u64 0),.v (.int .u64 0),.v (.slice none 0 0),.v (.int .i64 0)]
theorem rNew0 (n:Nat) (hn:0<n∧n≤6):ACalls Tryz.prog 78 [.p (.v (.int .i64 n))] [] (.loc 0 0) [rdO (Dv.fresh n (List.replicate (8*n) 0)) (fun _=>[]) 1,.arr 10 (List.replicate n zLn)]:=by
 refine yA (E:=E) (fn:=Tryz.f78) 7 [.tmp 2] rfl rfl rfl rfl (by decide) rfl rfl ?_
 repeat' (first
  | (with_reducible first | apply zY | apply zT | apply zM | apply zN | apply zO | refine qK ?_ | (show False;omega))
  | ((with_reducible first | apply zP | apply zQ | apply zR | apply zL)<;>intro h)
  | ((first | (with_reducible first | apply zW | apply zV | apply zU | apply zS | apply zX | show VX _ _ _ _ _ _ _ | show vstep _ _ _ _ _ | show vskip _ _ _ | show withV _ _ | apply qN | apply qR | refine zB default ?_ | refine zC default ?_ | refine qI ?_) | ((with_reducible show pickE _ _ _);refine qA _ ?_));try simp -dsimp -implicitDefEqProofs (maxSteps:=1000000) (disch:=first | omega | (simp only [LN];omega)) only [go_sem])
 )
 all_goals (simp [Dv.fresh,leftR,zLn])
theorem zLn_le (n:Nat):PLes (List.replicate n zLn) (lnsR (Dv.fresh n (List.replicate (8*n) 0))):=by
 rw [show List.replicate n zLn=(List.range n).map fun _=>zLn from by apply List.ext_getElem (by simp);intro i h1 h2;simp]
 refine ples_map _ _ _ fun i hi=>?_
 have hi:=List.mem_range.1 hi
 have hw:∀ j,j<8→wA (List.replicate (8*n) 0) i j=.v (.int .u64 0):=fun j hj=>by
  unfold wA;simp [List.getD_eq_getElem?_getD,show 8*i+j<8*n by omega]
 simp only [lnP,Dv.fresh]
 rw [hw 0 (by decide),hw 1 (by decide),hw 2 (by decide),hw 3 (by decide),hw 4 (by decide),hw 5 (by decide),hw 6 (by decide),hw 7 (by decide)]
 simp [zLn,PLe,PLes]
theorem rNew (n:Nat) (hn:0<n∧n≤6):ACalls Tryz.prog 78 [.p (.v (.int .i64 n))] [] (.loc 0 0) [rdO (Dv.fresh n (List.replicate (8*n) 0)) (fun _=>[]) 1,rlO (Dv.fresh n (List.replicate (8*n) 0))] :=
 acalls_ple (i:=1) (rNew0 n hn) rfl (zLn_le n)
end Go.Proofs.YtckhjklcfagkoaaGreatDoor
namespace Go.Proofs.YtckhjklcfagkoaaGreatDoor
set_option maxHeartbeats 4000000
set_option maxRecDepth 100000
open Go Go.Ab
attribute [local irreducible] callK callF loopQ vstep vskip pickE hideP
attribute [local go_sem] rdO rlO lns_len eNd eC setOb
theorem rImage (A:Dv) (M:MT) (h:WF A) (hp:RngL A.per) (c:List UInt8) (hc:c.length≤1000000):ACalls Tryz.prog 51 [.loc 0 0,.p (.view 1 (c.map eC))] [rdO A M 1,rlO A] (.p (.view 1 (oL (imgC A c) (64*A.n)))) [rdO A M 1,rlO A]:=by
 refine yA (E:=E) (fn:=Tryz.f51) 48 [.tmp 4] rfl rfl rfl rfl (by decide) rfl rfl ?_
 have h6:=h.n6
 have kd:=rDirty A M h
 have hml:∀ r,r<A.n→A.hist r≠[]→kC A ((dirL A A.n).map (gI A c)) r=gI A c r∧gI A c r≤(A.hist r).length:=fun r h1 h2=>⟨kC_map _ h1 h2,gI_le c h1 h2⟩
 have hlt:=dirL_len A A.n
 have kc:=rCont A M h hp ((dirL A A.n).map (gI A c)) (by rw [List.length_map];omega) (kC_le _ _ hml)
 rw [contS_dir (fun r h1 h2=>(hml r h1 h2).1),contS_img h c,List.map_map] at kc
 repeat' (first
  | (with_reducible first | apply zY | apply zT | apply zM | apply zN | apply zO | refine qK ?_ | (show False;omega))
  | ((with_reducible first | apply zP | apply zQ | apply zR | apply zL)<;>intro h<;>try (exfalso;first | omega | exact h rfl | (revert h;decide) | (cases h;done)))
  | ((first | (with_reducible first | apply zW | apply zV | apply zU | apply zS | apply zX | show VX _ _ _ _ _ _ _ | show vstep _ _ _ _ _ | show vskip _ _ _ | show withV _ _ | apply qN | apply qR | refine zB default ?_ | refine zC default ?_ | refine qI ?_) | (with_reducible first | apply zG | apply zH | apply zI) | ((with_reducible apply zJ);(first | exact kd)) | ((with_reducible show pickE _ _ _);refine qA _ ?_));try simp -dsimp -implicitDefEqProofs (maxSteps:=1000000) (disch:=first | omega | (simp only [LN];omega)) only [go_sem])
 )
 refine r_loopA (α:=Nat) [0,1,11,12] (fun i b=>[(5,.sl b 1 0 i),(13,aI i)]) (fun i b=>[]) (fun i=>[.arr 1 (((dirL A A.n).take i).map (eNd ∘ gI A c))]) (fun i=>i≤(dirL A A.n).length) (fun i=>(dirL A A.n).length - i) (0) ?h0_1 ?hs0_1 ?I_1 ?hI_1 ?round_1
 case hI_1=>intro x;(simp -dsimp -implicitDefEqProofs (maxSteps:=1000000) (disch:=first | omega | (simp only [LN];omega)) only [go_sem])<;>exact rfl
 case hs0_1=>refine wk_auto ?_;(simp -dsimp -implicitDefEqProofs (maxSteps:=1000000) (disch:=first | omega | (simp only [LN,List.take_zero,List.map_nil];omega)) only [go_sem,List.take_zero,List.map_nil])<;>(try omega)
 case h0_1=>exact Nat.zero_le _
 case round_1 =>
  intro i h1
  have w3:IntKind.i64.wrap ((i:Int)+1)=((i+1:Nat):Int):=by rw [IntKind.wrap_i64];push_cast;omega
  by_cases hi:i<(dirL A A.n).length
  ·obtain ⟨d1,d2,d3⟩:=dirL_ix hi
   have ht:=yE default hi
   have hk0:kI A c i=(c.getD (i % c.length) default).toNat % ((A.hist ((dirL A A.n).getD i default)).length+1):=rfl
   obtain ⟨r,hx⟩:∃ r,(dirL A A.n).getD i default=r:=⟨_,rfl⟩
   rw [hx] at d1 d2 d3 ht hk0
   have hg:=lns_get A d2
   have hl:=h.len r (by omega)
   have hll:(((dirL A A.n).take i).map (eNd ∘ gI A c)).length=i:=by rw [List.length_map,List.length_take];omega
   by_cases hz:c.length=0
   ·have hgi:gI A c r=0:=if_pos hz
    repeat' (first
     | (with_reducible first | apply zY | apply zT | apply zM | apply zN | apply zO | refine qK ?_ | (show False;omega))
     | ((with_reducible first | apply zP | apply zQ | apply zR | apply zL)<;>intro h<;>try (exfalso;first | omega | exact h rfl | (revert h;decide) | (cases h;done)))
     | ((first | (with_reducible first | apply zW | apply zV | apply zU | apply zS | apply zX | show VX _ _ _ _ _ _ _ | show vstep _ _ _ _ _ | show vskip _ _ _ | show withV _ _ | apply qN | apply qR | refine zB default ?_ (by first | omega | (simp only [LN,hx,hg,lnP,w3];omega)) (by first | omega | (simp only [LN,hx,hg,lnP,w3];omega)) | refine zC default ?_ (by first | omega | (simp only [LN,hx,hg,lnP,w3];omega)) | refine qI ?_ (by first | decide | omega | assumption | (simp only [LN,hx,hg,lnP,w3];omega))) | ((with_reducible show pickE _ _ _);refine qA _ ?_));try simp -dsimp -implicitDefEqProofs (maxSteps:=1000000) (disch:=first | omega | (simp only [LN,hx,hg,lnP,w3];omega)) only [go_sem,hx,hg,lnP,w3])
    )
    all_goals first | omega | ((refine zZ (i+1) ?_ ?_ ?_;(omega);(show _<_;omega);(simp -dsimp -implicitDefEqProofs (maxSteps:=1000000) (disch:=first | omega | (simp only [LN,ht,List.map_append];omega)) only [go_sem,ht,List.map_append];try trivial));exact .inl (by simp [eNd,hgi]))
   ·have hgi:gI A c r=kI A c i:=by unfold gI;rw [if_neg hz,d3]
    have e1:(i:Int).tmod c.length=((i % c.length:Nat):Int):=(Int.ofNat_tmod _ _).symm
    have e2:i % c.length<c.length:=Nat.mod_lt _ (by omega)
    have e3:IntKind.i64.wrap ((c.getD (i % c.length) default).toNat:Int)=((c.getD (i % c.length) default).toNat:Int):=by
     have:=(c.getD (i % c.length) default).toNat_lt;rw [IntKind.wrap_i64];omega
    have e4:IntKind.i64.wrap (((A.hist r).length:Int)+1)=(((A.hist r).length+1:Nat):Int):=by rw [IntKind.wrap_i64];omega
    have e5:((c.getD (i % c.length) default).toNat:Int).tmod (((A.hist r).length+1:Nat):Int)=((kI A c i:Nat):Int):=by rw [hk0];exact (Int.ofNat_tmod _ _).symm
    have e6:((c.getD (i % c.length) default).toNat:Int).tmod (((A.hist r).length:Int)+1)=((kI A c i:Nat):Int):=e5
    have e7:IntKind.i64.wrap ((i % c.length:Nat):Int)=((i % c.length:Nat):Int):=by rw [IntKind.wrap_i64];omega
    have e8:kI A c i≤(A.hist r).length:=by rw [← hgi];exact gI_le c d2 d1
    have e9:IntKind.i64.wrap ((kI A c i:Nat):Int)=((kI A c i:Nat):Int):=by rw [IntKind.wrap_i64];omega
    repeat' (first
     | (with_reducible first | apply zY | apply zT | apply zM | apply zN | apply zO | refine qK ?_ | (show False;omega))
     | ((with_reducible first | apply zP | apply zQ | apply zR | apply zL)<;>intro h<;>try (exfalso;first | omega | exact h rfl | (revert h;decide) | (cases h;done)))
     | ((first | (with_reducible first | apply zW | apply zV | apply zU | apply zS | apply zX | show VX _ _ _ _ _ _ _ | show vstep _ _ _ _ _ | show vskip _ _ _ | show withV _ _ | apply qN | apply qR | refine zB default ?_ (by first | omega | (simp only [LN,hx,hg,lnP,w3,e1,e3,e4,e5,e6,e7,e9];omega)) (by first | omega | (simp only [LN,hx,hg,lnP,w3,e1,e3,e4,e5,e6,e7,e9];omega)) | refine zC default ?_ (by first | omega | (simp only [LN,hx,hg,lnP,w3,e1,e3,e4,e5,e6,e7,e9];omega)) | refine qI ?_ (by first | decide | omega | assumption | (simp only [LN,hx,hg,lnP,w3,e1,e3,e4,e5,e6,e7,e9];omega))) | ((with_reducible show pickE _ _ _);refine qA _ ?_));try simp -dsimp -implicitDefEqProofs (maxSteps:=1000000) (disch:=first | omega | (simp only [LN,hx,hg,lnP,w3,e1,e3,e4,e5,e6,e7,e9];omega)) only [go_sem,hx,hg,lnP,w3,e1,e3,e4,e5,e6,e7,e9])
    )
    all_goals first | omega | ((refine zZ (i+1) ?_ ?_ ?_;(omega);(show _<_;omega);(simp -dsimp -implicitDefEqProofs (maxSteps:=1000000) (disch:=first | omega | (simp only [LN,ht,List.map_append];omega)) only [go_sem,ht,List.map_append];try trivial));exact .inl (by simp [eNd,hgi]))
  ·obtain rfl:i=(dirL A A.n).length:=by omega
   have hl:(((dirL A A.n)).map (eNd ∘ gI A c)).length=(dirL A A.n).length:=by rw [List.length_map]
   rw [List.take_length]
   repeat' ((fail_if_success (with_reducible show awp _ _ (Code.region 10 _ _) _ _));first
    | (with_reducible first | apply zY | apply zT | apply zM | apply zN | apply zO | refine qK ?_ | (show False;omega))
    | ((with_reducible first | apply zP | apply zQ | apply zR | apply zL)<;>intro h<;>try (exfalso;first | omega | exact h rfl | (revert h;decide) | (cases h;done)))
    | ((first | (with_reducible first | apply zW | apply zV | apply zU | apply zS | apply zX | show VX _ _ _ _ _ _ _ | show vstep _ _ _ _ _ | show vskip _ _ _ | show withV _ _ | apply qN | apply qR | refine zB default ?_ | refine zC default ?_ | refine qI ?_) | ((with_reducible show pickE _ _ _);refine qA _ ?_));try simp -dsimp -implicitDefEqProofs (maxSteps:=1000000) (disch:=first | omega | (simp only [LN];omega)) only [go_sem])
   )
   refine r_frz [0] (fun b=>[(5,.p (.view 1 ((dirL A A.n).map (eNd ∘ gI A c))))]) fun I hI=>?_
   simp -dsimp -implicitDefEqProofs (maxSteps:=1000000) (disch:=first | omega | (simp only [LN];omega)) only [go_sem] at hI
   subst hI
   refine And.intro ?_ ?_
   ·(simp -dsimp -implicitDefEqProofs (maxSteps:=1000000) (disch:=first | omega | (simp only [LN,hl];omega)) only [go_sem,hl])<;>(try omega)
   repeat' (first
    | (with_reducible first | apply zY | apply zT | apply zM | apply zN | apply zO | refine qK ?_ | (show False;omega))
    | ((with_reducible first | apply zP | apply zQ | apply zR | apply zL)<;>intro h<;>try (exfalso;first | omega | exact h rfl | (revert h;decide) | (cases h;done)))
    | ((first | (with_reducible first | apply zW | apply zV | apply zU | apply zS | apply zX | show VX _ _ _ _ _ _ _ | show vstep _ _ _ _ _ | show vskip _ _ _ | show withV _ _ | apply qN | apply qR | refine zB default ?_ | refine zC default ?_ | refine qI ?_) | (with_reducible first | apply zG | apply zH | apply zI) | ((with_reducible apply zJ);(first | exact kc)) | ((with_reducible show pickE _ _ _);refine qA _ ?_));try simp -dsimp -implicitDefEqProofs (maxSteps:=1000000) (disch:=first | omega | (simp only [LN];omega)) only [go_sem])
   )
   all_goals first | omega | rfl
theorem fW_0' (p:List UInt8) (m:Nat):List.replicate m 0=fW p m 0:=by
 unfold fW
 apply List.ext_getElem (by simp)
 intro i h1 h2
 simp [wrdU]
theorem wrd_add (a b q i:Nat) (hq:(2:Int) ^ i=(q:Int)) (h1:b<256) (h3:a+b*q<18446744073709551616) :
  IntKind.u64.wrap ((a:Int)+IntKind.u64.wrap (IntKind.u64.wrap (b:Int)*2 ^ i))=((a+b*q:Nat):Int):=by
 have e1:IntKind.u64.wrap (b:Int)=b:=by rw [IntKind.wrap_u64];omega
 have e2:(b:Int)*2 ^ i=((b*q:Nat):Int):=by rw [hq,Int.natCast_mul]
 rw [e1,e2]
 generalize b*q=x at *
 have e3:IntKind.u64.wrap (x:Int)=x:=by rw [IntKind.wrap_u64];omega
 rw [e3,IntKind.wrap_u64]
 omega
theorem rFrom (p:List UInt8) (n:Nat) (hp:p.length=64*n) (hn:0<n∧n≤6):ACalls Tryz.prog 50 [.p (.view 1 (p.map eC))] [] (.loc 0 0) [rdO (Dv.fresh n (fW p (8*n) p.length)) (fun _=>[]) 1,rlO (Dv.fresh n (fW p (8*n) p.length))]:=by
 refine yA (E:=E) (fn:=Tryz.f50) 44 [.tmp 2] rfl rfl rfl rfl (by decide) rfl rfl ?_
 have kn:=rNew n hn
 have e2:IntKind.i64.wrap ((p.length:Int).tdiv 64)=(n:Int):=by rw [show ((p.length:Int).tdiv 64)=((p.length / 64:Nat):Int) from rfl,IntKind.wrap_i64];omega
 have e7:((p.length:Int).tdiv 64)=(n:Int):=by rw [show ((p.length:Int).tdiv 64)=((p.length / 64:Nat):Int) from rfl];omega
 repeat' (first
  | (with_reducible first | apply zY | apply zT | apply zM | apply zN | apply zO | refine qK ?_ | (show False;omega))
  | ((with_reducible first | apply zP | apply zQ | apply zR | apply zL)<;>intro h<;>try (exfalso;first | omega | exact h rfl | (revert h;decide) | (cases h;done)))
  | ((first | (with_reducible first | apply zW | apply zV | apply zU | apply zS | apply zX | show VX _ _ _ _ _ _ _ | show vstep _ _ _ _ _ | show vskip _ _ _ | show withV _ _ | apply qN | apply qR | refine zB default ?_ (by first | omega | (simp only [LN,e2,e7];omega)) (by first | omega | (simp only [LN,e2,e7];omega)) | refine zC default ?_ (by first | omega | (simp only [LN,e2,e7];omega)) | refine qI ?_ (by first | decide | omega | assumption | (simp only [LN,e2,e7];omega))) | (with_reducible first | apply zG | apply zH | apply zI) | ((with_reducible apply zJ);(first | exact kn)) | ((with_reducible show pickE _ _ _);refine qA _ ?_));try simp -dsimp -implicitDefEqProofs (maxSteps:=1000000) (disch:=first | omega | (simp only [LN,e2,e7];omega)) only [go_sem,e2,e7])
 )
 refine r_loopS (α:=Nat) [0,3] (fun i b=>[(4,aI i)]) (fun i b=>[]) (fun i=>[]) (fun i=>[(1,rlO (Dv.fresh n (fW p (8*n) i)))]) (fun i=>i≤p.length) (fun i=>p.length - i) (0) ?_ ?_ ?_ ?_ ?_
 rotate_left 3
 ·intro x;(simp -dsimp -implicitDefEqProofs (maxSteps:=1000000) (disch:=first | omega | (simp only [LN];omega)) only [go_sem])<;>exact rfl
 rotate_left 2
 ·refine wk_auto ?_;(simp -dsimp -implicitDefEqProofs (maxSteps:=1000000) (disch:=first | omega | (simp only [LN,fW_0' p (8*n)];omega)) only [go_sem,fW_0' p (8*n)])<;>(try omega)
 rotate_left 1
 ·exact Nat.zero_le _
 ·intro i h1
  by_cases hi:i<p.length
  ·have a1:IntKind.i64.wrap ((i:Int).tdiv 64)=((i / 64:Nat):Int):=by rw [show ((i:Int).tdiv 64)=((i / 64:Nat):Int) from rfl,IntKind.wrap_i64];omega
   have a2:((i:Int).tdiv 64)=((i / 64:Nat):Int):=rfl
   have a3:(i:Int).tmod 64=((i % 64:Nat):Int):=rfl
   obtain ⟨m,hm8,hm⟩:∃ m:Nat,m<8∧i % 64 / 8=m:=⟨i % 64 / 8,by omega,rfl⟩
   have a4:((i % 64:Nat):Int).tdiv 8=(m:Int):=by rw [show ((i % 64:Nat):Int).tdiv 8=((i % 64 / 8:Nat):Int) from rfl,hm]
   have a5:IntKind.i64.wrap (m:Int)=m:=by rw [IntKind.wrap_i64];omega
   have hq8:8*(i / 64)+m=i / 8:=by omega
   have hin:i / 64<n:=by omega
   have hg:=lns_get (Dv.fresh n (fW p (8*n) i)) (r:=i / 64) hin
   have w3:IntKind.i64.wrap ((i:Int)+1)=((i+1:Nat):Int):=by rw [IntKind.wrap_i64];push_cast;omega
   have b2:(i:Int).tmod 8=((i % 8:Nat):Int):=rfl
   have b3:IntKind.i64.wrap (((i % 8:Nat):Int)*8)=((i % 8*8:Nat):Int):=by rw [IntKind.wrap_i64];omega
   have b5:(IntKind.u64.wrap ((i % 8*8:Nat):Int)).toNat=i % 8*8:=by rw [IntKind.wrap_u64];omega
   have b6:min (i % 8*8) 64=i % 8*8:=by omega
   have hq:=wrdU_lt p (8*(i / 8)) (i % 8+1)
   have h4:(256:Nat) ^ (i % 8+1)≤256 ^ 8:=Nat.pow_le_pow_right (by decide) (by omega)
   have h5:(256:Nat) ^ 8=18446744073709551616:=by decide
   have b7:=wrd_add (wrdU p (8*(i / 8)) (i % 8)) (bytU p (8*(i / 8)) (i % 8)) (256 ^ (i % 8)) (i % 8*8) (by rw [Nat.mul_comm];exact pow8U _) (bytU_lt _ _ _) (Nat.lt_of_lt_of_le hq (h5 ▸ h4))
   have hfg:∀ k j,j<8*n→(fW p (8*n) k).getD j 0=((wrdU p (8*j) (min 8 (k - 8*j)):Nat):Int):=fun k j hj=>fW_get _ _ _ _ hj 0
   have b8:(fW p (8*n) i).getD (8*(i / 64)+m) 0=((wrdU p (8*(i / 8)) (i % 8):Nat):Int):=by
    rw [hq8,hfg _ _ (by omega),show min 8 (i - 8*(i / 8))=i % 8 by omega]
   have b9:(p.getD i default).toNat=bytU p (8*(i / 8)) (i % 8):=by unfold bytU;rw [show 8*(i / 8)+i % 8=i by omega];rfl
   have f1:(fW p (8*n) (i+1)).getD (8*(i / 64)+m) 0=((wrdU p (8*(i / 8)) (i % 8+1):Nat):Int):=by
    rw [hq8,hfg _ _ (by omega),show min 8 (i+1 - 8*(i / 8))=i % 8+1 by omega]
   have f2:∀ j,j<8*n→j≠8*(i / 64)+m→(fW p (8*n) (i+1)).getD j 0=(fW p (8*n) i).getD j 0:=by
    intro j hj hne
    rw [hfg _ _ hj,hfg _ _ hj]
    by_cases hl:j<i / 8
    ·rw [show min 8 (i - 8*j)=8 by omega,show min 8 (i+1 - 8*j)=8 by omega]
    ·rw [show min 8 (i - 8*j)=0 by omega,show min 8 (i+1 - 8*j)=0 by omega]
   have ho:∀ q,q<n→q≠i / 64→lnP (Dv.fresh n (fW p (8*n) (i+1))) q=lnP (Dv.fresh n (fW p (8*n) i)) q:=by
    intro q hq1 hq2
    have hw:∀ j,j<8→wA (fW p (8*n) (i+1)) q j=wA (fW p (8*n) i) q j:=fun j hj=>by
     unfold wA;rw [f2 _ (by omega) (by omega)]
    simp only [lnP,Dv.fresh]
    rw [hw 0 (by decide),hw 1 (by decide),hw 2 (by decide),hw 3 (by decide),hw 4 (by decide),hw 5 (by decide),hw 6 (by decide),hw 7 (by decide)]
   have fper:∀ ws,(Dv.fresh n ws).per=ws:=fun _=>rfl
   rw [show wrdU p (8*(i / 8)) (i % 8+1)=wrdU p (8*(i / 8)) (i % 8)+bytU p (8*(i / 8)) (i % 8)*256 ^ (i % 8) from rfl] at f1
   have fn:∀ ws,(Dv.fresh n ws).n=n:=fun _=>rfl
   have c1:((i:Int) / 64).toNat=i / 64:=by omega
   rcases lt8 hm8 with rfl | rfl | rfl | rfl | rfl | rfl | rfl | rfl
   all_goals
    repeat' (first
     | (with_reducible first | apply zY | apply zT | apply zM | apply zN | apply zO | refine qK ?_ | (show False;omega))
     | ((with_reducible first | apply zP | apply zQ | apply zR | apply zL)<;>intro h<;>try (exfalso;first | omega | exact h rfl | (revert h;decide) | (cases h;done)))
     | ((first | (with_reducible first | apply zW | apply zV | apply zU | apply zS | apply zX | show VX _ _ _ _ _ _ _ | show vstep _ _ _ _ _ | show vskip _ _ _ | show withV _ _ | apply qN | apply qR | refine zB default ?_ (by first | omega | (simp only [LN,fn,c1,a1,a2,a3,a4,a5,hg,lnP,wA,w3,b2,b3,b5,b6,b8,b9];omega)) (by first | omega | (simp only [LN,fn,c1,a1,a2,a3,a4,a5,hg,lnP,wA,w3,b2,b3,b5,b6,b8,b9];omega)) | refine zC default ?_ (by first | omega | (simp only [LN,fn,c1,a1,a2,a3,a4,a5,hg,lnP,wA,w3,b2,b3,b5,b6,b8,b9];omega)) | refine qI ?_ (by first | decide | omega | assumption | (simp only [LN,fn,c1,a1,a2,a3,a4,a5,hg,lnP,wA,w3,b2,b3,b5,b6,b8,b9];omega))) | ((with_reducible show pickE _ _ _);refine qA _ ?_));try simp -dsimp -implicitDefEqProofs (maxSteps:=1000000) (disch:=first | omega | (simp only [LN,fn,c1,a1,a2,a3,a4,a5,hg,lnP,wA,w3,b2,b3,b5,b6,b8,b9];omega)) only [go_sem,fn,c1,a1,a2,a3,a4,a5,hg,lnP,wA,w3,b2,b3,b5,b6,b8,b9])
    )
    all_goals (refine zZ (i+1) ?_ ?_ ?_;(omega);(show _<_;omega);(simp -dsimp -implicitDefEqProofs (maxSteps:=1000000) (disch:=first | omega | (simp only [LN,fn,c1];omega)) only [go_sem,fn,c1];try trivial))
    all_goals
     refine .inl (lns_set (A:=Dv.fresh n (fW p (8*n) i)) (B:=Dv.fresh n (fW p (8*n) (i+1))) rfl ?_ ho)
     try simp only [Nat.add_zero] at f1 f2 b8
     simp (disch:=omega) only [lnP,wA,fper,f2,f1,b8,b7,Nat.add_zero]
     rfl
  ·obtain rfl:i=p.length:=by omega
   repeat' (first
    | (with_reducible first | apply zY | apply zT | apply zM | apply zN | apply zO | refine qK ?_ | (show False;omega))
    | ((with_reducible first | apply zP | apply zQ | apply zR | apply zL)<;>intro h<;>try (exfalso;first | omega | exact h rfl | (revert h;decide) | (cases h;done)))
    | ((first | (with_reducible first | apply zW | apply zV | apply zU | apply zS | apply zX | show VX _ _ _ _ _ _ _ | show vstep _ _ _ _ _ | show vskip _ _ _ | show withV _ _ | apply qN | apply qR | refine zB default ?_ | refine zC default ?_ | refine qI ?_) | ((with_reducible show pickE _ _ _);refine qA _ ?_));try simp -dsimp -implicitDefEqProofs (maxSteps:=1000000) (disch:=first | omega | (simp only [LN];omega)) only [go_sem])
   )
   all_goals first | omega | (simp [Dv.fresh,leftR];done)
end Go.Proofs.YtckhjklcfagkoaaGreatDoor
