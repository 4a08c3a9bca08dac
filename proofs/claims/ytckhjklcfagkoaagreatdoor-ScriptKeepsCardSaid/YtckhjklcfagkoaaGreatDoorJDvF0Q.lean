/- Contracts of functions of this program, and the plain facts that they rest on. No conditions. -/
import Derived.Test.YtckhjklcfagkoaaGreatDoorJScIQ
set_option linter.unusedSimpArgs false
set_option linter.unusedVariables false
namespace Go.Proofs.YtckhjklcfagkoaaGreatDoor
open Go Go.Ab
attribute [local irreducible] callK callF loopQ vstep vskip pickE hideP
set_option maxRecDepth 100000
attribute [local go_sem] deO peO cuO liO thO hiO noO
def Dv.put (A:Dv) (r:Nat) (o v:Int):Dv:={ A with hist:=upd A.hist r (A.hist r++[(o,v)]),cur:=A.cur.set (o / 8).toNat v }
def jput (A:Dv) (J:JT) (r:Nat) (g:Bool):JT:=fun i=>if i=r then (match g with | true=>jk A J r | false=>[]) else J i
theorem jk_put (A:Dv) (J:JT) (r i:Nat) (o v:Int) (g:Bool):jk (A.put r o v) (jput A J r g) i=if i=r then (match g with | true=>jk A J r | false=>[]) else jk A J i:=by
 unfold jk Dv.put upd jput
 by_cases h:i=r
 ·simp only [h,if_true]
  cases hh:A.hist r<;>cases g<;>simp [hh,jk]
 ·simp only [if_neg h]
theorem drop_row (a b:List (Int × Int)):(a.map eWr++b.map eWr).drop a.length=b.map eWr:=by
 rw [List.drop_append_of_le_length (by simp),List.drop_of_length_le (by simp),List.nil_append]
theorem put_p (A:Dv) (r:Nat) (o v:Int):(A.put r o v).n=A.n∧(A.put r o v).per=A.per∧(A.put r o v).cur=A.cur.set (o / 8).toNat v∧(A.put r o v).done=A.done∧(A.put r o v).err=A.err∧(A.put r o v).note=A.note∧(A.put r o v).off=A.off∧(A.put r o v).armed=A.armed∧(A.put r o v).left=A.left∧(A.put r o v).ex=A.ex:=⟨rfl,rfl,rfl,rfl,rfl,rfl,rfl,rfl,rfl,rfl⟩
theorem put_hist (A:Dv) (r i:Nat) (o v:Int):(A.put r o v).hist i=if i=r then A.hist r++[(o,v)] else A.hist i:=rfl
end Go.Proofs.YtckhjklcfagkoaaGreatDoor
namespace Go.Proofs.YtckhjklcfagkoaaGreatDoor
open Go Go.Ab
attribute [local irreducible] callK callF loopQ vstep vskip pickE hideP
set_option maxRecDepth 100000
attribute [local go_sem] deO peO cuO liO thO hiO noO
theorem fail_p (A:Dv) (k:Nat) (e:Int):(A.fail k e).n=A.n∧(A.fail k e).per=A.per∧(A.fail k e).cur=A.cur∧(A.fail k e).hist=A.hist∧(A.fail k e).done=A.done∧(A.fail k e).note=A.note∧(A.fail k e).off=A.off:=by
 unfold Dv.fail;split<;>exact ⟨rfl,rfl,rfl,rfl,rfl,rfl,rfl⟩
theorem cnt_p (A:Dv) (k:Nat) (v:Bool):(A.cnt k v).n=A.n∧(A.cnt k v).per=A.per∧(A.cnt k v).cur=A.cur∧(A.cnt k v).hist=A.hist∧(A.cnt k v).done=A.done∧(A.cnt k v).note=A.note:=by
 unfold Dv.cnt
 split
 ·obtain ⟨h1,h2,h3,h4,h5,h6,_⟩:=fail_p A k 3;exact ⟨h1,h2,h3,h4,h5,h6⟩
 ·split
  ·obtain ⟨h1,h2,h3,h4,h5,h6,_⟩:=fail_p A k 2;exact ⟨h1,h2,h3,h4,h5,h6⟩
  ·split
   ·split
    ·obtain ⟨h1,h2,h3,h4,h5,h6,_⟩:=fail_p { A with off:=true } k 3;exact ⟨h1,h2,h3,h4,h5,h6⟩
    ·exact ⟨rfl,rfl,rfl,rfl,rfl,rfl⟩
   ·exact ⟨rfl,rfl,rfl,rfl,rfl,rfl⟩
theorem WF.cnt {A:Dv} (h:WF A) (k:Nat) (v:Bool):WF (A.cnt k v):=by
 obtain ⟨e1,e2,e3,e4,e5,e6⟩:=cnt_p A k v
 exact ⟨by rw [e1];exact h.n0,by rw [e1];exact h.n6,by rw [e1,e2];exact h.per,by rw [e1,e3];exact h.cur,by rw [e4];exact h.hist,by rw [e1,e4];exact h.top,by rw [e4,e5];exact h.len,h.jl⟩
theorem jk_cnt (A:Dv) (J:JT) (k r:Nat) (v:Bool):jk (A.cnt k v) J r=jk A J r:=by
 unfold jk;rw [(cnt_p A k v).2.2.2.1]
def Dv.store (A:Dv) (k:Nat) (o v:Int):Dv:=if A.cntB (A.isW o)=true then (A.cnt k (A.isW o)).put (o / 64).toNat o v else A.cnt k (A.isW o)
def jsto (A:Dv) (J:JT) (k:Nat) (o:Int) (g:Bool):JT:=if A.cntB (A.isW o)=true then jput (A.cnt k (A.isW o)) J (o / 64).toNat g else J
theorem isW_of {A:Dv} {o:Int} (h:A.isW o=true) (h0:0≤o):((o / 64).toNat<A.n)∧o / 64=((o / 64).toNat:Int)∧o % 8=0:=by
 simp [Dv.isW] at h
 omega
theorem cntB_of {A:Dv} {v:Bool} (h:A.cntB v=true):v=true:=by
 simp [Dv.cntB] at h;exact h.2.1
end Go.Proofs.YtckhjklcfagkoaaGreatDoor
namespace Go.Proofs.YtckhjklcfagkoaaGreatDoor
open Go Go.Ab
attribute [local irreducible] callK callF loopQ vstep vskip pickE hideP
set_option maxRecDepth 100000
def NoteOk (A:Dv) (k:Nat):Prop:=∀ x v,A.note k x=some v→∃ r:Nat,r<A.n∧x=.int .i64 r∧0≤v∧v≤A.done r+(A.hist r).length
def kF (B:Dv) (k r:Nat):Nat:=match B.note k (.int .i64 r) with
 | some p=>(p - B.done r).toNat
 | none=>0
open Classical in
noncomputable def fencS (B:Dv) (k:Nat) (S:Nat→Prop):Dv:={ B with per:=contS B (fun r=>if S r then kF B k r else 0),hist:=fun r=>if S r then (B.hist r).drop (kF B k r) else B.hist r,done:=fun r=>if S r then B.done r+kF B k r else B.done r }
open Classical in
theorem fencS_per (B:Dv) (k:Nat) (S:Nat→Prop):(fencS B k S).per=contS B (fun r=>if S r then kF B k r else 0):=rfl
theorem appL_loc (l:List (Int × Int)) (j:Nat):∀ ws ws':List Int,ws.length=ws'.length→ws.getD j 0=ws'.getD j 0→(appL ws l).getD j 0=(appL ws' l).getD j 0:=by
 induction l with
 | nil=>intro ws ws' _ h;exact h
 | cons x l ih =>
  intro ws ws' hl h
  refine ih _ _ (by simp [hl]) ?_
  simp only [List.getD_eq_getElem?_getD,List.getElem?_set] at h ⊢
  by_cases e:(x.1 / 8).toNat=j
  ·simp only [e,if_true,hl]
  ·simp only [if_neg e,h]
theorem kF_le {B:Dv} {k r:Nat} (hn:NoteOk B k) (hl:0≤B.done r):kF B k r≤(B.hist r).length:=by
 unfold kF
 split
 ·rename_i p hp
  obtain ⟨r',h1,h2,h3,h4⟩:=hn _ _ hp
  simp only [Value.int.injEq,true_and] at h2
  have:r'=r:=by omega
  subst this
  omega
 ·omega
open Classical in
theorem wf_fencS {B:Dv} (h:WF B) {k:Nat} (hn:NoteOk B k) (S:Nat→Prop):WF (fencS B k S):=by
 refine ⟨h.n0,h.n6,?_,h.cur,?_,?_,?_,trivial⟩
 ·rw [fencS_per];exact contS_len _ _
 ·intro r hr x hx
  have hx:x∈(if S r then (B.hist r).drop (kF B k r) else B.hist r):=hx
  split at hx
  ·exact h.hist r hr x (List.mem_of_mem_drop hx)
  ·exact h.hist r hr x hx
 ·intro r h1 h2
  show (if S r then (B.hist r).drop (kF B k r) else B.hist r)=[]
  rw [h.top r h1 h2];split<;>simp
 ·intro r hr
  have hl:=h.len r hr
  have hk:=kF_le (r:=r) hn hl.1
  show 0≤(if S r then B.done r+kF B k r else B.done r)∧(if S r then B.done r+kF B k r else B.done r)+((if S r then (B.hist r).drop (kF B k r) else B.hist r).length:Int)≤1000000000
  split
  ·rw [List.length_drop];omega
  ·exact hl
theorem Dv.ext' {A B:Dv} (h1:A.n=B.n) (h2:A.per=B.per) (h3:A.cur=B.cur) (h4:A.hist=B.hist) (h5:A.done=B.done) (h6:A.err=B.err) (h7:A.note=B.note) (h8:A.off=B.off) (h9:A.armed=B.armed) (h10:A.left=B.left) (h11:A.ex=B.ex):A=B:=by
 cases A;cases B;simp_all
open Classical in
theorem fencS_none {B:Dv} (h:WF B) {k:Nat} {S:Nat→Prop} (hS:∀ r,r<6→S r→kF B k r=0) (hS':∀ r,6≤r→¬ S r):fencS B k S=B:=by
 refine Dv.ext' rfl ?_ rfl ?_ ?_ rfl rfl rfl rfl rfl rfl
 ·refine list_getD (by rw [fencS_per,contS_len,h.per]) fun j hj=>?_
  rw [fencS_per,contS_len] at hj
  rw [fencS_per,contS_get _ _ _ hj]
  have:(if S (j / 8) then kF B k (j / 8) else 0)=0:=by
   split
   ·rename_i hs;exact hS _ (by have:=h.n6;omega) hs
   ·rfl
  rw [this,List.take_zero];rfl
 ·funext r
  show (if S r then (B.hist r).drop (kF B k r) else B.hist r)=B.hist r
  split
  ·rename_i hs
   rcases Nat.lt_or_ge r 6 with h6 | h6
   ·rw [hS r h6 hs,List.drop_zero]
   ·exact absurd hs (hS' r h6)
  ·rfl
 ·funext r
  show (if S r then B.done r+kF B k r else B.done r)=B.done r
  split
  ·rename_i hs
   rcases Nat.lt_or_ge r 6 with h6 | h6
   ·rw [hS r h6 hs];simp
   ·exact absurd hs (hS' r h6)
  ·rfl
open Classical in
theorem fencS_step {B:Dv} (h:WF B) {k q:Nat} (hn:NoteOk B k) {S S':Nat→Prop} (hq:q<B.n) (h0:¬ S q) (hS:∀ r,S' r↔S r∨r=q):(fencS B k S).persist q (kF B k q)=fencS B k S':=by
 have hq':S' q:=(hS q).2 (.inr rfl)
 have hne:∀ r,r≠q→(S' r↔S r):=fun r hr=>⟨fun hs=>((hS r).1 hs).resolve_right hr,fun hs=>(hS r).2 (.inl hs)⟩
 have hhq:(fencS B k S).hist q=B.hist q:=if_neg h0
 refine Dv.ext' rfl ?_ rfl ?_ ?_ rfl rfl rfl rfl rfl rfl
 ·show appL (fencS B k S).per (((fencS B k S).hist q).take (kF B k q))=(fencS B k S').per
  rw [hhq,fencS_per B k S']
  refine list_getD (by rw [appL_len,fencS_per,contS_len,contS_len]) fun j hj=>?_
  rw [appL_len,fencS_per,contS_len] at hj
  rw [contS_get _ _ _ hj]
  by_cases e:j / 8=q
  ·rw [e,if_pos hq']
   refine appL_loc _ _ _ _ (by rw [fencS_per,contS_len,h.per]) ?_
   rw [fencS_per,contS_get _ _ _ hj,e,if_neg h0,List.take_zero];rfl
  ·rw [appL_off _ j (fun x hx=>?_),fencS_per,contS_get _ _ _ hj]
   ·by_cases hs:S (j / 8)
    ·rw [if_pos hs,if_pos ((hne _ e).2 hs)]
    ·rw [if_neg hs,if_neg (fun hs'=>hs ((hne _ e).1 hs'))]
   ·have:=h.hist q (by have:=h.n6;omega) x (List.mem_of_mem_take hx)
    omega
 ·funext r
  show (if r=q then ((fencS B k S).hist q).drop (kF B k q) else (fencS B k S).hist r)=if S' r then (B.hist r).drop (kF B k r) else B.hist r
  by_cases e:r=q
  ·subst e;rw [if_pos rfl,if_pos hq',hhq]
  ·rw [if_neg e]
   show (if S r then (B.hist r).drop (kF B k r) else B.hist r)=_
   by_cases hs:S r
   ·rw [if_pos hs,if_pos ((hne _ e).2 hs)]
   ·rw [if_neg hs,if_neg (fun hs'=>hs ((hne _ e).1 hs'))]
 ·funext r
  show (if r=q then (fencS B k S).done q+kF B k q else (fencS B k S).done r)=if S' r then B.done r+kF B k r else B.done r
  have hdq:(fencS B k S).done q=B.done q:=if_neg h0
  by_cases e:r=q
  ·subst e;rw [if_pos rfl,if_pos hq',hdq]
  ·rw [if_neg e]
   show (if S r then B.done r+kF B k r else B.done r)=_
   by_cases hs:S r
   ·rw [if_pos hs,if_pos ((hne _ e).2 hs)]
   ·rw [if_neg hs,if_neg (fun hs'=>hs ((hne _ e).1 hs'))]
theorem persist_0 (A:Dv) (q:Nat):A.persist q 0=A:=by
 refine Dv.ext' rfl ?_ rfl ?_ ?_ rfl rfl rfl rfl rfl rfl
 ·show appL A.per ((A.hist q).take 0)=A.per;rfl
 ·funext r;show (if r=q then (A.hist q).drop 0 else A.hist r)=A.hist r;split
  ·rename_i e;rw [e];rfl
  ·rfl
 ·funext r;show (if r=q then A.done q+(0:Nat) else A.done r)=A.done r;split
  ·rename_i e;rw [e];simp
  ·rfl
def Saw (es:Array MapEntry) (seen:Array Nat) (r:Nat):Prop:=∃ e,e∈es.toList∧e.key=.int .i64 r∧seen.contains e.born=true
theorem key_uniq {es:Array MapEntry} {cl:Nat} (h:MapKept.Stamped es cl) {a b:MapEntry} (ha:a∈es.toList) (hb:b∈es.toList) (hk:a.key=b.key):a=b:=by
 have hp:=((MapKept.stamped_iff es cl).1 h).2.2
 obtain ⟨i,hi,rfl⟩:=List.mem_iff_getElem.1 ha
 obtain ⟨j,hj,rfl⟩:=List.mem_iff_getElem.1 hb
 rw [List.pairwise_iff_getElem] at hp
 rcases Nat.lt_trichotomy i j with h1 | h1 | h1
 ·exact absurd hk (hp i j hi hj h1)
 ·subst h1;rfl
 ·exact absurd hk.symm (hp j i hj hi h1)
theorem left_mem {es:Array MapEntry} {seen:Array Nat} {e:MapEntry} (h:e∈(leftOf es seen).toList):e∈es.toList∧seen.contains e.born=false:=by
 simp only [leftOf,Array.toList_filter,List.mem_filter] at h
 exact ⟨h.1,by simpa using h.2⟩
theorem born_uniq {es:Array MapEntry} {cl:Nat} (h:MapKept.Stamped es cl) {a b:MapEntry} (ha:a∈es.toList) (hb:b∈es.toList) (hk:a.born=b.born):a=b:=by
 have hp:=((MapKept.stamped_iff es cl).1 h).2.1
 rw [List.Nodup,List.pairwise_map] at hp
 obtain ⟨i,hi,rfl⟩:=List.mem_iff_getElem.1 ha
 obtain ⟨j,hj,rfl⟩:=List.mem_iff_getElem.1 hb
 rw [List.pairwise_iff_getElem] at hp
 rcases Nat.lt_trichotomy i j with h1 | h1 | h1
 ·exact absurd hk (hp i j hi hj h1)
 ·subst h1;rfl
 ·exact absurd hk.symm (hp j i hj hi h1)
theorem saw_new {es:Array MapEntry} {cl:Nat} (h:MapKept.Stamped es cl) {seen:Array Nat} {e:MapEntry} (he:e∈(leftOf es seen).toList) {q:Nat} (hk:e.key=.int .i64 q):¬ Saw es seen q:=by
 obtain ⟨h1,h2⟩:=left_mem he
 rintro ⟨a,ha,hka,hs⟩
 rw [key_uniq h ha h1 (hka.trans hk.symm),h2] at hs
 cases hs
theorem saw_push {es:Array MapEntry} {cl:Nat} (h:MapKept.Stamped es cl) {seen:Array Nat} {e:MapEntry} (he:e∈(leftOf es seen).toList) {q:Nat} (hk:e.key=.int .i64 q) (r:Nat):Saw es (seen.push e.born) r↔Saw es seen r∨r=q:=by
 obtain ⟨h1,h2⟩:=left_mem he
 constructor
 ·rintro ⟨a,ha,hka,hs⟩
  have hs:a.born∈seen.push e.born:=by simpa using hs
  rcases Array.mem_push.1 hs with h3 | h3
  ·exact .inl ⟨a,ha,hka,by simpa using h3⟩
  ·have:=born_uniq h ha h1 h3
   subst this
   rw [hk] at hka
   simp only [Value.int.injEq,true_and] at hka
   exact .inr (by omega)
 ·rintro (⟨a,ha,hka,hs⟩ | rfl)
  ·have hs2:a.born∈seen:=by simpa using hs
   exact ⟨a,ha,hka,by simpa using Or.inl hs2⟩
  ·exact ⟨e,h1,hk,by simp⟩
end Go.Proofs.YtckhjklcfagkoaaGreatDoor
namespace Go.Proofs.YtckhjklcfagkoaaGreatDoor
open Go Go.Ab
attribute [local irreducible] callK callF loopQ vstep vskip pickE hideP
set_option maxRecDepth 100000
theorem dPersist (A:Dv) (J:JT) (h:WF A) (r k:Nat) (hr:r<A.n) (hk:k≤(A.hist r).length) (hj:(jk A J r).length≤1000000000):ACalls Tryz.prog 81 [.loc 0 0,.p (.v (.int .i64 r)),.p (.v (.int .i64 k))] (dvL A J) (.p (.tup [])) (dv2 (A.persist r k) (jper A J r k)):=by
 refine acalls_mp 18 (some .i64) (.i .u64 (A.note 0)) rfl rfl ⟨_,rfl,rfl,by decide⟩ (Nat.le_of_ble_eq_true rfl) fun es0 cl0 _=>?_
 refine acalls_mp 19 (some .i64) (.i .u64 (A.note 1)) rfl rfl ⟨_,rfl,rfl,by decide⟩ (Nat.le_of_ble_eq_true rfl) fun es1 cl1 _=>?_
 refine acalls_mp 20 (some .i64) (.i .u64 (A.note 2)) rfl rfl ⟨_,rfl,rfl,by decide⟩ (Nat.le_of_ble_eq_true rfl) fun es2 cl2 _=>?_
 refine acalls_mp 21 (some .i64) (.i .u64 (A.note 3)) rfl rfl ⟨_,rfl,rfl,by decide⟩ (Nat.le_of_ble_eq_true rfl) fun es3 cl3 _=>?_
 refine acalls_mp 22 (some .i64) (.i .u64 (A.note 4)) rfl rfl ⟨_,rfl,rfl,by decide⟩ (Nat.le_of_ble_eq_true rfl) fun es4 cl4 _=>?_
 refine acalls_mp 23 (some .i64) (.i .u64 (A.note 5)) rfl rfl ⟨_,rfl,rfl,by decide⟩ (Nat.le_of_ble_eq_true rfl) fun es5 cl5 _=>?_
 refine acalls_mp 24 (some .i64) (.i .u64 (A.note 6)) rfl rfl ⟨_,rfl,rfl,by decide⟩ (Nat.le_of_ble_eq_true rfl) fun es6 cl6 _=>?_
 refine acalls_mp 25 (some .i64) (.i .u64 (A.note 7)) rfl rfl ⟨_,rfl,rfl,by decide⟩ (Nat.le_of_ble_eq_true rfl) fun es7 cl7 _=>?_
 exact dPersistX A J (fun i=>match i with | 0=>es0 | 1=>es1 | 2=>es2 | 3=>es3 | 4=>es4 | 5=>es5 | 6=>es6 | 7=>es7 | _=>#[]) (fun i=>match i with | 0=>cl0 | 1=>cl1 | 2=>cl2 | 3=>cl3 | 4=>cl4 | 5=>cl5 | 6=>cl6 | 7=>cl7 | _=>0) h r k hr hk hj
theorem dPersist0 (es:Array MapEntry) (cl:Nat) (A:Dv) (J:JT) (h:WF A) (r k:Nat) (hr:r<A.n) (hk:k≤(A.hist r).length) (hj:(jk A J r).length≤1000000000):ACalls Tryz.prog 81 [.loc 0 0,.p (.v (.int .i64 r)),.p (.v (.int .i64 k))] [deO A 1 2 3 4,peO A,cuO A,liO A J 12,thO A 0 0 18,thO A 1 0 18,thO A 2 0 18,thO A 3 0 18,thO A 4 0 18,thO A 5 0 18,thO A 6 0 18,thO A 7 0 18,hiO A J 0,hiO A J 1,hiO A J 2,hiO A J 3,hiO A J 4,hiO A J 5,.mpx (some .i64) es cl,noO A 1,noO A 2,noO A 3,noO A 4,noO A 5,noO A 6,noO A 7] (.p (.tup [])) [deO (A.persist r k) 1 2 3 4,peO (A.persist r k),cuO (A.persist r k),liO (A.persist r k) (jper A J r k) 26,thO (A.persist r k) 0 0 18,thO (A.persist r k) 1 0 18,thO (A.persist r k) 2 0 18,thO (A.persist r k) 3 0 18,thO (A.persist r k) 4 0 18,thO (A.persist r k) 5 0 18,thO (A.persist r k) 6 0 18,thO (A.persist r k) 7 0 18,.dead,.dead,.dead,.dead,.dead,.dead,.mpx (some .i64) es cl,noO (A.persist r k) 1,noO (A.persist r k) 2,noO (A.persist r k) 3,noO (A.persist r k) 4,noO (A.persist r k) 5,noO (A.persist r k) 6,noO (A.persist r k) 7,hiO (A.persist r k) (jper A J r k) 0,hiO (A.persist r k) (jper A J r k) 1,hiO (A.persist r k) (jper A J r k) 2,hiO (A.persist r k) (jper A J r k) 3,hiO (A.persist r k) (jper A J r k) 4,hiO (A.persist r k) (jper A J r k) 5]:=by
 refine acalls_mp 19 (some .i64) (.i .u64 (A.note 1)) rfl rfl ⟨_,rfl,rfl,by decide⟩ (Nat.le_of_ble_eq_true rfl) fun es1 cl1 _=>?_
 refine acalls_mp 20 (some .i64) (.i .u64 (A.note 2)) rfl rfl ⟨_,rfl,rfl,by decide⟩ (Nat.le_of_ble_eq_true rfl) fun es2 cl2 _=>?_
 refine acalls_mp 21 (some .i64) (.i .u64 (A.note 3)) rfl rfl ⟨_,rfl,rfl,by decide⟩ (Nat.le_of_ble_eq_true rfl) fun es3 cl3 _=>?_
 refine acalls_mp 22 (some .i64) (.i .u64 (A.note 4)) rfl rfl ⟨_,rfl,rfl,by decide⟩ (Nat.le_of_ble_eq_true rfl) fun es4 cl4 _=>?_
 refine acalls_mp 23 (some .i64) (.i .u64 (A.note 5)) rfl rfl ⟨_,rfl,rfl,by decide⟩ (Nat.le_of_ble_eq_true rfl) fun es5 cl5 _=>?_
 refine acalls_mp 24 (some .i64) (.i .u64 (A.note 6)) rfl rfl ⟨_,rfl,rfl,by decide⟩ (Nat.le_of_ble_eq_true rfl) fun es6 cl6 _=>?_
 refine acalls_mp 25 (some .i64) (.i .u64 (A.note 7)) rfl rfl ⟨_,rfl,rfl,by decide⟩ (Nat.le_of_ble_eq_true rfl) fun es7 cl7 _=>?_
 exact dPersistX A J (fun i=>match i with | 0=>es | 1=>es1 | 2=>es2 | 3=>es3 | 4=>es4 | 5=>es5 | 6=>es6 | 7=>es7 | _=>#[]) (fun i=>match i with | 0=>cl | 1=>cl1 | 2=>cl2 | 3=>cl3 | 4=>cl4 | 5=>cl5 | 6=>cl6 | 7=>cl7 | _=>0) h r k hr hk hj
theorem dPersist1 (es:Array MapEntry) (cl:Nat) (A:Dv) (J:JT) (h:WF A) (r k:Nat) (hr:r<A.n) (hk:k≤(A.hist r).length) (hj:(jk A J r).length≤1000000000):ACalls Tryz.prog 81 [.loc 0 0,.p (.v (.int .i64 r)),.p (.v (.int .i64 k))] [deO A 1 2 3 4,peO A,cuO A,liO A J 12,thO A 0 0 18,thO A 1 0 18,thO A 2 0 18,thO A 3 0 18,thO A 4 0 18,thO A 5 0 18,thO A 6 0 18,thO A 7 0 18,hiO A J 0,hiO A J 1,hiO A J 2,hiO A J 3,hiO A J 4,hiO A J 5,noO A 0,.mpx (some .i64) es cl,noO A 2,noO A 3,noO A 4,noO A 5,noO A 6,noO A 7] (.p (.tup [])) [deO (A.persist r k) 1 2 3 4,peO (A.persist r k),cuO (A.persist r k),liO (A.persist r k) (jper A J r k) 26,thO (A.persist r k) 0 0 18,thO (A.persist r k) 1 0 18,thO (A.persist r k) 2 0 18,thO (A.persist r k) 3 0 18,thO (A.persist r k) 4 0 18,thO (A.persist r k) 5 0 18,thO (A.persist r k) 6 0 18,thO (A.persist r k) 7 0 18,.dead,.dead,.dead,.dead,.dead,.dead,noO (A.persist r k) 0,.mpx (some .i64) es cl,noO (A.persist r k) 2,noO (A.persist r k) 3,noO (A.persist r k) 4,noO (A.persist r k) 5,noO (A.persist r k) 6,noO (A.persist r k) 7,hiO (A.persist r k) (jper A J r k) 0,hiO (A.persist r k) (jper A J r k) 1,hiO (A.persist r k) (jper A J r k) 2,hiO (A.persist r k) (jper A J r k) 3,hiO (A.persist r k) (jper A J r k) 4,hiO (A.persist r k) (jper A J r k) 5]:=by
 refine acalls_mp 18 (some .i64) (.i .u64 (A.note 0)) rfl rfl ⟨_,rfl,rfl,by decide⟩ (Nat.le_of_ble_eq_true rfl) fun es0 cl0 _=>?_
 refine acalls_mp 20 (some .i64) (.i .u64 (A.note 2)) rfl rfl ⟨_,rfl,rfl,by decide⟩ (Nat.le_of_ble_eq_true rfl) fun es2 cl2 _=>?_
 refine acalls_mp 21 (some .i64) (.i .u64 (A.note 3)) rfl rfl ⟨_,rfl,rfl,by decide⟩ (Nat.le_of_ble_eq_true rfl) fun es3 cl3 _=>?_
 refine acalls_mp 22 (some .i64) (.i .u64 (A.note 4)) rfl rfl ⟨_,rfl,rfl,by decide⟩ (Nat.le_of_ble_eq_true rfl) fun es4 cl4 _=>?_
 refine acalls_mp 23 (some .i64) (.i .u64 (A.note 5)) rfl rfl ⟨_,rfl,rfl,by decide⟩ (Nat.le_of_ble_eq_true rfl) fun es5 cl5 _=>?_
 refine acalls_mp 24 (some .i64) (.i .u64 (A.note 6)) rfl rfl ⟨_,rfl,rfl,by decide⟩ (Nat.le_of_ble_eq_true rfl) fun es6 cl6 _=>?_
 refine acalls_mp 25 (some .i64) (.i .u64 (A.note 7)) rfl rfl ⟨_,rfl,rfl,by decide⟩ (Nat.le_of_ble_eq_true rfl) fun es7 cl7 _=>?_
 exact dPersistX A J (fun i=>match i with | 0=>es0 | 1=>es | 2=>es2 | 3=>es3 | 4=>es4 | 5=>es5 | 6=>es6 | 7=>es7 | _=>#[]) (fun i=>match i with | 0=>cl0 | 1=>cl | 2=>cl2 | 3=>cl3 | 4=>cl4 | 5=>cl5 | 6=>cl6 | 7=>cl7 | _=>0) h r k hr hk hj
theorem dPersist2 (es:Array MapEntry) (cl:Nat) (A:Dv) (J:JT) (h:WF A) (r k:Nat) (hr:r<A.n) (hk:k≤(A.hist r).length) (hj:(jk A J r).length≤1000000000):ACalls Tryz.prog 81 [.loc 0 0,.p (.v (.int .i64 r)),.p (.v (.int .i64 k))] [deO A 1 2 3 4,peO A,cuO A,liO A J 12,thO A 0 0 18,thO A 1 0 18,thO A 2 0 18,thO A 3 0 18,thO A 4 0 18,thO A 5 0 18,thO A 6 0 18,thO A 7 0 18,hiO A J 0,hiO A J 1,hiO A J 2,hiO A J 3,hiO A J 4,hiO A J 5,noO A 0,noO A 1,.mpx (some .i64) es cl,noO A 3,noO A 4,noO A 5,noO A 6,noO A 7] (.p (.tup [])) [deO (A.persist r k) 1 2 3 4,peO (A.persist r k),cuO (A.persist r k),liO (A.persist r k) (jper A J r k) 26,thO (A.persist r k) 0 0 18,thO (A.persist r k) 1 0 18,thO (A.persist r k) 2 0 18,thO (A.persist r k) 3 0 18,thO (A.persist r k) 4 0 18,thO (A.persist r k) 5 0 18,thO (A.persist r k) 6 0 18,thO (A.persist r k) 7 0 18,.dead,.dead,.dead,.dead,.dead,.dead,noO (A.persist r k) 0,noO (A.persist r k) 1,.mpx (some .i64) es cl,noO (A.persist r k) 3,noO (A.persist r k) 4,noO (A.persist r k) 5,noO (A.persist r k) 6,noO (A.persist r k) 7,hiO (A.persist r k) (jper A J r k) 0,hiO (A.persist r k) (jper A J r k) 1,hiO (A.persist r k) (jper A J r k) 2,hiO (A.persist r k) (jper A J r k) 3,hiO (A.persist r k) (jper A J r k) 4,hiO (A.persist r k) (jper A J r k) 5]:=by
 refine acalls_mp 18 (some .i64) (.i .u64 (A.note 0)) rfl rfl ⟨_,rfl,rfl,by decide⟩ (Nat.le_of_ble_eq_true rfl) fun es0 cl0 _=>?_
 refine acalls_mp 19 (some .i64) (.i .u64 (A.note 1)) rfl rfl ⟨_,rfl,rfl,by decide⟩ (Nat.le_of_ble_eq_true rfl) fun es1 cl1 _=>?_
 refine acalls_mp 21 (some .i64) (.i .u64 (A.note 3)) rfl rfl ⟨_,rfl,rfl,by decide⟩ (Nat.le_of_ble_eq_true rfl) fun es3 cl3 _=>?_
 refine acalls_mp 22 (some .i64) (.i .u64 (A.note 4)) rfl rfl ⟨_,rfl,rfl,by decide⟩ (Nat.le_of_ble_eq_true rfl) fun es4 cl4 _=>?_
 refine acalls_mp 23 (some .i64) (.i .u64 (A.note 5)) rfl rfl ⟨_,rfl,rfl,by decide⟩ (Nat.le_of_ble_eq_true rfl) fun es5 cl5 _=>?_
 refine acalls_mp 24 (some .i64) (.i .u64 (A.note 6)) rfl rfl ⟨_,rfl,rfl,by decide⟩ (Nat.le_of_ble_eq_true rfl) fun es6 cl6 _=>?_
 refine acalls_mp 25 (some .i64) (.i .u64 (A.note 7)) rfl rfl ⟨_,rfl,rfl,by decide⟩ (Nat.le_of_ble_eq_true rfl) fun es7 cl7 _=>?_
 exact dPersistX A J (fun i=>match i with | 0=>es0 | 1=>es1 | 2=>es | 3=>es3 | 4=>es4 | 5=>es5 | 6=>es6 | 7=>es7 | _=>#[]) (fun i=>match i with | 0=>cl0 | 1=>cl1 | 2=>cl | 3=>cl3 | 4=>cl4 | 5=>cl5 | 6=>cl6 | 7=>cl7 | _=>0) h r k hr hk hj
theorem dPersist3 (es:Array MapEntry) (cl:Nat) (A:Dv) (J:JT) (h:WF A) (r k:Nat) (hr:r<A.n) (hk:k≤(A.hist r).length) (hj:(jk A J r).length≤1000000000):ACalls Tryz.prog 81 [.loc 0 0,.p (.v (.int .i64 r)),.p (.v (.int .i64 k))] [deO A 1 2 3 4,peO A,cuO A,liO A J 12,thO A 0 0 18,thO A 1 0 18,thO A 2 0 18,thO A 3 0 18,thO A 4 0 18,thO A 5 0 18,thO A 6 0 18,thO A 7 0 18,hiO A J 0,hiO A J 1,hiO A J 2,hiO A J 3,hiO A J 4,hiO A J 5,noO A 0,noO A 1,noO A 2,.mpx (some .i64) es cl,noO A 4,noO A 5,noO A 6,noO A 7] (.p (.tup [])) [deO (A.persist r k) 1 2 3 4,peO (A.persist r k),cuO (A.persist r k),liO (A.persist r k) (jper A J r k) 26,thO (A.persist r k) 0 0 18,thO (A.persist r k) 1 0 18,thO (A.persist r k) 2 0 18,thO (A.persist r k) 3 0 18,thO (A.persist r k) 4 0 18,thO (A.persist r k) 5 0 18,thO (A.persist r k) 6 0 18,thO (A.persist r k) 7 0 18,.dead,.dead,.dead,.dead,.dead,.dead,noO (A.persist r k) 0,noO (A.persist r k) 1,noO (A.persist r k) 2,.mpx (some .i64) es cl,noO (A.persist r k) 4,noO (A.persist r k) 5,noO (A.persist r k) 6,noO (A.persist r k) 7,hiO (A.persist r k) (jper A J r k) 0,hiO (A.persist r k) (jper A J r k) 1,hiO (A.persist r k) (jper A J r k) 2,hiO (A.persist r k) (jper A J r k) 3,hiO (A.persist r k) (jper A J r k) 4,hiO (A.persist r k) (jper A J r k) 5]:=by
 refine acalls_mp 18 (some .i64) (.i .u64 (A.note 0)) rfl rfl ⟨_,rfl,rfl,by decide⟩ (Nat.le_of_ble_eq_true rfl) fun es0 cl0 _=>?_
 refine acalls_mp 19 (some .i64) (.i .u64 (A.note 1)) rfl rfl ⟨_,rfl,rfl,by decide⟩ (Nat.le_of_ble_eq_true rfl) fun es1 cl1 _=>?_
 refine acalls_mp 20 (some .i64) (.i .u64 (A.note 2)) rfl rfl ⟨_,rfl,rfl,by decide⟩ (Nat.le_of_ble_eq_true rfl) fun es2 cl2 _=>?_
 refine acalls_mp 22 (some .i64) (.i .u64 (A.note 4)) rfl rfl ⟨_,rfl,rfl,by decide⟩ (Nat.le_of_ble_eq_true rfl) fun es4 cl4 _=>?_
 refine acalls_mp 23 (some .i64) (.i .u64 (A.note 5)) rfl rfl ⟨_,rfl,rfl,by decide⟩ (Nat.le_of_ble_eq_true rfl) fun es5 cl5 _=>?_
 refine acalls_mp 24 (some .i64) (.i .u64 (A.note 6)) rfl rfl ⟨_,rfl,rfl,by decide⟩ (Nat.le_of_ble_eq_true rfl) fun es6 cl6 _=>?_
 refine acalls_mp 25 (some .i64) (.i .u64 (A.note 7)) rfl rfl ⟨_,rfl,rfl,by decide⟩ (Nat.le_of_ble_eq_true rfl) fun es7 cl7 _=>?_
 exact dPersistX A J (fun i=>match i with | 0=>es0 | 1=>es1 | 2=>es2 | 3=>es | 4=>es4 | 5=>es5 | 6=>es6 | 7=>es7 | _=>#[]) (fun i=>match i with | 0=>cl0 | 1=>cl1 | 2=>cl2 | 3=>cl | 4=>cl4 | 5=>cl5 | 6=>cl6 | 7=>cl7 | _=>0) h r k hr hk hj
theorem dPersist4 (es:Array MapEntry) (cl:Nat) (A:Dv) (J:JT) (h:WF A) (r k:Nat) (hr:r<A.n) (hk:k≤(A.hist r).length) (hj:(jk A J r).length≤1000000000):ACalls Tryz.prog 81 [.loc 0 0,.p (.v (.int .i64 r)),.p (.v (.int .i64 k))] [deO A 1 2 3 4,peO A,cuO A,liO A J 12,thO A 0 0 18,thO A 1 0 18,thO A 2 0 18,thO A 3 0 18,thO A 4 0 18,thO A 5 0 18,thO A 6 0 18,thO A 7 0 18,hiO A J 0,hiO A J 1,hiO A J 2,hiO A J 3,hiO A J 4,hiO A J 5,noO A 0,noO A 1,noO A 2,noO A 3,.mpx (some .i64) es cl,noO A 5,noO A 6,noO A 7] (.p (.tup [])) [deO (A.persist r k) 1 2 3 4,peO (A.persist r k),cuO (A.persist r k),liO (A.persist r k) (jper A J r k) 26,thO (A.persist r k) 0 0 18,thO (A.persist r k) 1 0 18,thO (A.persist r k) 2 0 18,thO (A.persist r k) 3 0 18,thO (A.persist r k) 4 0 18,thO (A.persist r k) 5 0 18,thO (A.persist r k) 6 0 18,thO (A.persist r k) 7 0 18,.dead,.dead,.dead,.dead,.dead,.dead,noO (A.persist r k) 0,noO (A.persist r k) 1,noO (A.persist r k) 2,noO (A.persist r k) 3,.mpx (some .i64) es cl,noO (A.persist r k) 5,noO (A.persist r k) 6,noO (A.persist r k) 7,hiO (A.persist r k) (jper A J r k) 0,hiO (A.persist r k) (jper A J r k) 1,hiO (A.persist r k) (jper A J r k) 2,hiO (A.persist r k) (jper A J r k) 3,hiO (A.persist r k) (jper A J r k) 4,hiO (A.persist r k) (jper A J r k) 5]:=by
 refine acalls_mp 18 (some .i64) (.i .u64 (A.note 0)) rfl rfl ⟨_,rfl,rfl,by decide⟩ (Nat.le_of_ble_eq_true rfl) fun es0 cl0 _=>?_
 refine acalls_mp 19 (some .i64) (.i .u64 (A.note 1)) rfl rfl ⟨_,rfl,rfl,by decide⟩ (Nat.le_of_ble_eq_true rfl) fun es1 cl1 _=>?_
 refine acalls_mp 20 (some .i64) (.i .u64 (A.note 2)) rfl rfl ⟨_,rfl,rfl,by decide⟩ (Nat.le_of_ble_eq_true rfl) fun es2 cl2 _=>?_
 refine acalls_mp 21 (some .i64) (.i .u64 (A.note 3)) rfl rfl ⟨_,rfl,rfl,by decide⟩ (Nat.le_of_ble_eq_true rfl) fun es3 cl3 _=>?_
 refine acalls_mp 23 (some .i64) (.i .u64 (A.note 5)) rfl rfl ⟨_,rfl,rfl,by decide⟩ (Nat.le_of_ble_eq_true rfl) fun es5 cl5 _=>?_
 refine acalls_mp 24 (some .i64) (.i .u64 (A.note 6)) rfl rfl ⟨_,rfl,rfl,by decide⟩ (Nat.le_of_ble_eq_true rfl) fun es6 cl6 _=>?_
 refine acalls_mp 25 (some .i64) (.i .u64 (A.note 7)) rfl rfl ⟨_,rfl,rfl,by decide⟩ (Nat.le_of_ble_eq_true rfl) fun es7 cl7 _=>?_
 exact dPersistX A J (fun i=>match i with | 0=>es0 | 1=>es1 | 2=>es2 | 3=>es3 | 4=>es | 5=>es5 | 6=>es6 | 7=>es7 | _=>#[]) (fun i=>match i with | 0=>cl0 | 1=>cl1 | 2=>cl2 | 3=>cl3 | 4=>cl | 5=>cl5 | 6=>cl6 | 7=>cl7 | _=>0) h r k hr hk hj
theorem dPersist5 (es:Array MapEntry) (cl:Nat) (A:Dv) (J:JT) (h:WF A) (r k:Nat) (hr:r<A.n) (hk:k≤(A.hist r).length) (hj:(jk A J r).length≤1000000000):ACalls Tryz.prog 81 [.loc 0 0,.p (.v (.int .i64 r)),.p (.v (.int .i64 k))] [deO A 1 2 3 4,peO A,cuO A,liO A J 12,thO A 0 0 18,thO A 1 0 18,thO A 2 0 18,thO A 3 0 18,thO A 4 0 18,thO A 5 0 18,thO A 6 0 18,thO A 7 0 18,hiO A J 0,hiO A J 1,hiO A J 2,hiO A J 3,hiO A J 4,hiO A J 5,noO A 0,noO A 1,noO A 2,noO A 3,noO A 4,.mpx (some .i64) es cl,noO A 6,noO A 7] (.p (.tup [])) [deO (A.persist r k) 1 2 3 4,peO (A.persist r k),cuO (A.persist r k),liO (A.persist r k) (jper A J r k) 26,thO (A.persist r k) 0 0 18,thO (A.persist r k) 1 0 18,thO (A.persist r k) 2 0 18,thO (A.persist r k) 3 0 18,thO (A.persist r k) 4 0 18,thO (A.persist r k) 5 0 18,thO (A.persist r k) 6 0 18,thO (A.persist r k) 7 0 18,.dead,.dead,.dead,.dead,.dead,.dead,noO (A.persist r k) 0,noO (A.persist r k) 1,noO (A.persist r k) 2,noO (A.persist r k) 3,noO (A.persist r k) 4,.mpx (some .i64) es cl,noO (A.persist r k) 6,noO (A.persist r k) 7,hiO (A.persist r k) (jper A J r k) 0,hiO (A.persist r k) (jper A J r k) 1,hiO (A.persist r k) (jper A J r k) 2,hiO (A.persist r k) (jper A J r k) 3,hiO (A.persist r k) (jper A J r k) 4,hiO (A.persist r k) (jper A J r k) 5]:=by
 refine acalls_mp 18 (some .i64) (.i .u64 (A.note 0)) rfl rfl ⟨_,rfl,rfl,by decide⟩ (Nat.le_of_ble_eq_true rfl) fun es0 cl0 _=>?_
 refine acalls_mp 19 (some .i64) (.i .u64 (A.note 1)) rfl rfl ⟨_,rfl,rfl,by decide⟩ (Nat.le_of_ble_eq_true rfl) fun es1 cl1 _=>?_
 refine acalls_mp 20 (some .i64) (.i .u64 (A.note 2)) rfl rfl ⟨_,rfl,rfl,by decide⟩ (Nat.le_of_ble_eq_true rfl) fun es2 cl2 _=>?_
 refine acalls_mp 21 (some .i64) (.i .u64 (A.note 3)) rfl rfl ⟨_,rfl,rfl,by decide⟩ (Nat.le_of_ble_eq_true rfl) fun es3 cl3 _=>?_
 refine acalls_mp 22 (some .i64) (.i .u64 (A.note 4)) rfl rfl ⟨_,rfl,rfl,by decide⟩ (Nat.le_of_ble_eq_true rfl) fun es4 cl4 _=>?_
 refine acalls_mp 24 (some .i64) (.i .u64 (A.note 6)) rfl rfl ⟨_,rfl,rfl,by decide⟩ (Nat.le_of_ble_eq_true rfl) fun es6 cl6 _=>?_
 refine acalls_mp 25 (some .i64) (.i .u64 (A.note 7)) rfl rfl ⟨_,rfl,rfl,by decide⟩ (Nat.le_of_ble_eq_true rfl) fun es7 cl7 _=>?_
 exact dPersistX A J (fun i=>match i with | 0=>es0 | 1=>es1 | 2=>es2 | 3=>es3 | 4=>es4 | 5=>es | 6=>es6 | 7=>es7 | _=>#[]) (fun i=>match i with | 0=>cl0 | 1=>cl1 | 2=>cl2 | 3=>cl3 | 4=>cl4 | 5=>cl | 6=>cl6 | 7=>cl7 | _=>0) h r k hr hk hj
theorem dPersist6 (es:Array MapEntry) (cl:Nat) (A:Dv) (J:JT) (h:WF A) (r k:Nat) (hr:r<A.n) (hk:k≤(A.hist r).length) (hj:(jk A J r).length≤1000000000):ACalls Tryz.prog 81 [.loc 0 0,.p (.v (.int .i64 r)),.p (.v (.int .i64 k))] [deO A 1 2 3 4,peO A,cuO A,liO A J 12,thO A 0 0 18,thO A 1 0 18,thO A 2 0 18,thO A 3 0 18,thO A 4 0 18,thO A 5 0 18,thO A 6 0 18,thO A 7 0 18,hiO A J 0,hiO A J 1,hiO A J 2,hiO A J 3,hiO A J 4,hiO A J 5,noO A 0,noO A 1,noO A 2,noO A 3,noO A 4,noO A 5,.mpx (some .i64) es cl,noO A 7] (.p (.tup [])) [deO (A.persist r k) 1 2 3 4,peO (A.persist r k),cuO (A.persist r k),liO (A.persist r k) (jper A J r k) 26,thO (A.persist r k) 0 0 18,thO (A.persist r k) 1 0 18,thO (A.persist r k) 2 0 18,thO (A.persist r k) 3 0 18,thO (A.persist r k) 4 0 18,thO (A.persist r k) 5 0 18,thO (A.persist r k) 6 0 18,thO (A.persist r k) 7 0 18,.dead,.dead,.dead,.dead,.dead,.dead,noO (A.persist r k) 0,noO (A.persist r k) 1,noO (A.persist r k) 2,noO (A.persist r k) 3,noO (A.persist r k) 4,noO (A.persist r k) 5,.mpx (some .i64) es cl,noO (A.persist r k) 7,hiO (A.persist r k) (jper A J r k) 0,hiO (A.persist r k) (jper A J r k) 1,hiO (A.persist r k) (jper A J r k) 2,hiO (A.persist r k) (jper A J r k) 3,hiO (A.persist r k) (jper A J r k) 4,hiO (A.persist r k) (jper A J r k) 5]:=by
 refine acalls_mp 18 (some .i64) (.i .u64 (A.note 0)) rfl rfl ⟨_,rfl,rfl,by decide⟩ (Nat.le_of_ble_eq_true rfl) fun es0 cl0 _=>?_
 refine acalls_mp 19 (some .i64) (.i .u64 (A.note 1)) rfl rfl ⟨_,rfl,rfl,by decide⟩ (Nat.le_of_ble_eq_true rfl) fun es1 cl1 _=>?_
 refine acalls_mp 20 (some .i64) (.i .u64 (A.note 2)) rfl rfl ⟨_,rfl,rfl,by decide⟩ (Nat.le_of_ble_eq_true rfl) fun es2 cl2 _=>?_
 refine acalls_mp 21 (some .i64) (.i .u64 (A.note 3)) rfl rfl ⟨_,rfl,rfl,by decide⟩ (Nat.le_of_ble_eq_true rfl) fun es3 cl3 _=>?_
 refine acalls_mp 22 (some .i64) (.i .u64 (A.note 4)) rfl rfl ⟨_,rfl,rfl,by decide⟩ (Nat.le_of_ble_eq_true rfl) fun es4 cl4 _=>?_
 refine acalls_mp 23 (some .i64) (.i .u64 (A.note 5)) rfl rfl ⟨_,rfl,rfl,by decide⟩ (Nat.le_of_ble_eq_true rfl) fun es5 cl5 _=>?_
 refine acalls_mp 25 (some .i64) (.i .u64 (A.note 7)) rfl rfl ⟨_,rfl,rfl,by decide⟩ (Nat.le_of_ble_eq_true rfl) fun es7 cl7 _=>?_
 exact dPersistX A J (fun i=>match i with | 0=>es0 | 1=>es1 | 2=>es2 | 3=>es3 | 4=>es4 | 5=>es5 | 6=>es | 7=>es7 | _=>#[]) (fun i=>match i with | 0=>cl0 | 1=>cl1 | 2=>cl2 | 3=>cl3 | 4=>cl4 | 5=>cl5 | 6=>cl | 7=>cl7 | _=>0) h r k hr hk hj
theorem dPersist7 (es:Array MapEntry) (cl:Nat) (A:Dv) (J:JT) (h:WF A) (r k:Nat) (hr:r<A.n) (hk:k≤(A.hist r).length) (hj:(jk A J r).length≤1000000000):ACalls Tryz.prog 81 [.loc 0 0,.p (.v (.int .i64 r)),.p (.v (.int .i64 k))] [deO A 1 2 3 4,peO A,cuO A,liO A J 12,thO A 0 0 18,thO A 1 0 18,thO A 2 0 18,thO A 3 0 18,thO A 4 0 18,thO A 5 0 18,thO A 6 0 18,thO A 7 0 18,hiO A J 0,hiO A J 1,hiO A J 2,hiO A J 3,hiO A J 4,hiO A J 5,noO A 0,noO A 1,noO A 2,noO A 3,noO A 4,noO A 5,noO A 6,.mpx (some .i64) es cl] (.p (.tup [])) [deO (A.persist r k) 1 2 3 4,peO (A.persist r k),cuO (A.persist r k),liO (A.persist r k) (jper A J r k) 26,thO (A.persist r k) 0 0 18,thO (A.persist r k) 1 0 18,thO (A.persist r k) 2 0 18,thO (A.persist r k) 3 0 18,thO (A.persist r k) 4 0 18,thO (A.persist r k) 5 0 18,thO (A.persist r k) 6 0 18,thO (A.persist r k) 7 0 18,.dead,.dead,.dead,.dead,.dead,.dead,noO (A.persist r k) 0,noO (A.persist r k) 1,noO (A.persist r k) 2,noO (A.persist r k) 3,noO (A.persist r k) 4,noO (A.persist r k) 5,noO (A.persist r k) 6,.mpx (some .i64) es cl,hiO (A.persist r k) (jper A J r k) 0,hiO (A.persist r k) (jper A J r k) 1,hiO (A.persist r k) (jper A J r k) 2,hiO (A.persist r k) (jper A J r k) 3,hiO (A.persist r k) (jper A J r k) 4,hiO (A.persist r k) (jper A J r k) 5]:=by
 refine acalls_mp 18 (some .i64) (.i .u64 (A.note 0)) rfl rfl ⟨_,rfl,rfl,by decide⟩ (Nat.le_of_ble_eq_true rfl) fun es0 cl0 _=>?_
 refine acalls_mp 19 (some .i64) (.i .u64 (A.note 1)) rfl rfl ⟨_,rfl,rfl,by decide⟩ (Nat.le_of_ble_eq_true rfl) fun es1 cl1 _=>?_
 refine acalls_mp 20 (some .i64) (.i .u64 (A.note 2)) rfl rfl ⟨_,rfl,rfl,by decide⟩ (Nat.le_of_ble_eq_true rfl) fun es2 cl2 _=>?_
 refine acalls_mp 21 (some .i64) (.i .u64 (A.note 3)) rfl rfl ⟨_,rfl,rfl,by decide⟩ (Nat.le_of_ble_eq_true rfl) fun es3 cl3 _=>?_
 refine acalls_mp 22 (some .i64) (.i .u64 (A.note 4)) rfl rfl ⟨_,rfl,rfl,by decide⟩ (Nat.le_of_ble_eq_true rfl) fun es4 cl4 _=>?_
 refine acalls_mp 23 (some .i64) (.i .u64 (A.note 5)) rfl rfl ⟨_,rfl,rfl,by decide⟩ (Nat.le_of_ble_eq_true rfl) fun es5 cl5 _=>?_
 refine acalls_mp 24 (some .i64) (.i .u64 (A.note 6)) rfl rfl ⟨_,rfl,rfl,by decide⟩ (Nat.le_of_ble_eq_true rfl) fun es6 cl6 _=>?_
 exact dPersistX A J (fun i=>match i with | 0=>es0 | 1=>es1 | 2=>es2 | 3=>es3 | 4=>es4 | 5=>es5 | 6=>es6 | 7=>es | _=>#[]) (fun i=>match i with | 0=>cl0 | 1=>cl1 | 2=>cl2 | 3=>cl3 | 4=>cl4 | 5=>cl5 | 6=>cl6 | 7=>cl | _=>0) h r k hr hk hj
end Go.Proofs.YtckhjklcfagkoaaGreatDoor
namespace Go.Proofs.YtckhjklcfagkoaaGreatDoor
open Go Go.Ab
attribute [local irreducible] callK callF loopQ vstep vskip pickE hideP
set_option maxRecDepth 100000
@[go_sem high] theorem nthM {a0 a1 a2 a3 a4 a5 a6 a7 a8 a9 a10 a11 a12 a13 a14 a15 a16 a17:Option Ob} {N:Nat→Value→Option Int} {k:Nat} {l:List (Option Ob)} (hk:k<8):nth (a0::a1::a2::a3::a4::a5::a6::a7::a8::a9::a10::a11::a12::a13::a14::a15::a16::a17::some (.mp (some .i64) (.i .u64 (N 0)))::some (.mp (some .i64) (.i .u64 (N 1)))::some (.mp (some .i64) (.i .u64 (N 2)))::some (.mp (some .i64) (.i .u64 (N 3)))::some (.mp (some .i64) (.i .u64 (N 4)))::some (.mp (some .i64) (.i .u64 (N 5)))::some (.mp (some .i64) (.i .u64 (N 6)))::some (.mp (some .i64) (.i .u64 (N 7)))::l) (18+k)=some (some (.mp (some .i64) (.i .u64 (N k)))):=by
 rcases lt8 hk with rfl | rfl | rfl | rfl | rfl | rfl | rfl | rfl<;>rfl
@[go_sem high] theorem setM {a0 a1 a2 a3 a4 a5 a6 a7 a8 a9 a10 a11 a12 a13 a14 a15 a16 a17:Option Ob} {N:Nat→Value→Option Int} {k:Nat} {f:Value→Option Int} {l:List (Option Ob)} (hk:k<8):setL (a0::a1::a2::a3::a4::a5::a6::a7::a8::a9::a10::a11::a12::a13::a14::a15::a16::a17::some (.mp (some .i64) (.i .u64 (N 0)))::some (.mp (some .i64) (.i .u64 (N 1)))::some (.mp (some .i64) (.i .u64 (N 2)))::some (.mp (some .i64) (.i .u64 (N 3)))::some (.mp (some .i64) (.i .u64 (N 4)))::some (.mp (some .i64) (.i .u64 (N 5)))::some (.mp (some .i64) (.i .u64 (N 6)))::some (.mp (some .i64) (.i .u64 (N 7)))::l) (18+k) (some (.mp (some .i64) (.i .u64 f)))=a0::a1::a2::a3::a4::a5::a6::a7::a8::a9::a10::a11::a12::a13::a14::a15::a16::a17::some (.mp (some .i64) (.i .u64 (upd N k f 0)))::some (.mp (some .i64) (.i .u64 (upd N k f 1)))::some (.mp (some .i64) (.i .u64 (upd N k f 2)))::some (.mp (some .i64) (.i .u64 (upd N k f 3)))::some (.mp (some .i64) (.i .u64 (upd N k f 4)))::some (.mp (some .i64) (.i .u64 (upd N k f 5)))::some (.mp (some .i64) (.i .u64 (upd N k f 6)))::some (.mp (some .i64) (.i .u64 (upd N k f 7)))::l:=by
 rcases lt8 hk with rfl | rfl | rfl | rfl | rfl | rfl | rfl | rfl<;>rfl
@[go_sem high] theorem nthL0 {A:Dv} {J:JT} {r:Nat} (hr:r<6):nth [AV.p (.v (.int .u64 (A.done 0))),.sl 12 2 (jk A J 0).length (A.hist 0).length,.p (.v (.int .u64 (A.done 1))),.sl 13 2 (jk A J 1).length (A.hist 1).length,.p (.v (.int .u64 (A.done 2))),.sl 14 2 (jk A J 2).length (A.hist 2).length,.p (.v (.int .u64 (A.done 3))),.sl 15 2 (jk A J 3).length (A.hist 3).length,.p (.v (.int .u64 (A.done 4))),.sl 16 2 (jk A J 4).length (A.hist 4).length,.p (.v (.int .u64 (A.done 5))),.sl 17 2 (jk A J 5).length (A.hist 5).length] (r*2)=some (.p (.v (.int .u64 (A.done r)))):=by
 rcases lt6 hr with rfl | rfl | rfl | rfl | rfl | rfl<;>rfl
@[go_sem ↓ high] theorem nthL1 {A:Dv} {J:JT} {r:Nat} (hr:r<6):nth [AV.p (.v (.int .u64 (A.done 0))),.sl 12 2 (jk A J 0).length (A.hist 0).length,.p (.v (.int .u64 (A.done 1))),.sl 13 2 (jk A J 1).length (A.hist 1).length,.p (.v (.int .u64 (A.done 2))),.sl 14 2 (jk A J 2).length (A.hist 2).length,.p (.v (.int .u64 (A.done 3))),.sl 15 2 (jk A J 3).length (A.hist 3).length,.p (.v (.int .u64 (A.done 4))),.sl 16 2 (jk A J 4).length (A.hist 4).length,.p (.v (.int .u64 (A.done 5))),.sl 17 2 (jk A J 5).length (A.hist 5).length] (r*2+1)=some (.sl (12+r) 2 (jk A J r).length (A.hist r).length):=by
 rcases lt6 hr with rfl | rfl | rfl | rfl | rfl | rfl<;>rfl
noncomputable def Dv.noted (A:Dv) (k r:Nat):Dv:={ A with note:=upd A.note k (updF (A.note k) (.int .i64 r) (some (A.done r+(A.hist r).length))) }
def Dv.isB (A:Dv) (o:Int):Bool:=decide (o<((64*A.n:Nat):Int))
noncomputable def Dv.flush (A:Dv) (k:Nat) (o:Int):Dv:=if A.cntB (A.isB o)=true then (A.cnt k (A.isB o)).noted k (o / 64).toNat else A.cnt k (A.isB o)
end Go.Proofs.YtckhjklcfagkoaaGreatDoor
