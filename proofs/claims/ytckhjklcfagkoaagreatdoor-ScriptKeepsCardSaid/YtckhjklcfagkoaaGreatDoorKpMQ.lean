/- Contracts of functions of this program, and the plain facts that they rest on. No conditions. -/
import Derived.Test.YtckhjklcfagkoaaGreatDoorJKpLQ
import Derived.Test.YtckhjklcfagkoaaGreatDoorStHQ
import Derived.Test.YtckhjklcfagkoaaGreatDoorJRvQQ
set_option linter.unusedSectionVars false
set_option linter.unusedSimpArgs false
set_option warn.classDefReducibility false
set_option linter.unusedVariables false
namespace Go.Proofs.YtckhjklcfagkoaaGreatDoor
set_option maxHeartbeats 4000000
set_option maxRecDepth 100000
open Go Go.Ab
attribute [local irreducible] callK callF loopQ vstep vskip pickE hideP
open Go.RowKit
structure EXB (N:Nat) (w w':World):Prop where
 os:w'.os=w.os
 tape:w'.tape=w.tape
 out:w'.output=w.output
 size:w.heap.size≤w'.heap.size
 bs:BsLe w w'
 hp:∀ b,b<N→w'.heap[b]? = w.heap[b]?
theorem EXB.trans {N:Nat} {w w1 w2:World} (h:EXB N w w1) (k:EXB N w1 w2):EXB N w w2 :=
 ⟨k.os.trans h.os,k.tape.trans h.tape,k.out.trans h.out,Nat.le_trans h.size k.size,fun b hb=>(k.bs b (Nat.lt_of_lt_of_le hb h.size)).trans (h.bs b hb),fun b hb=>(k.hp b hb).trans (h.hp b hb)⟩
theorem EXB.le {N M:Nat} {w w':World} (h:EXB N w w') (hM:M≤N):EXB M w w':=⟨h.os,h.tape,h.out,h.size,h.bs,fun b hb=>h.hp b (by omega)⟩
theorem exb_ext [Glob] {N:Nat} {Z Z':Nat→Prop} {lb lb':Lb} {w w':World} (h:Ext 0 Z lb w Z' lb' w') (hN:N≤w.heap.size) (hlb:∀ (i:Nat) b,lb[i]? = some (some (some b))→N≤b):EXB N w w' :=
 ⟨h.os,h.tape,h.output.out,h.size,h.bs,fun b hb=>h.hp b (by omega) fun i hi=>by have:=hlb i b hi;omega⟩
theorem exb_li {N:Nat} {Z:Nat→Prop} {w0 w:World} {gs:List Value} {u:Value} (h:LI Z w0 w gs u) (hN:N≤w0.heap.size) (hz:∀ b,Z b→N≤b):EXB N w0 w :=
 ⟨h.os,h.tape,h.out,h.size,h.bs,fun b hb=>h.hp b (by omega) fun hh=>by have:=hz b hh;omega⟩
theorem EXB.keep {N:Nat} {w w':World} (h:EXB N w w') {Z:Nat→Prop} (hz:∀ b,Z b→b<N):Keep Z w w':=fun b hb=>h.hp b (hz b hb)
theorem w_piece [Glob] {P:Program} {x y:Code} {QF:Exit→Act→World→Prop} {s:ASt} {G:Type} (S1:G→ASt) (p:G→Prop) {Z:Nat→Prop} {lb:Lb} {a:Act} {w:World} (hs:St Z lb s a w) (h:awp P 0 x (fun e s'=>match e with | .normal=>∃ g,p g∧Wk 0 s' (S1 g) | _=>False) s)
  (hy:∀ g,p g→∀ Z' lb' a' w',Ext 0 Z lb w Z' lb' w'→St Z' lb' (S1 g) a' w'→y.wp P QF a' w'):(Code.seq x y).wp P QF a w:=by
 refine wp_seq (wp_mono (h.run Z lb a w hs) ?_)
 rintro e a' w' ⟨Z',lb',s',h1,h2,h3⟩
 cases e with
 | normal =>
  obtain ⟨g,h3,h4⟩:=h3
  obtain ⟨Z2,lb2,h5,h6⟩:=h4 Z' lb' a' w' h2
  exact hy g h3 Z2 lb2 a' w' (h1.trans h5) h6
 | _=>exact h3.elim
theorem w_frame [Glob] {E:Env} {id:Nat} {ops:List Oper} {y:Code} {QF:Exit→Act→World→Prop} {s:ASt} {G:Type} (S1:G→ASt) (p:G→Prop) (t:Nat) {Z:Nat→Prop} {lb:Lb} {a:Act} {w:World} (hs:St Z lb s a w) (hd:∀ o,o∈ops→o.dst≠some t)
  (h:VX E ops ops (lenL s.L) { s with L:=addL s.L (holesOf ops) } [] (fun s' _=>∃ g,p g∧Wk 0 s' (S1 g)))
  (hy:∀ g,p g→∀ Z' lb' a' w',Ext 0 Z lb w Z' lb' w'→St Z' lb' (S1 g) a' w'→a'.tmps[t]? = a.tmps[t]?→y.wp E.P QF a' w'):(Code.seq (.region id ops.toArray false) y).wp E.P QF a w:=by
 refine wp_seq (wp_regF hs h fun Z' lb' s' a' w' h1 h2 ⟨g,h3,h4⟩ hf=>?_)
 obtain ⟨Z2,lb2,h5,h6⟩:=h4 Z' lb' a' w' h2
 exact hy g h3 Z2 lb2 a' w' (h1.trans h5) h6 (hf t hd)
theorem w_gframe1 [Glob] {E:Env} {id:Nat} (fs:List Nat) {b0 o:Oper} {q:List Oper} {y:Code} {QF:Exit→Act→World→Prop} {s:ASt} {G:Type} (S1:G→ASt) (p:G→Prop) (t:Nat) {Z:Nat→Prop} {lb:Lb} {a:Act} {w:World} (hg:isG fs o=true) (hs:St Z lb s a w) (hd:∀ x,x∈b0::o::q→x.dst≠some t)
  (h:VX E (b0::o::q) [b0] (lenL s.L) { s with L:=addL s.L (holesOf (b0::o::q)) } [] fun s1 _=>gstep E o (lenL s.L+holesOf [b0]) s1 fun e=>VX E (b0::o::q) q (lenL s.L+holesOf [b0]+slotsOf o) (s1.app o.dst e) [] (fun s' _=>∃ g,p g∧Wk 0 s' (S1 g)))
  (hy:∀ g,p g→∀ Z' lb' a' w',Ext 0 Z lb w Z' lb' w'→St Z' lb' (S1 g) a' w'→a'.tmps[t]? = a.tmps[t]?→y.wp E.P QF a' w'):(Code.seq (.region id (b0::o::q).toArray false) y).wp E.P QF a w:=by
 refine wp_seq (wp_grF1 fs hg hs h fun Z' lb' s' a' w' h1 h2 ⟨g,h3,h4⟩ hf=>?_)
 obtain ⟨Z2,lb2,h5,h6⟩:=h4 Z' lb' a' w' h2
 exact hy g h3 Z2 lb2 a' w' (h1.trans h5) h6 (hf t hd)
theorem w_gframe2 [Glob] {E:Env} {id:Nat} (fs:List Nat) {b0 b1 o:Oper} {q:List Oper} {y:Code} {QF:Exit→Act→World→Prop} {s:ASt} {G:Type} (S1:G→ASt) (p:G→Prop) (t:Nat) {Z:Nat→Prop} {lb:Lb} {a:Act} {w:World} (hg:isG fs o=true) (hs:St Z lb s a w) (hd:∀ x,x∈b0::b1::o::q→x.dst≠some t)
  (h:VX E (b0::b1::o::q) [b0,b1] (lenL s.L) { s with L:=addL s.L (holesOf (b0::b1::o::q)) } [] fun s1 _=>gstep E o (lenL s.L+holesOf [b0,b1]) s1 fun e=>VX E (b0::b1::o::q) q (lenL s.L+holesOf [b0,b1]+slotsOf o) (s1.app o.dst e) [] (fun s' _=>∃ g,p g∧Wk 0 s' (S1 g)))
  (hy:∀ g,p g→∀ Z' lb' a' w',Ext 0 Z lb w Z' lb' w'→St Z' lb' (S1 g) a' w'→a'.tmps[t]? = a.tmps[t]?→y.wp E.P QF a' w'):(Code.seq (.region id (b0::b1::o::q).toArray false) y).wp E.P QF a w:=by
 refine wp_seq (wp_grF2 fs hg hs h fun Z' lb' s' a' w' h1 h2 ⟨g,h3,h4⟩ hf=>?_)
 obtain ⟨Z2,lb2,h5,h6⟩:=h4 Z' lb' a' w' h2
 exact hy g h3 Z2 lb2 a' w' (h1.trans h5) h6 (hf t hd)
theorem st_gS {N:Nat} {Z:Nat→Prop} {lb:Lb} {s:ASt} {a:Act} {w:World} (h:@St (@gP ⟨N⟩) Z lb s a w):@St gS Z lb s a w:=by
 rcases h with ⟨o,b,c,d⟩
 refine @St.mk gS _ _ _ _ _ (own_glob o ?_) b c d
 rcases o with ⟨_,_,_,_,⟨_,g⟩⟩
 exact g.1
theorem ext_gS {N:Nat} {Z Z':Nat→Prop} {lb lb':Lb} {w w':World} (h:@Ext (@gP ⟨N⟩) 0 Z lb w Z' lb' w'):@Ext gS 0 Z lb w Z' lb' w':=by
 rcases h with ⟨a,b,c,d,e,f,g,h,i,j,k⟩
 exact @Ext.mk gS _ _ _ _ _ _ _ a b (outD_glob (g1:=@gP ⟨N⟩) (g2:=gS) (fun h=>h) c) d e f g h i j k
theorem tm_rv [Glob] {Z:Nat→Prop} {lb:Lb} {s:ASt} {a:Act} {w:World} (h:St Z lb s a w) {d:Nat} {g:Value} {x:PV} (hd:tget s.t d=some (.p (.rv g x))):a.tmps[d]? = some g∧oneB g=true∧Rep Z w (.rv g x) g:=by
 obtain ⟨u,h1,h2⟩:=tm_p h hd
 have h3:=h2
 simp only [Rep] at h3
 obtain ⟨rfl,h4,_⟩:=h3
 exact ⟨h1,h4,h2⟩
theorem lb_nil [Glob] {Z:Nat→Prop} {lb:Lb} {s:ASt} {a:Act} {w:World} (h:St Z lb s a w) (hl:s.L=[]):lb=[]:=List.length_eq_zero_iff.1 (by rw [h.own.len,hl];rfl)
theorem rep_eE {Z:Nat→Prop} {w:World} {ps:List (Ev × Value)} {g:Value} (h:Rep Z w (.rv g (.view 8 (ps.map pE))) g):Rep Z w (.view 8 ((ps.map Prod.fst).map eE)) g:=by
 have e0:∀ ps:List (Ev × Value),(ps.map Prod.fst).zip (ps.map Prod.snd)=ps:=by
  intro ps
  induction ps with
  | nil=>rfl
  | cons p ps ih=>rw [List.map_cons,List.map_cons,List.zip_cons_cons,ih]
 refine tv_view (gs:=ps.map Prod.snd) (by simp) ?_
 rw [e0];exact h
theorem slotsG [NN] (g:Nat):@Glob.slots gP g=slotOf [(62,25),(82,26),(31,26),(37,26),(81,6),(86,6),(38,6),(40,6),(35,6),(43,6),(11,26),(16,26),(28,28),(8,28),(15,26),(30,6),(50,2),(78,2),(13,2),(18,2)] g:=rfl
theorem bldG [NN]:(@Glob.bld gP:TypeId)=130:=rfl
attribute [local go_sem] rE bs_inj slotsG bldG eU deO peO cuO liO thO hiO noO rdO rlO lns_len runR runL rRunR rRunL
theorem fl_dev (A:Dv) (J:JT):∀ o,o∈(dvL A J)→flO o:=by
 have m1:∀ l:List Int,∀ x,x∈l.map eU→scal x=true:=fun l x hx=>by obtain ⟨y,_,rfl⟩:=List.mem_map.1 hx;rfl
 have m2:∀ l:List (Int × Int),∀ x,x∈l.map eWr→scal x=true:=fun l x hx=>by obtain ⟨y,_,rfl⟩:=List.mem_map.1 hx;rfl
 intro o ho
 simp only [dvL,List.mem_cons,List.not_mem_nil,or_false] at ho
 rcases ho with rfl | rfl | rfl | rfl | rfl | rfl | rfl | rfl | rfl | rfl | rfl | rfl | rfl | rfl | rfl | rfl | rfl | rfl | rfl | rfl | rfl | rfl | rfl | rfl | rfl | rfl
 all_goals first
  | exact m1 _
  | (intro x hx;rcases List.mem_append.1 hx with h | h<;>exact m2 _ x h)
  | (intro x hx;simp only [List.mem_cons,List.not_mem_nil,or_false] at hx;rcases hx with rfl | rfl | rfl | rfl | rfl | rfl | rfl | rfl | rfl | rfl | rfl | rfl | rfl | rfl | rfl<;>first | trivial | rfl)
  | (intro x hx;simp only [List.mem_cons,List.not_mem_nil,or_false] at hx;rcases hx with rfl | rfl | rfl | rfl | rfl | rfl | rfl | rfl | rfl | rfl | rfl | rfl<;>first | trivial | rfl)
  | (intro x hx;simp only [List.mem_cons,List.not_mem_nil,or_false] at hx;rcases hx with rfl | rfl | rfl | rfl<;>first | trivial | rfl)
  | trivial
theorem fl_ref (A:Dv) (hA:∀ r,A.hist r=[]):(flO (rdO A M0 27))∧flO (rlO A):=by
 constructor
 ·intro x hx
  simp only [List.mem_cons,List.not_mem_nil,or_false] at hx
  rcases hx with rfl | rfl | rfl | rfl | rfl | rfl | rfl | rfl | rfl | rfl | rfl | rfl | rfl | rfl | rfl | rfl | rfl | rfl | rfl | rfl | rfl | rfl<;>first | trivial | rfl
 ·intro x hx
  obtain ⟨r,_,rfl⟩:=List.mem_map.1 hx
  unfold lnP
  rw [hA]
  rfl
theorem cKeeps (l:List Ev) (hR:∀ x,x∈l→Rng x∧x.ch.length≤140737488355328) (lines:Int) (hln:-9223372036854775808≤lines∧lines≤9223372036854775807):PCalls Tryz.prog 7 [.view 8 (l.map rE),.v (.int .i64 lines)] (.v (.bool true)):=by
 refine yD ⟨_,rfl,rfl,by decide⟩ fun hf=>?_
 simp only [go_sem,big] at hf
 refine yB (E:=E) (fn:=Tryz.f7) 135 [.tmp 4] rfl rfl rfl rfl (by decide) rfl ?_
 refine ⟨fun Z0 lb0 a0 w0 hs0=>?_⟩
 obtain rfl:=lb_nil hs0 rfl
 -- the end
 have hfin:∀ a' w',EXB w0.heap.size w0 w'→a'.tmps[4]? = some (.bool true)→a'.defers=[]→a'.tmps.size=135→lift 0 Z0 [] w0 (endQ E [.tmp 4] (.v (.bool true))) .ret a' w':=by
  intro a' w' e h4 hd hz
  have hk:Keep Z0 w0 w':=e.keep fun b hb=>hs0.own.zlt.lt b hb
  refine ⟨Z0,[],⟨135,[(4,some (.p (.v (.bool true))))],[]⟩,⟨e.os,e.tape,OutD.quick e.out,e.size,hk,fun _ h=>h,fun _ h _=>.inl h,e.bs,fun b hb _=>e.hp b hb,fun i b h=>by simp at h,fun i x h=>by omega⟩,?_,?_⟩
  ·exact st_add (st_nil ⟨fun b hb=>Nat.lt_of_lt_of_le (hs0.own.zlt.lt b hb) e.size,Glob.mono (fun _ h=>h) hk hs0.own.zlt.gl⟩ hd hz) h4 (raw_rep rfl)
  ·simp -dsimp -implicitDefEqProofs (maxSteps:=1000000) (disch:=first | omega | (simp only [LN];omega)) only [go_sem]
 have k1:=bFew l 12 (by decide) (fun x hx=>(hR x hx).2)
 have hF:=few_rng2 (n:=12) (fun x hx=>(hR x hx).1)
 have hFl:=few_len2 l 12
 generalize fewE l 12=m at *
 refine w_piece (G:=Unit) (fun _=>⟨135,[(0,some (.p (.view 8 (l.map rE)))),(1,some (.p (.v (.int .i64 lines))))],[]⟩) (fun _=>True) hs0 ?_ ?_
 ·repeat' (first
   | (with_reducible first | refine zY ?_ | refine zT ?_ | refine zM ?_ | refine zN ?_ | refine zO ?_ | refine qK ?_ | (show False;omega))
   | ((with_reducible first | refine zP ?_ ?_ | refine zQ ?_ ?_ | refine zR ?_ ?_ | refine zL ?_ ?_)<;>intro h<;>try (exfalso;first | omega | exact h rfl | (revert h;decide) | (cases h;done)))
   | ((first | (with_reducible first | refine zW ?_ | refine zV ?_ | refine zU ?_ | refine zS ?_ | refine zX ?_ | show VX _ _ _ _ _ _ _ | show vstep _ _ _ _ _ | show vskip _ _ _ | show withV _ _ | apply qN | apply qR | refine zB default ?_ | refine zC default ?_ | refine qI ?_) | ((with_reducible show pickE _ _ _);refine qA _ ?_));try simp -dsimp -implicitDefEqProofs (maxSteps:=1000000) (disch:=first | omega | (simp only [LN];omega)) only [go_sem])
  )
  refine ⟨(),?_⟩
  refine wk_auto ?_
  simp -dsimp -implicitDefEqProofs (maxSteps:=1000000) (disch:=first | omega | (simp only [LN];omega)) only [go_sem]
 intro _ _ Z1' lb1' a1' w1' e01' hs1'
 obtain rfl:=lb_nil hs1' rfl
 refine w_piece (G:=Unit) (fun _=>⟨135,[(0,some (.p (.view 8 (m.map rE)))),(1,some (.p (.v (.int .i64 lines))))],[]⟩) (fun _=>True) hs1' ?_ ?_
 ·repeat' (first
   | (with_reducible first | refine zY ?_ | refine zT ?_ | refine zM ?_ | refine zN ?_ | refine zO ?_ | refine qK ?_ | (show False;omega))
   | ((with_reducible first | refine zP ?_ ?_ | refine zQ ?_ ?_ | refine zR ?_ ?_ | refine zL ?_ ?_)<;>intro h<;>try (exfalso;first | omega | exact h rfl | (revert h;decide) | (cases h;done)))
   | ((first | (with_reducible first | refine zW ?_ | refine zV ?_ | refine zU ?_ | refine zS ?_ | refine zX ?_ | show VX _ _ _ _ _ _ _ | show vstep _ _ _ _ _ | show vskip _ _ _ | show withV _ _ | apply qN | apply qR | refine zB default ?_ | refine zC default ?_ | refine qI ?_) | ((with_reducible apply zD);(exact k1)) | ((with_reducible apply zE);(exact k1);rfl) | ((with_reducible apply zF);(exact k1)) | ((with_reducible show pickE _ _ _);refine qA _ ?_));try simp -dsimp -implicitDefEqProofs (maxSteps:=1000000) (disch:=first | omega | (simp only [LN];omega)) only [go_sem])
  )
  refine ⟨(),?_⟩
  refine wk_auto ?_
  simp -dsimp -implicitDefEqProofs (maxSteps:=1000000) (disch:=first | omega | (simp only [LN];omega)) only [go_sem]
 intro _ _ Z1 lb1 a1 w1 e11 hs1
 obtain rfl:=lb_nil hs1 rfl
 have e01:=e01'.trans e11
 clear e01' e11 hs1' k1
 have x01:EXB w0.heap.size w0 w1:=exb_ext e01 (Nat.le_refl _) (fun i b h=>by simp at h)
 obtain ⟨u0,t0,r0⟩:=tm_p hs1 (d:=0) rfl
 obtain ⟨t1,_⟩:=tm_raw hs1 (d:=1) (v:=.int .i64 lines) rfl
 have o0:=view_one r0
 have z1:∀ b,Z1 b→b<w1.heap.size:=hs1.own.zlt.lt
 have g1:Glob.G Z1 w1:=hs1.own.zlt.gl
 have d1:=hs1.df
 have n1:a1.tmps.size=135:=hs1.sz
 have s01:=x01.size
 clear e01 hs1
 -- own
 have F0:(∀ x,x∈m→(0≤x.k∧x.k≤255)∧x.ch.length≤1000000):=fun x hx=>⟨(hF x hx).2.1,by have:=(hF x hx).2.2;omega⟩
 have F1:(∀ x,x∈m→Rng x∧x.ch.length≤1000000):=fun x hx=>⟨(hF x hx).1,by have:=(hF x hx).2.2;omega⟩
 have q2:∃ N,N=w1.heap.size:=⟨_,rfl⟩
 obtain ⟨Nf,hNf⟩:=q2
 have hsA:@St (@gP ⟨Nf⟩) (fun b=>b<Nf) [] ⟨135,[(0,some (.p (.view 8 (m.map rE)))),(1,some (.p (.v (.int .i64 lines))))],[]⟩ a1 w1:=by
  subst hNf
  letI iN:NN:=⟨w1.heap.size⟩
  letI:Glob:=gP
  refine st_add (st_add (st_nil ⟨fun b h=>h,?_⟩ d1 n1) t1 (raw_rep rfl)) t0 ?_
  ·refine ⟨@Glob.mono gS _ _ _ _ z1 (fun _ _=>rfl) g1,?_⟩
   show w1.heap.size=0∨w1.heap.size - 1<w1.heap.size
   omega
  ·simp only [ARep];exact Rep.mono z1 (fun _ _=>rfl) _ _ r0
 refine @w_gframe1 (@gP ⟨Nf⟩) _ _ [17+1] _ _ _ _ _ _ (List (Ev × Value) × Value) (fun g=>⟨135,[(5,some (.p (.rv g.2 (.view 8 (g.1.map pE))))),(1,some (.p (.v (.int .i64 lines))))],[]⟩) (fun g=>g.1.map Prod.fst=m∧(∀ p,p∈g.1→Nb Nf p.2)∧Nb Nf g.2) 0 _ _ _ _ (by with_unfolding_all exact rfl) hsA (by simp) ?_ ?_
 ·letI iN:NN:=⟨Nf⟩
  letI:Glob:=gP
  have ko:=xn (kOwnR m (by omega) F0)
  simp -dsimp -implicitDefEqProofs (maxSteps:=1000000) (disch:=first | omega | (simp only [LN];omega)) only [go_sem]
  repeat' (first
   | (with_reducible first | refine zY ?_ | refine zT ?_ | refine zM ?_ | refine zN ?_ | refine zO ?_ | refine qK ?_ | (show False;omega))
   | ((with_reducible first | refine zP ?_ ?_ | refine zQ ?_ ?_ | refine zR ?_ ?_ | refine zL ?_ ?_)<;>intro h<;>try (exfalso;first | omega | exact h rfl | (revert h;decide) | (cases h;done)))
   | ((with_reducible first | refine r_gr0 [18] ?_ | refine r_gr1 [18] ?_ | refine r_gr2 [18] ?_ | refine r_gr3 [18] ?_ | refine r_gr4 [18] ?_ | refine r_gr5 [18] ?_ | refine r_gr6 [18] ?_ | refine r_gr7 [18] ?_ | refine r_gr8 [18] ?_ | refine r_gr9 [18] ?_ | refine r_gr10 [18] ?_);simp -dsimp -implicitDefEqProofs (maxSteps:=1000000) (disch:=first | omega | (simp only [LN];omega)) only [go_sem])
   | ((first | (with_reducible first | refine zW ?_ | refine zV ?_ | refine zU ?_ | refine zS ?_ | refine zX ?_ | show VX _ _ _ _ _ _ _ | show vstep _ _ _ _ _ | show vskip _ _ _ | show withV _ _ | apply qN | apply qR | refine zB default ?_ | refine zC default ?_ | refine qI ?_) | ((with_reducible apply zK);(first | exact ko);intro gq) | ((with_reducible show pickE _ _ _);refine qA _ ?_));try simp -dsimp -implicitDefEqProofs (maxSteps:=1000000) (disch:=first | omega | (simp only [LN];omega)) only [go_sem])
  )
  exact ⟨(gq.1.1.1,gq.1.2),⟨gq.1.1.2.1,gq.1.1.2.2,gq.2⟩,by refine wk_auto ?_;simp -dsimp -implicitDefEqProofs (maxSteps:=1000000) (disch:=first | omega | (simp only [LN];omega)) only [go_sem]⟩
 rintro ⟨ps,g5⟩ ⟨hps,hnp,hng⟩ Z2 lb2 a2 w2 e12p hs2p f0
 simp only at hps hnp hng
 have hs2:=st_gS hs2p
 have e12:=ext_gS e12p
 clear hs2p e12p
 obtain rfl:=lb_nil hs2 rfl
 clear hsA
 have x12:EXB w1.heap.size w1 w2:=exb_ext e12 (Nat.le_refl _) (fun i b h=>by simp at h)
 have t0:=f0.trans t0
 obtain ⟨t5,o5,r5⟩:=tm_rv hs2 (d:=5) (g:=g5) (x:=.view 8 (ps.map pE)) rfl
 obtain ⟨t1,_⟩:=tm_raw hs2 (d:=1) (v:=.int .i64 lines) rfl
 have z2:∀ b,Z2 b→b<w2.heap.size:=hs2.own.zlt.lt
 have g2:Glob.G Z2 w2:=hs2.own.zlt.gl
 have d2:=hs2.df
 have n2:a2.tmps.size=135:=hs2.sz
 have s12:=x12.size
 have v5:=rep_eE r5
 rw [hps] at v5
 obtain ⟨tv5,tb5⟩:=tv_of r5
 have B5lo:∀ b,RB g5 (ps.map Prod.snd) b→Nf≤b:=fun b hb=>rb_ge hng (fun g hg=>by obtain ⟨p,hp,rfl⟩:=List.mem_map.1 hg;exact hnp p hp) hb
 have B5hi:∀ b,RB g5 (ps.map Prod.snd) b→b<w2.heap.size:=fun b hb=>z2 b (tb5 b hb)
 generalize ps.map Prod.snd=gs5 at *
 clear hps hnp hng e12 r5 hs2 f0 tb5 ps
 -- the text
 have k3:=sTextL m (by omega) F1
 refine w_frame (G:=Unit) (fun _=>⟨135,[(6,some (.p (.v (.string (bs (txL m)))))),(0,some (.p (.v u0))),(1,some (.p (.v (.int .i64 lines))))],[]⟩) (fun _=>True) 5 (Z:=Z2) (lb:=[]) (s:=⟨135,[(5,some (.p (.view 8 (m.map eE)))),(0,some (.p (.v u0))),(1,some (.p (.v (.int .i64 lines))))],[]⟩) ?_ (by simp) ?_ ?_
 ·exact st_add (st_add (st_add (st_nil ⟨z2,g2⟩ d2 n2) t1 (raw_rep rfl)) t0 (raw_rep o0)) t5 (by simp only [ARep];exact v5)
 ·repeat' (first
   | (with_reducible first | refine zY ?_ | refine zT ?_ | refine zM ?_ | refine zN ?_ | refine zO ?_ | refine qK ?_ | (show False;omega))
   | ((with_reducible first | refine zP ?_ ?_ | refine zQ ?_ ?_ | refine zR ?_ ?_ | refine zL ?_ ?_)<;>intro h<;>try (exfalso;first | omega | exact h rfl | (revert h;decide) | (cases h;done)))
   | ((first | (with_reducible first | refine zW ?_ | refine zV ?_ | refine zU ?_ | refine zS ?_ | refine zX ?_ | show VX _ _ _ _ _ _ _ | show vstep _ _ _ _ _ | show vskip _ _ _ | show withV _ _ | apply qN | apply qR | refine zB default ?_ | refine zC default ?_ | refine qI ?_) | ((with_reducible apply zD);(exact k3)) | ((with_reducible apply zE);(exact k3);rfl) | ((with_reducible apply zF);(exact k3)) | ((with_reducible show pickE _ _ _);refine qA _ ?_));try simp -dsimp -implicitDefEqProofs (maxSteps:=1000000) (disch:=first | omega | (simp only [LN];omega)) only [go_sem])
  )
  refine ⟨(),?_⟩
  refine wk_auto ?_
  simp -dsimp -implicitDefEqProofs (maxSteps:=1000000) (disch:=first | omega | (simp only [LN];omega)) only [go_sem]
 intro _ _ Z3 lb3 a3 w3 e23 hs3 f5
 obtain rfl:=lb_nil hs3 rfl
 have x23:EXB w2.heap.size w2 w3:=exb_ext e23 (Nat.le_refl _) (fun i b h=>by simp at h)
 have t5:=f5.trans t5
 obtain ⟨t6,_⟩:=tm_raw hs3 (d:=6) (v:=.string (bs (txL m))) rfl
 obtain ⟨t0,_⟩:=tm_raw hs3 (d:=0) (v:=u0) rfl
 obtain ⟨t1,_⟩:=tm_raw hs3 (d:=1) (v:=.int .i64 lines) rfl
 have d3:=hs3.df
 have n3:a3.tmps.size=135:=hs3.sz
 have s23:=x23.size
 clear e23 hs3 f5 k3
 -- the first reading
 obtain ⟨N3,hN3⟩:∃ N,N=w3.heap.size:=⟨_,rfl⟩
 have hsB:@St (@gP ⟨N3⟩) (fun b=>b<N3) [] ⟨135,[(0,some (.p (.v u0))),(1,some (.p (.v (.int .i64 lines)))),(5,some (.p (.v g5))),(6,some (.p (.v (.string (bs (txL m))))))],[]⟩ a3 w3:=by
  subst hN3
  letI iN:NN:=⟨w3.heap.size⟩
  letI:Glob:=gP
  refine st_add (st_add (st_add (st_add (st_nil ⟨fun b h=>h,?_⟩ d3 n3) t6 (raw_rep rfl)) t5 (raw_rep o5)) t1 (raw_rep rfl)) t0 (raw_rep o0)
  refine ⟨@Glob.mono gS Z2 (fun b=>b<w3.heap.size) w2 w3 (fun b hb=>Nat.lt_of_lt_of_le (z2 b hb) s23) (x23.keep z2) g2,?_⟩
  show w3.heap.size=0∨w3.heap.size - 1<w3.heap.size
  omega
 have hfl:(m.filter fun x=>okE x).length≤m.length:=List.length_filter_le _ _
 have hmf:∀ x,x∈(m.filter fun x=>okE x)→x∈m∧okE x=true:=fun x hx=>List.mem_filter.1 hx
 refine @w_piece (@gP ⟨N3⟩) _ _ _ _ _ (List (Ev × Value) × Value) (fun g=>⟨135,[(7,some (.p (.rv g.2 (.view 8 (g.1.map pE))))),(9,some (.p (.v (.int .i64 0)))),(0,some (.p (.v u0))),(1,some (.p (.v (.int .i64 lines)))),(5,some (.p (.v g5))),(6,some (.p (.v (.string (bs (txL m))))))],[]⟩) (fun g=>(∀ p,p∈g.1→Nb N3 p.2)∧Nb N3 g.2) _ _ _ _ hsB ?_ ?_
 ·letI iN:NN:=⟨N3⟩
  letI:Glob:=gP
  have kp:=sParseR (m.filter fun x=>okE x) (fun x hx=>(F1 x (hmf x hx).1).1) (fun x hx=>(hmf x hx).2) (by omega)
  rw [txL_filter] at kp
  repeat' (first
   | (with_reducible first | refine zY ?_ | refine zT ?_ | refine zM ?_ | refine zN ?_ | refine zO ?_ | refine qK ?_ | (show False;omega))
   | ((with_reducible first | refine zP ?_ ?_ | refine zQ ?_ ?_ | refine zR ?_ ?_ | refine zL ?_ ?_)<;>intro h<;>try (exfalso;first | omega | exact h rfl | (revert h;decide) | (cases h;done)))
   | ((with_reducible first | refine r_gr0 [27] ?_ | refine r_gr1 [27] ?_ | refine r_gr2 [27] ?_ | refine r_gr3 [27] ?_ | refine r_gr4 [27] ?_ | refine r_gr5 [27] ?_ | refine r_gr6 [27] ?_ | refine r_gr7 [27] ?_ | refine r_gr8 [27] ?_ | refine r_gr9 [27] ?_ | refine r_gr10 [27] ?_);simp -dsimp -implicitDefEqProofs (maxSteps:=1000000) (disch:=first | omega | (simp only [LN];omega)) only [go_sem])
   | ((first | (with_reducible first | refine zW ?_ | refine zV ?_ | refine zU ?_ | refine zS ?_ | refine zX ?_ | show VX _ _ _ _ _ _ _ | show vstep _ _ _ _ _ | show vskip _ _ _ | show withV _ _ | apply qN | apply qR | refine zB default ?_ | refine zC default ?_ | refine qI ?_) | ((with_reducible apply zK);(first | exact kp);intro gq) | ((with_reducible show pickE _ _ _);refine qA _ ?_));try simp -dsimp -implicitDefEqProofs (maxSteps:=1000000) (disch:=first | omega | (simp only [LN];omega)) only [go_sem])
  )
  exact ⟨(gq.1.1.1,gq.1.2),⟨gq.1.1.2.2,gq.2⟩,by refine wk_auto ?_;simp -dsimp -implicitDefEqProofs (maxSteps:=1000000) (disch:=first | omega | (simp only [LN];omega)) only [go_sem]⟩
 rintro ⟨ps,g7⟩ ⟨hnp,hng⟩ Z4 lb4 a4 w4 e34p hs4p
 simp only at hnp hng
 have hs4:=st_gS hs4p
 have e34:=ext_gS e34p
 clear hs4p e34p hsB
 obtain rfl:=lb_nil hs4 rfl
 have x34:EXB w3.heap.size w3 w4:=exb_ext e34 (Nat.le_refl _) (fun i b h=>by simp at h)
 obtain ⟨t7,o7,r7⟩:=tm_rv hs4 (d:=7) (g:=g7) (x:=.view 8 (ps.map pE)) rfl
 obtain ⟨t9,_⟩:=tm_raw hs4 (d:=9) (v:=.int .i64 0) rfl
 obtain ⟨t0,_⟩:=tm_raw hs4 (d:=0) (v:=u0) rfl
 obtain ⟨t1,_⟩:=tm_raw hs4 (d:=1) (v:=.int .i64 lines) rfl
 obtain ⟨t5,_⟩:=tm_raw hs4 (d:=5) (v:=g5) rfl
 obtain ⟨t6,_⟩:=tm_raw hs4 (d:=6) (v:=.string (bs (txL m))) rfl
 have z4:∀ b,Z4 b→b<w4.heap.size:=hs4.own.zlt.lt
 have d4:=hs4.df
 have n4:a4.tmps.size=135:=hs4.sz
 have s34:=x34.size
 obtain ⟨tv7,tb7⟩:=tv_of r7
 have B7lo:∀ b,RB g7 (ps.map Prod.snd) b→N3≤b:=fun b hb=>rb_ge hng (fun g hg=>by obtain ⟨p,hp,rfl⟩:=List.mem_map.1 hg;exact hnp p hp) hb
 have B7hi:∀ b,RB g7 (ps.map Prod.snd) b→b<w4.heap.size:=fun b hb=>z4 b (tb7 b hb)
 generalize ps.map Prod.snd=gs7 at *
 clear hnp hng e34 r7 hs4 tb7
 -- the second reading, and whether the document's values hold
 have x13:EXB w1.heap.size w1 w3:=x12.trans (x23.le (by omega))
 have x14:EXB w1.heap.size w1 w4:=x13.trans (x34.le (by omega))
 have gC:Glob.G (fun b=>b<Nf) w4:=Glob.mono (fun b hb=>by rw [hNf];exact z1 b hb) (x14.keep z1) g1
 have kq:=sParse (m.filter fun x=>okE x) (fun x hx=>(F1 x (hmf x hx).1).1) (fun x hx=>(hmf x hx).2) (by omega)
 rw [txL_filter] at kq
 refine w_piece (G:=Unit) (fun _=>⟨135,[(10,some (.p (.view 8 ((m.filter fun x=>okE x).map eE)))),(12,some (.p (.v (.int .i64 0)))),(9,some (.p (.v (.int .i64 0)))),(0,some (.p (.v u0))),(1,some (.p (.v (.int .i64 lines)))),(5,some (.p (.v g5))),(6,some (.p (.v (.string (bs (txL m)))))),(7,some (.p (.v g7)))],[]⟩) (fun _=>True) (Z:=fun b=>b<Nf) (lb:=[]) (s:=⟨135,[(9,some (.p (.v (.int .i64 0)))),(0,some (.p (.v u0))),(1,some (.p (.v (.int .i64 lines)))),(5,some (.p (.v g5))),(6,some (.p (.v (.string (bs (txL m)))))),(7,some (.p (.v g7)))],[]⟩) ?_ ?_ ?_
 ·exact st_add (st_add (st_add (st_add (st_add (st_add (st_nil ⟨fun b (hb:b<Nf)=>by omega,gC⟩ d4 n4) t7 (raw_rep o7)) t6 (raw_rep rfl)) t5 (raw_rep o5)) t1 (raw_rep rfl)) t0 (raw_rep o0)) t9 (raw_rep rfl)
 ·repeat' (first
   | (with_reducible first | refine zY ?_ | refine zT ?_ | refine zM ?_ | refine zN ?_ | refine zO ?_ | refine qK ?_ | (show False;omega))
   | ((with_reducible first | refine zP ?_ ?_ | refine zQ ?_ ?_ | refine zR ?_ ?_ | refine zL ?_ ?_)<;>intro h<;>try (exfalso;first | omega | exact h rfl | (revert h;decide) | (cases h;done)))
   | ((first | (with_reducible first | refine zW ?_ | refine zV ?_ | refine zU ?_ | refine zS ?_ | refine zX ?_ | show VX _ _ _ _ _ _ _ | show vstep _ _ _ _ _ | show vskip _ _ _ | show withV _ _ | apply qN | apply qR | refine zB default ?_ | refine zC default ?_ | refine qI ?_) | ((with_reducible apply zD);(exact kq)) | ((with_reducible apply zE);(exact kq);rfl) | ((with_reducible apply zF);(exact kq)) | ((with_reducible show pickE _ _ _);refine qA _ ?_));try simp -dsimp -implicitDefEqProofs (maxSteps:=1000000) (disch:=first | omega | (simp only [LN];omega)) only [go_sem])
  )
  refine ⟨(),?_⟩
  refine wk_auto ?_
  simp -dsimp -implicitDefEqProofs (maxSteps:=1000000) (disch:=first | omega | (simp only [LN];omega)) only [go_sem]
 intro _ _ Z5 lb5 a5 w5 e45 hs5
 obtain rfl:=lb_nil hs5 rfl
 refine w_piece (G:=Unit) (fun _=>⟨135,[(10,some (.p (.view 8 ((m.filter fun x=>okE x).map eE)))),(0,some (.p (.v u0))),(1,some (.p (.v (.int .i64 lines)))),(5,some (.p (.v g5))),(6,some (.p (.v (.string (bs (txL m)))))),(7,some (.p (.v g7)))],[]⟩) (fun _=>True) hs5 ?_ ?_
 ·repeat' (first
   | (with_reducible first | refine zY ?_ | refine zT ?_ | refine zM ?_ | refine zN ?_ | refine zO ?_ | refine qK ?_ | (show False;omega))
   | ((with_reducible first | refine zP ?_ ?_ | refine zQ ?_ ?_ | refine zR ?_ ?_ | refine zL ?_ ?_)<;>intro h<;>try (exfalso;first | omega | exact h rfl | (revert h;decide) | (cases h;done)))
   | ((first | (with_reducible first | refine zW ?_ | refine zV ?_ | refine zU ?_ | refine zS ?_ | refine zX ?_ | show VX _ _ _ _ _ _ _ | show vstep _ _ _ _ _ | show vskip _ _ _ | show withV _ _ | apply qN | apply qR | refine zB default ?_ | refine zC default ?_ | refine qI ?_) | ((with_reducible apply zD);(exact sAwake)) | ((with_reducible apply zE);(exact sAwake);rfl) | ((with_reducible apply zF);(exact sAwake)) | ((with_reducible show pickE _ _ _);refine qA _ ?_));try simp -dsimp -implicitDefEqProofs (maxSteps:=1000000) (disch:=first | omega | (simp only [LN];omega)) only [go_sem])
  )
  all_goals first | omega | contradiction | skip
  refine ⟨(),?_⟩
  refine wk_auto ?_
  simp -dsimp -implicitDefEqProofs (maxSteps:=1000000) (disch:=first | omega | (simp only [LN];omega)) only [go_sem]
 intro _ _ Z6 lb6 a6 w6 e56 hs6
 obtain rfl:=lb_nil hs6 rfl
 have e46:=e45.trans e56
 have x46:EXB w4.heap.size w4 w6:=exb_ext e46 (Nat.le_refl _) (fun i b h=>by simp at h)
 obtain ⟨u10,t10,r10⟩:=tm_p hs6 (d:=10) rfl
 have o10:=view_one r10
 obtain ⟨t0,_⟩:=tm_raw hs6 (d:=0) (v:=u0) rfl
 obtain ⟨t1,_⟩:=tm_raw hs6 (d:=1) (v:=.int .i64 lines) rfl
 obtain ⟨t5,_⟩:=tm_raw hs6 (d:=5) (v:=g5) rfl
 obtain ⟨t6,_⟩:=tm_raw hs6 (d:=6) (v:=.string (bs (txL m))) rfl
 obtain ⟨t7,_⟩:=tm_raw hs6 (d:=7) (v:=g7) rfl
 have z6:∀ b,Z6 b→b<w6.heap.size:=hs6.own.zlt.lt
 have z6lo:∀ b,Z6 b→b<Nf∨w4.heap.size≤b:=fun b hb=>by
  rcases Nat.lt_or_ge b w4.heap.size with h | h
  ·rcases e46.z2 b hb h with h | ⟨i,h⟩
   ·exact .inl h
   ·simp at h
  ·exact .inr h
 have d6:=hs6.df
 have n6:a6.tmps.size=135:=hs6.sz
 have s46:=x46.size
 clear e45 e56 e46 hs5 hs6 kq gC
 -- the first loop
 refine wp_seq ?_
 refine kL1 rfl (Z:=RB g7 gs7) (w0:=w6) (gs:=gs7) (u:=g7) u0 (.int .i64 lines) g5 (.string (bs (txL m))) u10 ?_ a6 w6 ?_ ?_
 ·intro gs' a7 w7 hs7 hl7
  show Code.wp _ _ _ a7 w7
  have hT:(a7.tmps[0]? = some u0∧a7.tmps[1]? = some (.int .i64 lines)∧a7.tmps[5]? = some g5∧a7.tmps[6]? = some (.string (bs (txL m)))∧a7.tmps[10]? = some u10)∧a7.defers=[]∧a7.tmps.size=135:=by
   letI:Glob:=glT
   exact ⟨⟨(tm_raw hs7 (d:=0) (v:=u0) rfl).1,(tm_raw hs7 (d:=1) (v:=.int .i64 lines) rfl).1,(tm_raw hs7 (d:=5) (v:=g5) rfl).1,(tm_raw hs7 (d:=6) (v:=.string (bs (txL m))) rfl).1,(tm_raw hs7 (d:=10) (v:=u10) rfl).1⟩,hs7.df,hs7.sz⟩
  clear t0 t1 t5 t6 t7 t10
  obtain ⟨⟨t0,t1,t5,t6,t10⟩,d7,n7⟩:=hT
  have x67:EXB N3 w6 w7:=exb_li hl7 (by omega) B7lo
  have k67:Keep Z6 w6 w7:=fun b hb=>hl7.hp b (z6 b hb) (fun h=>by have h1:=B7lo b h;have h2:=B7hi b h;rcases z6lo b hb with h | h<;>omega)
  have s67:=x67.size
  have x17:EXB w1.heap.size w1 w7:=(x14.trans (x46.le (by omega))).trans (x67.le (by omega))
  have x27:EXB w2.heap.size w2 w7:=((x23.trans (x34.le (by omega))).trans (x46.le (by omega))).trans (x67.le (by omega))
  clear hs7 hl7 tv7 B7lo B7hi o7 d6 n6
  have gD:Glob.G (fun b=>b<Nf) w7:=Glob.mono (fun b hb=>by rw [hNf];exact z1 b hb) (x17.keep z1) g1
  obtain ⟨n,hn,hn0⟩:∃ n:Nat,(n:Int)=1+lines % 6∧(0<n∧n≤6):=⟨(1+lines % 6).toNat,by omega,by omega,by omega⟩
  have kb:=bBegin0 lines hln n hn
  have h0:=Ok3.fresh n hn0
  have hA:∀ r,(Dv.fresh n (List.replicate (8*n) 0)).hist r=[]:=fun _=>rfl
  generalize Dv.fresh n (List.replicate (8*n) 0)=A at *
  obtain ⟨hI,hRI⟩:=h0
  simp only at hI hRI
  refine w_piece (G:=Unit) (fun _=>⟨135,[(15,some (.loc 0 0)),(16,some (.loc 26 0)),(0,some (.p (.v u0))),(5,some (.p (.v g5))),(6,some (.p (.v (.string (bs (txL m)))))),(10,some (.p (.v u10)))],someL (dvL A J0)++[some (rdO A M0 27),some (rlO A)]⟩) (fun _=>True) (Z:=fun b=>b<Nf) (lb:=[]) (s:=⟨135,[(1,some (.p (.v (.int .i64 lines)))),(0,some (.p (.v u0))),(5,some (.p (.v g5))),(6,some (.p (.v (.string (bs (txL m)))))),(10,some (.p (.v u10)))],[]⟩) ?_ ?_ ?_
  ·exact st_add (st_add (st_add (st_add (st_add (st_nil ⟨fun b (hb:b<Nf)=>by omega,gD⟩ d7 n7) t10 (raw_rep o10)) t6 (raw_rep rfl)) t5 (raw_rep o5)) t0 (raw_rep o0)) t1 (raw_rep rfl)
  ·repeat' (first
    | (with_reducible first | refine zY ?_ | refine zT ?_ | refine zM ?_ | refine zN ?_ | refine zO ?_ | refine qK ?_ | (show False;omega))
    | ((with_reducible first | refine zP ?_ ?_ | refine zQ ?_ ?_ | refine zR ?_ ?_ | refine zL ?_ ?_)<;>intro h<;>try (exfalso;first | omega | exact h rfl | (revert h;decide) | (cases h;done)))
    | ((first | (with_reducible first | refine zW ?_ | refine zV ?_ | refine zU ?_ | refine zS ?_ | refine zX ?_ | show VX _ _ _ _ _ _ _ | show vstep _ _ _ _ _ | show vskip _ _ _ | show withV _ _ | apply qN | apply qR | refine zB default ?_ | refine zC default ?_ | refine qI ?_) | (with_reducible first | apply zG | apply zH | apply zI) | ((with_reducible apply zJ);(first | exact kb)) | ((with_reducible show pickE _ _ _);refine qA _ ?_));try simp -dsimp -implicitDefEqProofs (maxSteps:=1000000) (disch:=first | omega | (simp only [LN];omega)) only [go_sem])
   )
   refine ⟨(),?_⟩
   refine wk_auto ?_
   simp -dsimp -implicitDefEqProofs (maxSteps:=1000000) (disch:=first | omega | (simp only [LN];omega)) only [go_sem]
  intro _ _ Z8' lb8' a8' w8' e78' hs8'
  refine w_piece (G:=Unit) (fun _=>⟨135,[(15,some (.loc 0 0)),(16,some (.loc 26 0)),(0,some (.p (.v u0))),(5,some (.p (.v g5))),(6,some (.p (.v (.string (bs (txL m)))))),(10,some (.p (.v u10)))],someL (dvL A J0)++[some (rdO A M0 27),some (rlO A)]⟩) (fun _=>True) hs8' ?_ ?_
  ·repeat' (first
    | (with_reducible first | refine zY ?_ | refine zT ?_ | refine zM ?_ | refine zN ?_ | refine zO ?_ | refine qK ?_ | (show False;omega))
    | ((with_reducible first | refine zP ?_ ?_ | refine zQ ?_ ?_ | refine zR ?_ ?_ | refine zL ?_ ?_)<;>intro h<;>try (exfalso;first | omega | exact h rfl | (revert h;decide) | (cases h;done)))
    | ((first | (with_reducible first | refine zW ?_ | refine zV ?_ | refine zU ?_ | refine zS ?_ | refine zX ?_ | show VX _ _ _ _ _ _ _ | show vstep _ _ _ _ _ | show vskip _ _ _ | show withV _ _ | apply qN | apply qR | refine zB default ?_ | refine zC default ?_ | refine qI ?_) | ((with_reducible show pickE _ _ _);refine qA _ ?_));try simp -dsimp -implicitDefEqProofs (maxSteps:=1000000) (disch:=first | omega | (simp only [LN];omega)) only [go_sem])
   )
   all_goals first | omega | contradiction | skip
   refine ⟨(),?_⟩
   refine wk_auto ?_
   simp -dsimp -implicitDefEqProofs (maxSteps:=1000000) (disch:=first | omega | (simp only [LN];omega)) only [go_sem]
  intro _ _ Z8 lb8 a8 w8 e88 hs8
  have e78:=e78'.trans e88
  clear e78' e88 hs8' kb gD
  have x78:EXB w7.heap.size w7 w8:=exb_ext e78 (Nat.le_refl _) (fun i b h=>by simp at h)
  have s78:=x78.size
  have hl8:∀ (i:Nat) b,lb8[i]? = some (some (some b))→w7.heap.size≤b:=fun i b h=>by
   rcases e78.fresh i b h with ⟨j,h⟩ | h
   ·simp at h
   ·exact h
  have z8:∀ b,Z8 b→b<w8.heap.size:=hs8.own.zlt.lt
  have z8lo:∀ b,Z8 b→b<Nf∨w7.heap.size≤b:=fun b hb=>by
   rcases Nat.lt_or_ge b w7.heap.size with h | h
   ·rcases e78.z2 b hb h with h | ⟨i,h⟩
    ·exact .inl h
    ·simp at h
   ·exact .inr h
  have z8up:∀ b,b<Nf→Z8 b:=fun b hb=>e78.z1 b hb
  have x28:EXB w2.heap.size w2 w8:=x27.trans (x78.le (by omega))
  have x18:EXB w1.heap.size w1 w8:=x17.trans (x78.le (by omega))
  clear t0 t1 t5 t6 t10
  obtain ⟨t0,_⟩:=tm_raw hs8 (d:=0) (v:=u0) rfl
  obtain ⟨t5,_⟩:=tm_raw hs8 (d:=5) (v:=g5) rfl
  obtain ⟨t6,_⟩:=tm_raw hs8 (d:=6) (v:=.string (bs (txL m))) rfl
  obtain ⟨t10,_⟩:=tm_raw hs8 (d:=10) (v:=u10) rfl
  obtain ⟨u15,t15,r15⟩:=hs8.tm 15 (.loc 0 0) rfl
  obtain ⟨u16,t16,r16⟩:=hs8.tm 16 (.loc 26 0) rfl
  have hm8:=st_more (st_base hs8) (Zn:=fun b=>Z8 b∨b<w2.heap.size) (fun _ h=>.inl h) (fun b hb=>by
   rcases hb with h | h
   ·exact ⟨z8 b h,.inl h⟩
   ·exact ⟨by omega,.inr fun i hi=>by have:=hl8 i b hi;omega⟩)
  have ld:=fun {x:AV} {u:Value} (h:ARep Z8 lb8 w8 x u)=>(ARep.mono (Z':=fun b=>Z8 b∨b<w2.heap.size) (fun _ h=>.inl h) (fun _ _=>rfl) (fun _ _ h=>h) (fun _ _=>rfl) x u h:ARep (fun b=>Z8 b∨b<w2.heap.size) lb8 w8 x u)
  have k8:=dRun A J0 0 hI m (by omega) F1
  obtain ⟨B,hB⟩:∃ B,B=(A.run m).1:=⟨_,rfl⟩
  obtain ⟨eb,heb⟩:∃ e,e=(A.run m).2:=⟨_,rfl⟩
  have kr:=rRun A M0 0 hI hRI m (by omega) F1
  rw [← hB,← heb] at k8 kr
  refine w_gframe2 [16+1] (fun J2:JT=>⟨135,[(15,some (.loc 0 0)),(16,some (.loc 26 0)),(0,some (.p (.v u0))),(6,some (.p (.v (.string (bs (txL m)))))),(10,some (.p (.v u10)))],someL (dvL B J2)++[some (rdO A M0 27),some (rlO A)]⟩) (fun J2=>Inv B J2 100) 5 (by with_unfolding_all exact rfl) (Z:=fun b=>Z8 b∨b<w2.heap.size) (lb:=lb8) (s:=⟨135,[(5,some (.p (.view 8 (m.map eE)))),(15,some (.loc 0 0)),(16,some (.loc 26 0)),(0,some (.p (.v u0))),(6,some (.p (.v (.string (bs (txL m)))))),(10,some (.p (.v u10)))],someL (dvL A J0)++[some (rdO A M0 27),some (rlO A)]⟩) ?_ (by simp) ?_ ?_
  ·exact st_add (st_add (st_add (st_add (st_add (st_add hm8 t10 (raw_rep o10)) t6 (raw_rep rfl)) t0 (raw_rep o0)) t16 (ld r16)) t15 (ld r15)) t5 (by simp only [ARep];exact Rep.mono (fun b hb=>.inr (z2 b hb)) (x28.keep z2) _ _ v5)
  ·simp -dsimp -implicitDefEqProofs (maxSteps:=1000000) (disch:=first | omega | (simp only [LN];omega)) only [go_sem]
   repeat' (first
    | (with_reducible first | refine zY ?_ | refine zT ?_ | refine zM ?_ | refine zN ?_ | refine zO ?_ | refine qK ?_ | (show False;omega))
    | ((with_reducible first | refine zP ?_ ?_ | refine zQ ?_ ?_ | refine zR ?_ ?_ | refine zL ?_ ?_)<;>intro h<;>try (exfalso;first | omega | exact h rfl | (revert h;decide) | (cases h;done)))
    | ((with_reducible first | refine r_gr0 [17] ?_ | refine r_gr1 [17] ?_ | refine r_gr2 [17] ?_ | refine r_gr3 [17] ?_ | refine r_gr4 [17] ?_ | refine r_gr5 [17] ?_ | refine r_gr6 [17] ?_ | refine r_gr7 [17] ?_ | refine r_gr8 [17] ?_ | refine r_gr9 [17] ?_ | refine r_gr10 [17] ?_);simp -dsimp -implicitDefEqProofs (maxSteps:=1000000) (disch:=first | omega | (simp only [LN];omega)) only [go_sem])
    | ((first | (with_reducible first | refine zW ?_ | refine zV ?_ | refine zU ?_ | refine zS ?_ | refine zX ?_ | show VX _ _ _ _ _ _ _ | show vstep _ _ _ _ _ | show vskip _ _ _ | show withV _ _ | apply qN | apply qR | refine zB default ?_ | refine zC default ?_ | refine qI ?_) | ((with_reducible apply zK);(first | exact k8);intro gq) | ((with_reducible show pickE _ _ _);refine qA _ ?_));try simp -dsimp -implicitDefEqProofs (maxSteps:=1000000) (disch:=first | omega | (simp only [LN];omega)) only [go_sem])
   )
   all_goals try omega
   obtain ⟨⟨c,J2⟩,hJ⟩:=gq
   have hJ3:Inv B J2 100:=hJ.le (show 0+m.length≤100 by omega)
   cases c
   all_goals
    simp -dsimp -implicitDefEqProofs (maxSteps:=1000000) (disch:=first | omega | (simp only [LN];omega)) only [go_sem]
    refine ⟨J2,hJ3,?_⟩
    refine wk_auto ?_
    simp -dsimp -implicitDefEqProofs (maxSteps:=1000000) (disch:=first | omega | (simp only [LN];omega)) only [go_sem]
  intro J2 hJ2 Z9 lb9 a9 w9 e89 hs9 f5
  have x89:EXB w7.heap.size w8 w9:=exb_ext e89 s78 hl8
  have s89:=x89.size
  have hl9:∀ (i:Nat) b,lb9[i]? = some (some (some b))→w7.heap.size≤b:=fun i b h=>by
   rcases e89.fresh i b h with ⟨j,h⟩ | h
   ·exact hl8 j b h
   ·omega
  have z9:∀ b,Z9 b→b<w9.heap.size:=hs9.own.zlt.lt
  have z9up:∀ b,b<Nf→Z9 b:=fun b hb=>e89.z1 b (.inl (z8up b hb))
  have x19:EXB w1.heap.size w1 w9:=x18.trans (x89.le (by omega))
  have x29:EXB w2.heap.size w2 w9:=x28.trans (x89.le (by omega))
  have t5:=f5.trans t5
  clear t0 t6 t10 t15 t16 r15 r16 u15 u16
  obtain ⟨t0,_⟩:=tm_raw hs9 (d:=0) (v:=u0) rfl
  obtain ⟨t6,_⟩:=tm_raw hs9 (d:=6) (v:=.string (bs (txL m))) rfl
  obtain ⟨t10,_⟩:=tm_raw hs9 (d:=10) (v:=u10) rfl
  obtain ⟨u15,t15,r15⟩:=hs9.tm 15 (.loc 0 0) rfl
  obtain ⟨u16,t16,r16⟩:=hs9.tm 16 (.loc 26 0) rfl
  -- what is not the first list's
  have hz1r:∀ b,Z1 b→Z9 b∧¬ RB g5 gs5 b:=fun b hb=>⟨z9up b (by rw [hNf];exact z1 b hb),fun h=>by have:=B5lo b h;have:=z1 b hb;omega⟩
  have hown9:=own_less (Zn:=fun b=>Z9 b∧¬ RB g5 gs5 b) hs9.own (fun o ho=>by
   have h1:=fl_dev B J2 o
   have h2:=fl_ref A hA
   simp only [dvL,someL,List.cons_append,List.nil_append,List.mem_cons,List.not_mem_nil,or_false,Option.some.injEq] at ho h1
   rcases ho with h | h | h | h | h | h | h | h | h | h | h | h | h | h | h | h | h | h | h | h | h | h | h | h | h | h | rfl | rfl
   all_goals first
    | exact h2.1
    | exact h2.2
    | exact h1 (by simp only [h,true_or,or_true])) (fun b h=>h.1) (Glob.mono hz1r (x19.keep z1) g1)
  have hb9:St (fun b=>Z9 b∧¬ RB g5 gs5 b) lb9 ⟨135,[],someL (dvL B J2)++[some (rdO A M0 27),some (rlO A)]⟩ a9 w9:=⟨hown9,fun d x h=>by simp [tget] at h,hs9.df,hs9.sz⟩
  refine w_piece (G:=MT) (fun M2=>⟨135,[(15,some (.loc 0 0)),(16,some (.loc 26 0)),(5,some (.p (.v g5))),(6,some (.p (.v (.string (bs (txL m)))))),(10,some (.p (.v u10)))],someL (dvL B J2)++[some (rdO B M2 27),some (rlO B)]⟩) (fun M2=>RInv B M2 100) (Z:=fun b=>Z9 b∧¬ RB g5 gs5 b) (lb:=lb9) (s:=⟨135,[(0,some (.p (.view 8 (m.map rE)))),(15,some (.loc 0 0)),(16,some (.loc 26 0)),(5,some (.p (.v g5))),(6,some (.p (.v (.string (bs (txL m)))))),(10,some (.p (.v u10)))],someL (dvL B J2)++[some (rdO A M0 27),some (rlO A)]⟩) ?_ ?_ ?_
  ·exact st_add (st_add (st_add (st_add (st_add (st_add hb9 t10 (raw_rep o10)) t6 (raw_rep rfl)) t5 (raw_rep o5)) t16 (by simpa only [ARep] using r16)) t15 (by simpa only [ARep] using r15)) t0 (by simp only [ARep];exact Rep.mono hz1r (x19.keep z1) _ _ r0)
  ·repeat' (first
    | (with_reducible first | refine zY ?_ | refine zT ?_ | refine zM ?_ | refine zN ?_ | refine zO ?_ | refine qK ?_ | (show False;omega))
    | ((with_reducible first | refine zP ?_ ?_ | refine zQ ?_ ?_ | refine zR ?_ ?_ | refine zL ?_ ?_)<;>intro h<;>try (exfalso;first | omega | exact h rfl | (revert h;decide) | (cases h;done)))
    | ((with_reducible first | refine r_gr0 [19] ?_ | refine r_gr1 [19] ?_ | refine r_gr2 [19] ?_ | refine r_gr3 [19] ?_ | refine r_gr4 [19] ?_ | refine r_gr5 [19] ?_ | refine r_gr6 [19] ?_ | refine r_gr7 [19] ?_ | refine r_gr8 [19] ?_ | refine r_gr9 [19] ?_ | refine r_gr10 [19] ?_);simp -dsimp -implicitDefEqProofs (maxSteps:=1000000) (disch:=first | omega | (simp only [LN];omega)) only [go_sem])
    | ((first | (with_reducible first | refine zW ?_ | refine zV ?_ | refine zU ?_ | refine zS ?_ | refine zX ?_ | show VX _ _ _ _ _ _ _ | show vstep _ _ _ _ _ | show vskip _ _ _ | show withV _ _ | apply qN | apply qR | refine zB default ?_ | refine zC default ?_ | refine qI ?_) | ((with_reducible apply zK);(first | exact kr);intro gq) | ((with_reducible show pickE _ _ _);refine qA _ ?_));try simp -dsimp -implicitDefEqProofs (maxSteps:=1000000) (disch:=first | omega | (simp only [LN];omega)) only [go_sem])
   )
   all_goals try omega
   obtain ⟨⟨c,M2⟩,hM⟩:=gq
   have hM3:RInv B M2 100:=hM.le (show 0+m.length≤100 by omega)
   cases c
   all_goals
    simp -dsimp -implicitDefEqProofs (maxSteps:=1000000) (disch:=first | omega | (simp only [LN];omega)) only [go_sem]
    refine ⟨M2,hM3,?_⟩
    refine wk_auto ?_
    simp -dsimp -implicitDefEqProofs (maxSteps:=1000000) (disch:=first | omega | (simp only [LN];omega)) only [go_sem]
  intro M2 hM2 Z10 lb10 a10 w10 e910 hs10
  have x910:EXB w7.heap.size w9 w10:=exb_ext e910 (by omega) hl9
  have s910:=x910.size
  have hl10:∀ (i:Nat) b,lb10[i]? = some (some (some b))→w7.heap.size≤b:=fun i b h=>by
   rcases e910.fresh i b h with ⟨j,h⟩ | h
   ·exact hl9 j b h
   ·omega
  have z10:∀ b,Z10 b→b<w10.heap.size:=hs10.own.zlt.lt
  have z10n:∀ b,Z10 b→¬ RB g5 gs5 b:=fun b hb hr=>by
   have h1:=B5hi b hr
   rcases e910.z2 b hb (by omega) with h | ⟨i,h⟩
   ·exact h.2 hr
   ·have:=hl9 i b h;omega
  have x210:EXB w2.heap.size w2 w10:=x29.trans (x910.le (by omega))
  clear t0 t5 t6 t10 t15 t16 r15 r16 u15 u16
  obtain ⟨t5,_⟩:=tm_raw hs10 (d:=5) (v:=g5) rfl
  obtain ⟨t6,_⟩:=tm_raw hs10 (d:=6) (v:=.string (bs (txL m))) rfl
  obtain ⟨t10,_⟩:=tm_raw hs10 (d:=10) (v:=u10) rfl
  obtain ⟨u15,t15,r15⟩:=hs10.tm 15 (.loc 0 0) rfl
  obtain ⟨u16,t16,r16⟩:=hs10.tm 16 (.loc 26 0) rfl
  have o15:oneB u15=true:=by simp only [ARep] at r15;obtain ⟨b,_,rfl⟩:=r15;rfl
  have o16:oneB u16=true:=by simp only [ARep] at r16;obtain ⟨b,_,rfl⟩:=r16;rfl
  have d10:=hs10.df
  have n10:a10.tmps.size=135:=hs10.sz
  have own10:=hs10.own
  clear hs9 hb9 hown9 hs10 e89 hm8 hs8 k8 kr
  -- the second loop
  refine wp_seq ?_
  refine kL2 rfl (Z:=RB g5 gs5) (w0:=w10) (gs:=gs5) (u:=g5) (.string (bs (txL m))) u10 u15 u16 ?_ a10 w10 ?_ ?_
  ·intro gs2 a11 w11 hs11 hl11
   show Code.wp _ _ _ a11 w11
   have hT:(a11.tmps[6]? = some (.string (bs (txL m)))∧a11.tmps[10]? = some u10∧a11.tmps[15]? = some u15∧a11.tmps[16]? = some u16)∧a11.defers=[]∧a11.tmps.size=135:=by
    letI:Glob:=glT
    exact ⟨⟨(tm_raw hs11 (d:=6) (v:=.string (bs (txL m))) rfl).1,(tm_raw hs11 (d:=10) (v:=u10) rfl).1,(tm_raw hs11 (d:=15) (v:=u15) rfl).1,(tm_raw hs11 (d:=16) (v:=u16) rfl).1⟩,hs11.df,hs11.sz⟩
   clear t5 t6 t10 t15 t16
   obtain ⟨⟨t6,t10,t15,t16⟩,d11,n11⟩:=hT
   have x1011:EXB Nf w10 w11:=exb_li hl11 (by omega) B5lo
   have s1011:=x1011.size
   have k1011:Keep Z10 w10 w11:=fun b hb=>hl11.hp b (z10 b hb) (z10n b hb)
   have own11:=own_turn own10 k1011 hl11.size hl11.bs hl11.os hl11.tape (OutD.quick hl11.out) (fun i b hb hlt=>hl11.hp b hlt (fun hr=>by have:=hl10 i b hb;have:=B5hi b hr;omega))
   have k611:Keep Z6 w6 w11:=fun b hb=>by
    have h1:=z6 b hb
    have hn:¬ RB g5 gs5 b:=fun hr=>by have h2:=B5lo b hr;have h3:=B5hi b hr;rcases z6lo b hb with h | h<;>omega
    exact (hl11.hp b (by omega) hn).trans ((x910.hp b (by omega)).trans ((x89.hp b (by omega)).trans ((x78.hp b (by omega)).trans (k67 b hb))))
   have hb11:St Z10 lb10 ⟨135,[],someL (dvL B J2)++[some (rdO B M2 27),some (rlO B)]⟩ a11 w11:=⟨own11,fun d x h=>by simp [tget] at h,d11,n11⟩
   have hm11:=st_more hb11 (Zn:=fun b=>Z10 b∨Z6 b) (fun _ h=>.inl h) (fun b hb=>by
    rcases hb with h | h
    ·exact ⟨by have:=z10 b h;omega,.inl h⟩
    ·exact ⟨by have:=z6 b h;omega,.inr fun i hi=>by have:=hl10 i b hi;have:=z6 b h;omega⟩)
   have kt:=sTextL (m.filter fun x=>okE x) (by omega) (fun x hx=>F1 x (hmf x hx).1)
   rw [txL_filter] at kt
   have kS:=bSame3 B J2 M2 100 hJ2 (by omega) hM2
   have h6:=hJ2.wf.n6
   have h0n:=hJ2.wf.n0
   have ki:=rIs B M2 h6 0 (by omega)
   have hw:B.isW 0=true:=by unfold Dv.isW;simp;omega
   rw [hw] at ki
   refine w_piece (G:=Unit) (fun _=>⟨135,[(4,some (.p (.v (.bool true))))],[]⟩) (fun _=>True) (Z:=fun b=>Z10 b∨Z6 b) (lb:=lb10) (s:=⟨135,[(10,some (.p (.view 8 ((m.filter fun x=>okE x).map eE)))),(15,some (.loc 0 0)),(16,some (.loc 26 0)),(6,some (.p (.v (.string (bs (txL m))))))],someL (dvL B J2)++[some (rdO B M2 27),some (rlO B)]⟩) ?_ ?_ ?_
   ·exact st_add (st_add (st_add (st_add hm11 t6 (raw_rep rfl)) t16 (by simpa only [ARep] using r16)) t15 (by simpa only [ARep] using r15)) t10 (by simp only [ARep];exact Rep.mono (fun b hb=>.inr hb) k611 _ _ r10)
   ·repeat' (first
     | (with_reducible first | refine zY ?_ | refine zT ?_ | refine zM ?_ | refine zN ?_ | refine zO ?_ | refine qK ?_ | (show False;omega))
     | ((with_reducible first | refine zP ?_ ?_ | refine zQ ?_ ?_ | refine zR ?_ ?_ | refine zL ?_ ?_)<;>intro h<;>try (exfalso;first | omega | exact h rfl | (revert h;decide) | (cases h;done)))
     | ((first | (with_reducible first | refine zW ?_ | refine zV ?_ | refine zU ?_ | refine zS ?_ | refine zX ?_ | show VX _ _ _ _ _ _ _ | show vstep _ _ _ _ _ | show vskip _ _ _ | show withV _ _ | apply qN | apply qR | refine zB default ?_ | refine zC default ?_ | refine qI ?_) | ((with_reducible apply zD);(exact kt)) | ((with_reducible apply zE);(exact kt);rfl) | ((with_reducible apply zF);(exact kt)) | (with_reducible first | apply zG | apply zH | apply zI) | ((with_reducible apply zJ);(first | exact kS | exact ki)) | ((with_reducible show pickE _ _ _);refine qA _ ?_));try simp -dsimp -implicitDefEqProofs (maxSteps:=1000000) (disch:=first | omega | (simp only [LN];omega)) only [go_sem])
    )
    all_goals first | omega | contradiction | skip
    refine ⟨(),?_⟩
    refine wk_auto ?_
    simp -dsimp -implicitDefEqProofs (maxSteps:=1000000) (disch:=first | omega | (simp only [LN];omega)) only [go_sem]
   intro _ _ Z12 lb12 a12 w12 e1112 hs12
   have x1112:EXB w0.heap.size w11 w12:=exb_ext e1112 (by omega) (fun i b h=>by have:=hl10 i b h;omega)
   refine wp_ret (hfin a12 w12 ?_ (tm_raw hs12 (d:=4) (v:=.bool true) rfl).1 hs12.df hs12.sz)
   exact (((((x01.trans (x17.le (by omega))).trans (x78.le (by omega))).trans (x89.le (by omega))).trans (x910.le (by omega))).trans (x1011.le (by omega))).trans x1112
  ·letI:Glob:=glT
   exact st_add (st_add (st_add (st_add (st_add (st_nil ⟨fun b hb=>by have:=B5hi b hb;omega,trivial⟩ d10 n10) t16 (raw_rep o16)) t15 (raw_rep o15)) t10 (raw_rep o10)) t6 (raw_rep rfl)) t5 (raw_rep o5)
  ·obtain ⟨l5,h1,h2⟩:=tv5
   exact ⟨⟨l5,h1,Rep.mono (fun _ h=>h) (x210.keep B5hi) _ _ h2⟩,fun b hb=>by have:=B5hi b hb;omega,rfl,rfl,rfl,Nat.le_refl _,fun _ _=>rfl,fun _ _ _=>rfl⟩
 ·letI:Glob:=glT
  exact st_add (st_add (st_add (st_add (st_add (st_add (st_nil ⟨fun b hb=>Nat.lt_of_lt_of_le (B7hi b hb) s46,trivial⟩ d6 n6) t10 (raw_rep o10)) t6 (raw_rep rfl)) t5 (raw_rep o5)) t1 (raw_rep rfl)) t0 (raw_rep o0)) t7 (raw_rep o7)
 ·obtain ⟨l7,h1,h2⟩:=tv7
  exact ⟨⟨l7,h1,Rep.mono (fun _ h=>h) (x46.keep B7hi) _ _ h2⟩,fun b hb=>Nat.lt_of_lt_of_le (B7hi b hb) s46,rfl,rfl,rfl,Nat.le_refl _,fun _ _=>rfl,fun _ _ _=>rfl⟩
end Go.Proofs.YtckhjklcfagkoaaGreatDoor
