/- Contracts of functions of this program, and the plain facts that they rest on. No conditions. -/
import Derived.Test.YtckhjklcfagkoaaGreatDoorJDvAQ
import Derived.Test.YtckhjklcfagkoaaGreatDoorAc4
import Derived.Test.YtckhjklcfagkoaaGreatDoorJBldQ
set_option linter.unusedSectionVars false
set_option linter.unusedSimpArgs false
set_option linter.unusedVariables false
namespace Go.Proofs.YtckhjklcfagkoaaGreatDoor
open Go Go.Ab
attribute [local irreducible] callK callF loopQ vstep vskip pickE hideP
open Go.RowKit
set_option maxRecDepth 100000
def vB (b:UInt8):Value:=.int .u8 (b.toNat:Int)
theorem reps_B {Z:Nat→Prop} {w:World}:∀ {bs:List UInt8} {vs:List Value},Reps Z w (bs.map eB) vs→vs=bs.map vB
 | [],vs,h=>by simpa [Reps] using h
 | b::bs,vs,h=>by
  simp only [List.map_cons,Reps] at h
  obtain ⟨u,us,rfl,h1,h2⟩:=h
  simp only [eB,Rep] at h1
  rw [h1.1,reps_B h2];rfl
theorem B_reps {Z:Nat→Prop} {w:World}:∀ (bs:List UInt8),Reps Z w (bs.map eB) (bs.map vB)
 | []=>rfl
 | b::bs=>⟨_,_,rfl,⟨rfl,rfl⟩,B_reps bs⟩
theorem reps_map {α:Type} {Z:Nat→Prop} {w:World} {f:α→PV} {g:α→Value}:∀ (ks:List α),(∀ k,k∈ks→Rep Z w (f k) (g k))→Reps Z w (ks.map f) (ks.map g)
 | [],_=>rfl
 | k::ks,h=>⟨_,_,rfl,h k (by simp),reps_map ks fun x hx=>h x (by simp [hx])⟩
def H8 (w w':World):Prop:=∀ b o x,w.cell? ⟨b,o,none⟩=some (.int .u8 x)→w'.cell? ⟨b,o,none⟩=some (.int .u8 x)∨∃ y:UInt8,w'.cell? ⟨b,o,none⟩=some (vB y)
theorem bytes_st {Z:Nat→Prop} {w w':World} {bs:List UInt8} {u:Value} (h:Rep Z w (.view 1 (bs.map eB)) u) (h8:H8 w w'):∃ bs':List UInt8,bs'.length=bs.length∧Rep Z w' (.view 1 (bs'.map eB)) u:=by
 simp only [Rep] at h
 obtain ⟨vs,base,cap,h1,rfl,_,h3,h4,h5⟩:=h
 have hv:=reps_B h1
 subst hv
 rw [List.length_map] at h4 h5 ⊢
 have fit:∀ bs:List UInt8,∀ x,x∈bs.map vB→Fit 1 x:=by
  intro bs x hx
  obtain ⟨b,_,rfl⟩:=List.mem_map.1 hx
  exact ⟨rfl,fun y hy=>by simp [vcells,vB,Value.cells] at hy;subst hy;rfl⟩
 have mk:∀ bs':List UInt8,bs'.length=bs.length→SliceAt Z w' 1 (bs'.map vB) base bs.length cap→∃ bs'':List UInt8,bs''.length=bs.length∧Rep Z w' (.view 1 (bs''.map eB)) (.slice base bs.length cap):=by
  intro bs' hl hs
  refine ⟨bs',hl,?_⟩
  simp only [Rep]
  exact ⟨bs'.map vB,base,cap,B_reps bs',by rw [List.length_map,hl],by decide,fit bs',by rw [List.length_map,hl];exact h4,by rw [List.length_map,hl];exact hs⟩
 cases base with
 | none=>exact mk bs rfl h5
 | some a =>
  obtain ⟨h6,h7 | ⟨h7,h8z,h9⟩⟩:=h5
  ·exact mk bs rfl ⟨h6,.inl h7⟩
  ·have hk:∀ k,∃ y:UInt8,k<bs.length→w'.cell? ⟨a.block,a.off+k*1+0,none⟩=some (vB y):=by
    intro k
    by_cases hk:k<bs.length
    ·have:=h9 k (vB bs[k]) (by simp [hk]) 0 (vB bs[k]) (by simp [vcells,vB,Value.cells])
     rcases h8 _ _ _ this with hy | ⟨y,hy⟩
     ·exact ⟨bs[k],fun _=>hy⟩
     ·exact ⟨y,fun _=>hy⟩
    ·exact ⟨0,fun h=>absurd h hk⟩
   obtain ⟨yf,hyf⟩:∃ yf:Nat→UInt8,∀ k,k<bs.length→w'.cell? ⟨a.block,a.off+k*1+0,none⟩=some (vB (yf k)):=⟨fun k=>Classical.choose (hk k),fun k=>Classical.choose_spec (hk k)⟩
   refine mk ((List.range bs.length).map yf) (by simp) ⟨h6,.inr ⟨h7,h8z,fun k u hu i c hc=>?_⟩⟩
   simp only [List.map_map,List.getElem?_map] at hu
   by_cases hkl:k<bs.length
   ·rw [List.getElem?_range hkl] at hu
    simp only [Option.map_some,Option.some.injEq,Function.comp] at hu
    subst hu
    have:=hyf k hkl
    cases i with
    | zero=>simp [vcells,vB,Value.cells] at hc;subst hc;exact this
    | succ i=>simp [vcells,vB,Value.cells] at hc
   ·rw [List.getElem?_eq_none (by simpa using hkl)] at hu;simp at hu
def eR (x:Ev) (g:Value):PV:=.agg [.v (.int .u8 x.k),.v (.int .i64 x.th),.v (.int .u64 x.o),.v (.int .u64 x.v),.v (.int .u64 x.w),.v (.int .i64 x.ln),.v (.int .i64 x.n),.rv g (.view 1 (x.ch.map eB))]
def pE (p:Ev × Value):PV:=eR p.1 p.2
def zc:List Value:=[.int .i64 0,.int .u64 0,.int .u64 0,.int .u64 0,.int .i64 0,.int .i64 0,.slice none 0 0]
def HU (Z:Nat→Prop) (w w':World):Prop:=∀ b,Z b→∀ arr ty fr,w.heap[b]? = some (.cells arr ty fr)→Unfrozen fr arr.size→∃ arr' ty' fr',w'.heap[b]? = some (.cells arr' ty' fr')∧Unfrozen fr' arr'.size
theorem wrb_st {Z:Nat→Prop} {w w':World} {g:Value} (h:Wrb Z w g) (hu:HU Z w w'):Wrb Z w' g:=fun a n cap e=>(h a n cap e).imp id fun ⟨h1,arr,ty,fr,h2,h3⟩=>⟨h1,hu _ h1 arr ty fr h2 h3⟩
theorem ev_st {Z:Nat→Prop} {w w':World} {x:Ev} {g v:Value} {b o:Nat} (h:Rep Z w (eR x g) v) (ha:At w b o (vcells v)) (h8:H8 w w') (hu:HU Z w w') :
  ((∀ j c,1≤j→j<8→w.cell? ⟨b,o+j,none⟩=some c→w'.cell? ⟨b,o+j,none⟩=some c)→∃ x' v',Rep Z w' (eR x' g) v'∧At w' b o (vcells v')∧Fit 8 v') ∧
  ((∀ j c,zc[j]? = some c→w'.cell? ⟨b,o+(j+1),none⟩=some c)→∃ x' v',Rep Z w' (eR x' (.slice none 0 0)) v'∧At w' b o (vcells v')∧Fit 8 v'):=by
 unfold eR at h
 simp only [Rep,Reps] at h
 obtain ⟨vs,⟨u0,_,rfl,⟨rfl,_⟩,u1,_,rfl,⟨rfl,_⟩,u2,_,rfl,⟨rfl,_⟩,u3,_,rfl,⟨rfl,_⟩,u4,_,rfl,⟨rfl,_⟩,u5,_,rfl,⟨rfl,_⟩,u6,_,rfl,⟨rfl,_⟩,u7,_,rfl,⟨rfl,hg1,h7,hwr⟩,rfl⟩,rfl,hone⟩:=h
 have ha':At w b o [.int .u8 x.k,.int .i64 x.th,.int .u64 x.o,.int .u64 x.v,.int .u64 x.w,.int .i64 x.ln,.int .i64 x.n,u7]:=by simpa [vcells,Value.cells] using ha
 obtain ⟨y,hy⟩:∃ y:Int,w'.cell? ⟨b,o+0,none⟩=some (.int .u8 y):=by
  rcases h8 b o x.k (ha' 0 _ rfl) with hy | ⟨y,hy⟩
  ·exact ⟨_,hy⟩
  ·exact ⟨_,hy⟩
 constructor
 ·intro hc
  have h7':Rep Z w (.view 1 (x.ch.map eB)) u7:=by simp only [Rep];exact h7
  obtain ⟨ch',_,hr⟩:=bytes_st h7' h8
  refine ⟨{ x with k:=y,ch:=ch' },.agg #[.int .u8 y,.int .i64 x.th,.int .u64 x.o,.int .u64 x.v,.int .u64 x.w,.int .i64 x.ln,.int .i64 x.n,u7],?_,?_,?_⟩
  ·unfold eR
   simp only [Rep] at hr
   simp only [Rep,Reps]
   refine ⟨_,⟨_,_,rfl,⟨rfl,rfl⟩,_,_,rfl,⟨rfl,rfl⟩,_,_,rfl,⟨rfl,rfl⟩,_,_,rfl,⟨rfl,rfl⟩,_,_,rfl,⟨rfl,rfl⟩,_,_,rfl,⟨rfl,rfl⟩,_,_,rfl,⟨rfl,rfl⟩,u7,_,rfl,⟨rfl,hg1,hr,wrb_st hwr hu⟩,rfl⟩,rfl,?_⟩
   intro c hc
   simp only [List.mem_cons,List.not_mem_nil,or_false] at hc
   rcases hc with rfl | rfl | rfl | rfl | rfl | rfl | rfl | rfl<;>first | rfl | exact hone _ (by simp)
  ·intro i c hi
   have hi:[.int .u8 y,.int .i64 x.th,.int .u64 x.o,.int .u64 x.v,.int .u64 x.w,.int .i64 x.ln,.int .i64 x.n,u7][i]? = some c:=by simpa [vcells,Value.cells] using hi
   cases i with
   | zero=>simp at hi;subst hi;exact hy
   | succ i =>
    have hi8:i+1<8:=by
     rcases Nat.lt_or_ge (i+1) 8 with h | h
     ·exact h
     ·rw [List.getElem?_eq_none (by simpa using h)] at hi;simp at hi
    refine hc (i+1) c (by omega) hi8 (ha' (i+1) c ?_)
    simpa using hi
  ·refine ⟨by simp [vcells,Value.cells],?_⟩
   intro c hc
   simp only [vcells,Value.cells,List.mem_cons,List.not_mem_nil,or_false] at hc
   rcases hc with rfl | rfl | rfl | rfl | rfl | rfl | rfl | rfl<;>first | rfl | exact hone _ (by simp)
 ·intro hc
  refine ⟨⟨y,0,0,0,0,0,0,[]⟩,.agg #[.int .u8 y,.int .i64 0,.int .u64 0,.int .u64 0,.int .u64 0,.int .i64 0,.int .i64 0,.slice none 0 0],?_,?_,?_⟩
  ·unfold eR
   simp only [Rep,Reps,List.map_nil]
   refine ⟨_,⟨_,_,rfl,⟨rfl,rfl⟩,_,_,rfl,⟨rfl,rfl⟩,_,_,rfl,⟨rfl,rfl⟩,_,_,rfl,⟨rfl,rfl⟩,_,_,rfl,⟨rfl,rfl⟩,_,_,rfl,⟨rfl,rfl⟩,_,_,rfl,⟨rfl,rfl⟩,_,_,rfl,⟨rfl,rfl,⟨[],none,0,rfl,rfl,by decide,by simp,by simp,rfl,rfl⟩,fun a n cap e=>by cases e⟩,rfl⟩,rfl,?_⟩
   intro c hc
   simp only [List.mem_cons,List.not_mem_nil,or_false] at hc
   rcases hc with rfl | rfl | rfl | rfl | rfl | rfl | rfl | rfl<;>rfl
  ·intro i c hi
   have hi:(Value.int .u8 y::zc)[i]? = some c:=by simpa [vcells,Value.cells,zc] using hi
   cases i with
   | zero=>simp at hi;subst hi;exact hy
   | succ i=>exact hc i c (by simpa using hi)
  ·refine ⟨by simp [vcells,Value.cells],?_⟩
   intro c hc
   simp only [vcells,Value.cells,List.mem_cons,List.not_mem_nil,or_false] at hc
   rcases hc with rfl | rfl | rfl | rfl | rfl | rfl | rfl | rfl<;>rfl
def TV (Z:Nat→Prop) (w:World) (gs:List Value) (u:Value):Prop:=∃ l:List Ev,l.length=gs.length∧Rep Z w (.rv u (.view 8 ((l.zip gs).map pE))) u
theorem zip_range {l:List Ev} {gs:List Value} (h:l.length=gs.length) {k:Nat} (hk:k<gs.length):(l.zip gs)[k]? = some (l.getD k default,gs.getD k (.slice none 0 0)):=by
 rw [List.getElem?_eq_getElem (by simp;omega)]
 simp [List.getD_eq_getElem?_getD,hk,show k<l.length by omega]
theorem tv_st {Z:Nat→Prop} {w w':World} {gs gs':List Value} {u:Value} (h:TV Z w gs u) (h8:H8 w w') (hu:HU Z w w') (hgs:gs'.length=gs.length)
  (hc:∀ a m cap,u=.slice (some a) m cap→∀ k,k<gs.length→((∀ j c,1≤j→j<8→w.cell? ⟨a.block,a.off+k*8+j,none⟩=some c→w'.cell? ⟨a.block,a.off+k*8+j,none⟩=some c)∧gs'.getD k (.slice none 0 0)=gs.getD k (.slice none 0 0)) ∨
   ((∀ j c,zc[j]? = some c→w'.cell? ⟨a.block,a.off+k*8+(j+1),none⟩=some c)∧gs'.getD k (.slice none 0 0)=.slice none 0 0)):TV Z w' gs' u:=by
 obtain ⟨l,hlg,h⟩:=h
 simp only [Rep] at h
 obtain ⟨_,hone,⟨vs,base,cap,h1,rfl,_,h3,h4,h5⟩,hwr⟩:=h
 have hl:=h1.length
 rw [List.length_map,List.length_zip,hlg,Nat.min_self] at hl
 have e0:∀ (l':List Ev),l'.length=gs.length→(l'.zip gs').map pE=(List.range gs.length).map fun k=>eR (l'.getD k default) (gs'.getD k (.slice none 0 0)):=by
  intro l' hl'
  apply List.ext_getElem? 
  intro k
  by_cases hk:k<gs.length
  ·rw [List.getElem?_map,zip_range (hl'.trans hgs.symm) (by omega),List.getElem?_map,List.getElem?_range hk];rfl
  ·rw [List.getElem?_eq_none (by simp;omega),List.getElem?_eq_none (by simp;omega)]
 have hwr':=wrb_st hwr hu
 cases base with
 | none =>
  have h0:gs.length=0:=hl.symm.trans h5.1
  refine ⟨[],by simp;omega,?_⟩
  rw [e0 [] (by simp;omega),h0]
  obtain rfl:vs=[]:=List.length_eq_zero_iff.1 (by omega)
  simp only [Rep]
  exact ⟨trivial,hone,⟨[],none,cap,rfl,rfl,by decide,by simp,by simp,h5⟩,hwr'⟩
 | some a =>
  obtain ⟨h6,h7⟩:=h5
  rcases Nat.eq_zero_or_pos gs.length with h0 | hpos
  ·refine ⟨[],by simp;omega,?_⟩
   rw [e0 [] (by simp;omega),h0]
   obtain rfl:vs=[]:=List.length_eq_zero_iff.1 (by omega)
   simp only [Rep]
   exact ⟨trivial,hone,⟨[],some a,cap,rfl,rfl,by decide,by simp,by simp,h6,.inl rfl⟩,hwr'⟩
  ·rcases h7 with h7 | ⟨h7,h8z,h9⟩
   ·omega
   ·have hk:∀ k,∃ p:Ev × Value,k<gs.length→Rep Z w' (eR p.1 (gs'.getD k (.slice none 0 0))) p.2∧At w' a.block (a.off+k*8) (vcells p.2)∧Fit 8 p.2:=by
     intro k
     by_cases hk:k<gs.length
     ·obtain ⟨v,g1,g2⟩:=h1.get k (pE (l.getD k default,gs.getD k (.slice none 0 0))) (by rw [List.getElem?_map,zip_range hlg hk];rfl)
      have:=ev_st g2 (h9 k v g1) h8 hu
      rcases hc a _ _ rfl k hk with ⟨c1,c2⟩ | ⟨c1,c2⟩
      ·obtain ⟨x',v',g3,g4,g5⟩:=this.1 c1
       exact ⟨(x',v'),fun _=>⟨by rw [c2];exact g3,g4,g5⟩⟩
      ·obtain ⟨x',v',g3,g4,g5⟩:=this.2 c1
       exact ⟨(x',v'),fun _=>⟨by rw [c2];exact g3,g4,g5⟩⟩
     ·exact ⟨(default,.slice none 0 0),fun h=>absurd h hk⟩
    obtain ⟨p,hp⟩:∃ p:Nat→Ev × Value,∀ k,k<gs.length→Rep Z w' (eR (p k).1 (gs'.getD k (.slice none 0 0))) (p k).2∧At w' a.block (a.off+k*8) (vcells (p k).2)∧Fit 8 (p k).2:=⟨fun k=>Classical.choose (hk k),fun k=>Classical.choose_spec (hk k)⟩
    refine ⟨(List.range gs.length).map fun k=>(p k).1,by simp;omega,?_⟩
    rw [e0 _ (by simp)]
    simp only [Rep]
    refine ⟨by simp [hl],hone,⟨(List.range gs.length).map fun k=>(p k).2,some a,cap,?_,by simp [hl],by decide,?_,by simp;omega,?_⟩,hwr'⟩
    ·refine reps_map _ fun k hk=>?_
     have hk:=List.mem_range.1 hk
     have:((List.range gs.length).map fun k=>(p k).1).getD k default=(p k).1:=by
      rw [List.getD_eq_getElem?_getD,List.getElem?_map,List.getElem?_range hk];rfl
     rw [this]
     exact (hp k hk).1
    ·intro x hx
     obtain ⟨k,hk,rfl⟩:=List.mem_map.1 hx
     exact (hp k (List.mem_range.1 hk)).2.2
    ·refine ⟨by simp;omega,.inr ⟨h7,h8z,fun k u hu=>?_⟩⟩
     rw [List.getElem?_map] at hu
     by_cases hkl:k<gs.length
     ·rw [List.getElem?_range hkl] at hu
      simp only [Option.map_some,Option.some.injEq] at hu
      subst hu
      exact (hp k hkl).2.1
     ·rw [List.getElem?_eq_none (by simpa using hkl)] at hu;simp at hu
end Go.Proofs.YtckhjklcfagkoaaGreatDoor
namespace Go.Proofs.YtckhjklcfagkoaaGreatDoor
set_option maxHeartbeats 4000000
set_option maxRecDepth 100000
open Go Go.Ab
attribute [local irreducible] callK callF loopQ vstep vskip pickE hideP
open Go.RowKit
attribute [local go_sem] rE
def eO (x:Ev):AV:=.agg [.p (.v (.int .u8 x.k)),.p (.v (.int .i64 x.th)),.p (.v (.int .u64 x.o)),.p (.v (.int .u64 x.v)),.p (.v (.int .u64 x.w)),.p (.v (.int .i64 x.ln)),.p (.v (.int .i64 x.n)),.sl 0 1 0 x.ch.length]
theorem eO_rv {x:Ev} {Z:Nat→Prop} {lb:Lb} {w:World} {u:Value} (h:ARep Z lb w (eO x) u):∃ g,ARep Z lb w (.sl 0 1 0 x.ch.length) g∧∀ Zn:Nat→Prop,(∀ b,Z b→Zn b)→Rep Zn w (.rv g (.view 1 (x.ch.map eB))) g→Rep Zn w (eR x g) u:=by
 unfold eO at h
 simp only [ARep,AReps] at h
 obtain ⟨vs,⟨u0,_,rfl,h0,u1,_,rfl,h1,u2,_,rfl,h2,u3,_,rfl,h3,u4,_,rfl,h4,u5,_,rfl,h5,u6,_,rfl,h6,u7,_,rfl,h7,rfl⟩,rfl,hone⟩:=h
 refine ⟨u7,by simpa only [ARep] using h7,fun Zn hz hr=>?_⟩
 unfold eR
 simp only [Rep,Reps] at h0 h1 h2 h3 h4 h5 h6 hr ⊢
 exact ⟨_,⟨u0,_,rfl,h0,u1,_,rfl,h1,u2,_,rfl,h2,u3,_,rfl,h3,u4,_,rfl,h4,u5,_,rfl,h5,u6,_,rfl,h6,u7,_,rfl,⟨rfl,hr.2⟩,rfl⟩,rfl,hone⟩
theorem eE_rv0 {x:Ev} (hc:x.ch=[]) {Z:Nat→Prop} {w:World} {u:Value} (h:Rep Z w (eE x) u):∃ g,(∀ N,Nb N g)∧Rep Z w (eR x g) u:=by
 unfold eE at h
 rw [hc] at h
 simp only [Rep,Reps,List.map_nil] at h
 obtain ⟨vs,⟨u0,_,rfl,h0,u1,_,rfl,h1,u2,_,rfl,h2,u3,_,rfl,h3,u4,_,rfl,h4,u5,_,rfl,h5,u6,_,rfl,h6,u7,_,rfl,⟨vs7,base,cap,rfl,rfl,h7⟩,rfl⟩,rfl,hone⟩:=h
 refine ⟨.slice base 0 cap,fun N a n c e=>by cases e;exact .inl rfl,?_⟩
 unfold eR
 rw [hc]
 simp only [Rep,Reps,List.map_nil]
 exact ⟨_,⟨u0,_,rfl,h0,u1,_,rfl,h1,u2,_,rfl,h2,u3,_,rfl,h3,u4,_,rfl,h4,u5,_,rfl,h5,u6,_,rfl,h6,.slice base 0 cap,_,rfl,⟨rfl,rfl,⟨[],base,cap,rfl,rfl,h7⟩,fun a n c e=>by cases e;exact .inl rfl⟩,rfl⟩,rfl,hone⟩
class NN where
 n0:Nat
variable [NN]
noncomputable local instance (priority:=high) gN:Glob where
 G:=fun Z w=>NN.n0=0∨Z (NN.n0 - 1)
 mono:=fun hz _ h=>h.imp id (hz _)
 tab:=[]
 bld:=130
 ok:=fun _ h=>by simp [gfind] at h
theorem slotsN (g:Nat):@Glob.slots gN g=1:=rfl
theorem bldN:(@Glob.bld gN:TypeId)=130:=rfl
attribute [local go_sem] slotsN bldN
theorem nn_le:∀ Z w,ZOk Z w→NN.n0≤w.heap.size:=fun Z w h=>by
 rcases h.gl with h0 | h0
 ·omega
 ·have:=h.lt _ h0;omega
theorem kOwnA (x:Ev) (hk:0≤x.k∧x.k≤255) (hc:x.ch.length≤1000000) (h0:¬ x.ch.length=0):ACalls Tryz.prog 12 [.p (rE x)] [] (eO x) [.arr 1 (x.ch.map eB)]:=by
 refine yA (E:=E) (fn:=Tryz.f12) 23 [.cell 2 41] rfl rfl rfl rfl (by decide) rfl rfl ?_
 have e1:IntKind.u8.wrap x.k=x.k:=by rw [wr8];omega
 unfold eO
 repeat' (first
  | (with_reducible first | apply zY | apply zT | apply zM | apply zN | apply zO | refine qK ?_ | (show False;omega))
  | ((with_reducible first | apply zP | apply zQ | apply zR | apply zL)<;>intro h<;>try (exfalso;first | omega | exact h rfl | (revert h;decide) | (cases h;done)))
  | ((first | (with_reducible first | apply zW | apply zV | apply zU | apply zS | apply zX | show VX _ _ _ _ _ _ _ | show vstep _ _ _ _ _ | show vskip _ _ _ | show withV _ _ | apply qN | apply qR | refine zB default ?_ (by first | omega | (simp only [LN,e1];omega)) (by first | omega | (simp only [LN,e1];omega)) | refine zC default ?_ (by first | omega | (simp only [LN,e1];omega)) | refine qI ?_ (by first | decide | omega | assumption | (simp only [LN,e1];omega))) | ((with_reducible show pickE _ _ _);refine qA _ ?_));try simp -dsimp -implicitDefEqProofs (maxSteps:=1000000) (disch:=first | omega | (simp only [LN,e1];omega)) only [go_sem,e1])
 )
 all_goals first | omega | (simp;done)
section
attribute [local go_sem] eE
theorem kOwn0 (x:Ev) (hk:0≤x.k∧x.k≤255) (hc:x.ch.length≤1000000):PCalls Tryz.prog 12 [rE x] (eE x):=by
 refine yB (E:=E) (fn:=Tryz.f12) 23 [.cell 2 41] rfl rfl rfl rfl (by decide) rfl ?_
 have e1:IntKind.u8.wrap x.k=x.k:=by rw [wr8];omega
 repeat' (first
  | (with_reducible first | apply zY | apply zT | apply zM | apply zN | apply zO | refine qK ?_ | (show False;omega))
  | ((with_reducible first | apply zP | apply zQ | apply zR | apply zL)<;>intro h<;>try (exfalso;first | omega | exact h rfl | (revert h;decide) | (cases h;done)))
  | ((first | (with_reducible first | apply zW | apply zV | apply zU | apply zS | apply zX | show VX _ _ _ _ _ _ _ | show vstep _ _ _ _ _ | show vskip _ _ _ | show withV _ _ | apply qN | apply qR | refine zB default ?_ (by first | omega | (simp only [LN,e1];omega)) (by first | omega | (simp only [LN,e1];omega)) | refine zC default ?_ (by first | omega | (simp only [LN,e1];omega)) | refine qI ?_ (by first | decide | omega | assumption | (simp only [LN,e1];omega))) | ((with_reducible show pickE _ _ _);refine qA _ ?_));try simp -dsimp -implicitDefEqProofs (maxSteps:=1000000) (disch:=first | omega | (simp only [LN,e1];omega)) only [go_sem,e1])
 )
 all_goals first | omega | (simp;done)
end
theorem kOwnG (x:Ev) (hk:0≤x.k∧x.k≤255) (hc:x.ch.length≤1000000):ACallsX Tryz.prog 12 [.p (rE x)] [] (fun g:{ g:Value // Nb NN.n0 g }=>.p (eR x g.1)) (fun _=>[]):=by
 by_cases h0:x.ch.length=0
 ·exact acx_nil NN.n0 (kOwn0 x hk hc) fun Z w u h=>by
   obtain ⟨g,k1,k2⟩:=eE_rv0 (List.length_eq_zero_iff.1 h0) h
   exact ⟨g,k1 _,k2⟩
 ·have h:=acx_own (r':=fun _ g=>eR x g) NN.n0 nn_le (kOwnA x hk hc h0).x (fun _=>(List.length_map ..).symm) (fun _ Z lb w u h=>eO_rv h)
  exact h.to (fun _=>Nat.le_refl _) fun g=>⟨⟨g.1.2,g.2⟩,rfl,rfl⟩
abbrev OwnG (l:List Ev):={ ps:List (Ev × Value) // ps.map Prod.fst=l∧∀ p,p∈ps→Nb NN.n0 p.2 }
theorem fst_take {ps:List (Ev × Value)} {l:List Ev} {i:Nat} (h:ps.map Prod.fst=l.take i) (hl:i<l.length) (g:Value):(ps++[(l.getD i default,g)]).map Prod.fst=l.take (i+1):=by
 rw [List.map_append,h,yE default hl];rfl
attribute [local go_sem] eR pE
theorem kOwnL (l:List Ev) (hn:l.length≤1000) (hk:∀ x,x∈l→(0≤x.k∧x.k≤255)∧x.ch.length≤1000000):ACallsX Tryz.prog 17 [.p (.view 8 (l.map rE))] [] (fun g:OwnG l=>.sl 0 8 0 l.length) (fun g:OwnG l=>[.arr 8 (g.1.map pE)]):=by
 refine yC (E:=E) (fn:=Tryz.f17) 19 [.tmp 2] rfl rfl rfl rfl (by decide) rfl (fun _=>rfl) ?_
 repeat' (first
  | (with_reducible first | apply zY | apply zT | apply zM | apply zN | apply zO | refine qK ?_ | (show False;omega))
  | ((with_reducible first | apply zP | apply zQ | apply zR | apply zL)<;>intro h<;>try (exfalso;first | omega | exact h rfl | (revert h;decide) | (cases h;done)))
  | ((first | (with_reducible first | apply zW | apply zV | apply zU | apply zS | apply zX | show VX _ _ _ _ _ _ _ | show vstep _ _ _ _ _ | show vskip _ _ _ | show withV _ _ | apply qN | apply qR | refine zB default ?_ | refine zC default ?_ | refine qI ?_) | ((with_reducible show pickE _ _ _);refine qA _ ?_));try simp -dsimp -implicitDefEqProofs (maxSteps:=1000000) (disch:=first | omega | (simp only [LN];omega)) only [go_sem])
 )
 refine r_loopA (α:=Nat × List (Ev × Value)) [6,7] (fun y b=>[(3,.sl b 8 0 y.1),(8,aI y.1)]) (fun y b=>[]) (fun y=>[.arr 8 (y.2.map pE)]) (fun y=>(y.2.map Prod.fst=l.take y.1∧y.1≤l.length)∧∀ p,p∈y.2→Nb NN.n0 p.2) (fun y=>l.length - y.1) ((0,[])) ?h0_1 ?hs0_1 ?I_1 ?hI_1 ?round_1
 case hI_1=>intro x;(simp -dsimp -implicitDefEqProofs (maxSteps:=1000000) (disch:=first | omega | (simp only [LN];omega)) only [go_sem])<;>exact rfl
 case hs0_1=>refine wk_auto ?_;(simp -dsimp -implicitDefEqProofs (maxSteps:=1000000) (disch:=first | omega | (simp only [LN,List.map_nil];omega)) only [go_sem,List.map_nil])<;>(try omega)
 case h0_1=>exact ⟨⟨rfl,Nat.zero_le _⟩,fun p h=>absurd h List.not_mem_nil⟩
 case round_1 =>
  rintro ⟨i,y⟩ ⟨⟨h1,h2⟩,hy⟩
  simp only at h1 h2 hy
  have hyl:y.length=i:=by
   have:=congrArg List.length h1
   rw [List.length_map,List.length_take] at this;omega
  by_cases h3:i<l.length
  ·obtain ⟨g1,g2⟩:=hk _ (getD_in h3)
   have kp:=kOwnG (l.getD i default) g1 g2
   have ht:=fst_take h1 h3
   generalize hxx:l.getD i default=x at *
   repeat' (first
    | (with_reducible first | apply zY | apply zT | apply zM | apply zN | apply zO | refine qK ?_ | (show False;omega))
    | ((with_reducible first | apply zP | apply zQ | apply zR | apply zL)<;>intro h<;>try (exfalso;first | omega | exact h rfl | (revert h;decide) | (cases h;done)))
    | ((with_reducible first | refine r_gr0 [13] ?_ | refine r_gr1 [13] ?_ | refine r_gr2 [13] ?_ | refine r_gr3 [13] ?_ | refine r_gr4 [13] ?_ | refine r_gr5 [13] ?_ | refine r_gr6 [13] ?_ | refine r_gr7 [13] ?_ | refine r_gr8 [13] ?_ | refine r_gr9 [13] ?_ | refine r_gr10 [13] ?_);simp -dsimp -implicitDefEqProofs (maxSteps:=1000000) (disch:=first | omega | (simp only [LN,hxx];omega)) only [go_sem,hxx])
    | ((first | (with_reducible first | apply zW | apply zV | apply zU | apply zS | apply zX | show VX _ _ _ _ _ _ _ | show vstep _ _ _ _ _ | show vskip _ _ _ | show withV _ _ | apply qN | apply qR | refine zB default ?_ (by first | omega | (simp only [LN,hxx];omega)) (by first | omega | (simp only [LN,hxx];omega)) | refine zC default ?_ (by first | omega | (simp only [LN,hxx];omega)) | refine qI ?_ (by first | decide | omega | assumption | (simp only [LN,hxx];omega))) | ((with_reducible apply zK);(first | exact kp);intro gq) | ((with_reducible show pickE _ _ _);refine qA _ ?_));try simp -dsimp -implicitDefEqProofs (maxSteps:=1000000) (disch:=first | omega | (simp only [LN,hxx];omega)) only [go_sem,hxx])
   )
   all_goals first | omega | ((refine zZ ((i+1,y++[(x,gq.1)])) ?_ ?_ ?_;(exact ⟨⟨ht _,by show i+1≤_;omega⟩,fun p hp=>(List.mem_append.1 hp).elim (hy p) fun hp=>by rw [List.mem_singleton.1 hp];exact gq.2⟩);(show _<_;omega);(simp -dsimp -implicitDefEqProofs (maxSteps:=1000000) (disch:=first | omega | (simp only [LN,List.map_append,List.map_cons,List.map_nil,pE,hyl,List.length_map];omega)) only [go_sem,List.map_append,List.map_cons,List.map_nil,pE,hyl,List.length_map];try trivial)))
  ·obtain rfl:i=l.length:=by omega
   repeat' (first
    | (with_reducible first | apply zY | apply zT | apply zM | apply zN | apply zO | refine qK ?_ | (show False;omega))
    | ((with_reducible first | apply zP | apply zQ | apply zR | apply zL)<;>intro h<;>try (exfalso;first | omega | exact h rfl | (revert h;decide) | (cases h;done)))
    | ((first | (with_reducible first | apply zW | apply zV | apply zU | apply zS | apply zX | show VX _ _ _ _ _ _ _ | show vstep _ _ _ _ _ | show vskip _ _ _ | show withV _ _ | apply qN | apply qR | refine zB default ?_ (by first | omega | (simp only [LN,hyl];omega)) (by first | omega | (simp only [LN,hyl];omega)) | refine zC default ?_ (by first | omega | (simp only [LN,hyl];omega)) | refine qI ?_ (by first | decide | omega | assumption | (simp only [LN,hyl];omega))) | ((with_reducible show pickE _ _ _);refine qA _ ?_));try simp -dsimp -implicitDefEqProofs (maxSteps:=1000000) (disch:=first | omega | (simp only [LN,hyl];omega)) only [go_sem,hyl])
   )
   all_goals first | omega | ((refine endX_i (⟨y,by rw [h1,List.take_length],hy⟩) ?_;simp -implicitDefEqProofs only [endA];(simp -dsimp -implicitDefEqProofs (maxSteps:=1000000) (disch:=first | omega | (simp only [LN,hyl];omega)) only [go_sem,hyl];try trivial)))
theorem kOwnR (l:List Ev) (hn:l.length≤1000) (hk:∀ x,x∈l→(0≤x.k∧x.k≤255)∧x.ch.length≤1000000):ACallsX Tryz.prog 17 [.p (.view 8 (l.map rE))] [] (fun g:{ p:OwnG l × Value // Nb NN.n0 p.2 }=>.p (.rv g.1.2 (.view 8 (g.1.1.1.map pE)))) (fun _=>[]) :=
 acx_own (r':=fun q g=>.rv g (.view 8 (q.1.map pE))) NN.n0 nn_le (kOwnL l hn hk) (fun g=>by
  have:=congrArg List.length g.2.1
  rw [List.length_map] at this ⊢;exact this.symm) (fun q Z lb w u h=>⟨u,h,fun Zn hz hr=>hr⟩)
end Go.Proofs.YtckhjklcfagkoaaGreatDoor
