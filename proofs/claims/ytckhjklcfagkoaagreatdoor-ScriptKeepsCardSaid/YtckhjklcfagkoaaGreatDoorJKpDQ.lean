/- Contracts of functions of this program, and the plain facts that they rest on. No conditions. -/
import Derived.Test.YtckhjklcfagkoaaGreatDoorJKpPQ
set_option linter.unusedSimpArgs false
set_option warn.classDefReducibility false
set_option linter.unusedVariables false
set_option linter.unusedSectionVars false
namespace Go.Proofs.YtckhjklcfagkoaaGreatDoor
open Go Go.Ab
attribute [local irreducible] callK callF loopQ vstep vskip pickE hideP
open Go.RowKit
set_option maxRecDepth 100000
section
variable [Glob]
theorem st_nil {Z:Nat→Prop} {n:Nat} {a:Act} {w:World} (hz:ZOk Z w) (hd:a.defers=[]) (hn:a.tmps.size=n):St Z [] ⟨n,[],[]⟩ a w :=
 ⟨⟨rfl,by simp,by simp,by simp,hz⟩,fun d x h=>by simp [tget] at h,hd,hn⟩
theorem st_base {Z:Nat→Prop} {lb:Lb} {s:ASt} {a:Act} {w:World} (h:St Z lb s a w):St Z lb ⟨s.n,[],s.L⟩ a w :=
 ⟨h.own,fun d x h=>by simp [tget] at h,h.df,h.sz⟩
theorem st_add {Z:Nat→Prop} {lb:Lb} {n:Nat} {t:List (Nat × Option AV)} {L:List (Option Ob)} {a:Act} {w:World} {d:Nat} {x:AV} {u:Value} (h:St Z lb ⟨n,t,L⟩ a w) (hu:a.tmps[d]? = some u) (hr:ARep Z lb w x u):St Z lb ⟨n,(d,some x)::t,L⟩ a w:=by
 refine ⟨h.own,fun e y hy=>?_,h.df,h.sz⟩
 simp only [tget] at hy
 split at hy
 ·rename_i hb
  have:=Nat.eq_of_beq_eq_true hb
  subst this
  simp only [Option.some.injEq] at hy
  subst hy
  exact ⟨u,hu,hr⟩
 ·exact h.tm e y hy
theorem raw_rep {Z:Nat→Prop} {lb:Lb} {w:World} {v:Value} (h:oneB v=true):ARep Z lb w (.p (.v v)) v:=by simp only [ARep,Rep];exact ⟨trivial,h⟩
theorem tm_raw {Z:Nat→Prop} {lb:Lb} {s:ASt} {a:Act} {w:World} (h:St Z lb s a w) {d:Nat} {v:Value} (hd:tget s.t d=some (.p (.v v))):a.tmps[d]? = some v∧oneB v=true:=by
 obtain ⟨u,h1,h2⟩:=h.tm d _ hd
 simp only [ARep,Rep] at h2
 obtain ⟨rfl,h2⟩:=h2
 exact ⟨h1,h2⟩
theorem tm_p {Z:Nat→Prop} {lb:Lb} {s:ASt} {a:Act} {w:World} (h:St Z lb s a w) {d:Nat} {x:PV} (hd:tget s.t d=some (.p x)):∃ u,a.tmps[d]? = some u∧Rep Z w x u:=by
 obtain ⟨u,h1,h2⟩:=h.tm d _ hd
 exact ⟨u,h1,by simpa only [ARep] using h2⟩
theorem view_one {Z:Nat→Prop} {w:World} {sz:Nat} {es:List PV} {u:Value} (h:Rep Z w (.view sz es) u):oneB u=true:=by
 simp only [Rep] at h
 obtain ⟨vs,base,cap,_,rfl,_⟩:=h;rfl
theorem st_more {Z:Nat→Prop} {lb:Lb} {s:ASt} {a:Act} {w:World} (h:St Z lb s a w) {Zn:Nat→Prop} (hz:∀ b,Z b→Zn b) (hn:∀ b,Zn b→b<w.heap.size∧(Z b∨∀ i:Nat,lb[i]?≠some (some (some b)))):St Zn lb s a w:=by
 have hlbn:∀ (i:Nat) b,lb[i]? = some (some (some b))→¬ Z b→¬ Zn b:=fun i b hb hz2 hzn=>by
  rcases (hn b hzn).2 with h | h
  ·exact hz2 h
  ·exact h i hb
 have own2:Own Zn lb s.L w:=by
  refine ⟨h.own.len,fun i o hi=>?_,h.own.hole,h.own.inj,⟨fun b hb=>(hn b hb).1,Glob.mono hz (fun _ _=>rfl) h.own.zlt.gl⟩⟩
  obtain ⟨x,h1,h2⟩:=h.own.obj i o hi
  refine ⟨x,h1,?_⟩
  have key:∀ b,x=some b→¬ Z b→¬ Zn b:=fun b hb=>by subst hb;exact hlbn i b h1
  cases o with
  | dead=>trivial
  | var cs =>
   cases x with
   | none=>exact h2
   | some b =>
    obtain ⟨g1,g2,vs,ty,fr,g3,g4⟩:=h2
    exact ⟨key b rfl g1,g2,vs,ty,fr,AReps.mono hz (fun _ _=>rfl) (fun _ _ h=>h) (fun _ _=>rfl) _ _ g3,g4⟩
  | pvar m cs =>
   cases x with
   | none=>exact h2
   | some b =>
    obtain ⟨g1,g2,vs,arr,ty,fr,g3,g4⟩:=h2
    exact ⟨key b rfl g1,g2,vs,arr,ty,fr,AReps.mono hz (fun _ _=>rfl) (fun _ _ h=>h) (fun _ _=>rfl) _ _ g3,g4⟩
  | arr sz es =>
   cases x with
   | none=>exact h2
   | some b =>
    obtain ⟨g1,g2,vs,arr,ty,fr,g3,g4⟩:=h2
    exact ⟨key b rfl g1,g2,vs,arr,ty,fr,Reps.mono hz (fun _ _=>rfl) _ _ g3,g4⟩
  | bld T q =>
   cases x with
   | none=>exact h2
   | some b =>
    obtain ⟨g1,g2,p,v,g3,g4,g5,g6⟩:=h2
    exact ⟨key b rfl g1,g2,p,v,g3,g4,ARep.mono hz (fun _ _=>rfl) (fun _ _ h=>h) (fun _ _=>rfl) _ _ g5,g6⟩
  | byt e bs =>
   cases x with
   | none=>exact h2
   | some b=>exact ⟨key b rfl h2.1,h2.2⟩
  | mp kk ek =>
   cases x with
   | none=>exact h2
   | some b=>exact ⟨key b rfl h2.1,h2.2⟩
  | mpx kk es cl =>
   cases x with
   | none=>exact h2
   | some b=>exact ⟨key b rfl h2.1,h2.2⟩
  | it q a1 a2 a3 =>
   cases x with
   | none=>exact h2
   | some b =>
    obtain ⟨g1,g2,mo,g3,g4⟩:=h2
    exact ⟨key b rfl g1,g2,mo,ARep.mono hz (fun _ _=>rfl) (fun _ _ h=>h) (fun _ _=>rfl) _ _ g3,g4⟩
 exact ⟨own2,fun d x hx=>by
  obtain ⟨u,h1,h2⟩:=h.tm d x hx
  exact ⟨u,h1,ARep.mono hz (fun _ _=>rfl) (fun _ _ h=>h) (fun _ _=>rfl) _ _ h2⟩,h.df,h.sz⟩
def flA:AV→Prop
 | .p x=>scal x=true
 | .loc _ _=>True
 | .sl _ _ _ _=>True
 | .mref _=>True
 | _=>False
def flO:Ob→Prop
 | .dead=>True
 | .var cs=>∀ x,x∈cs→flA x
 | .pvar _ cs=>∀ x,x∈cs→flA x
 | .arr _ es=>∀ x,x∈es→scal x=true
 | .mp _ _=>True
 | _=>False
theorem flA_rep {Z Zn:Nat→Prop} {lb:Lb} {w:World}:∀ {x:AV} {u:Value},flA x→ARep Z lb w x u→ARep Zn lb w x u
 | .p x,u,h,hr=>by simp only [ARep] at hr ⊢;exact scal_rep x u h hr
 | .loc _ _,u,_,hr=>by simpa only [ARep] using hr
 | .sl _ _ _ _,u,_,hr=>by simpa only [ARep] using hr
 | .mref _,u,_,hr=>by simpa only [ARep] using hr
theorem flA_reps {Z Zn:Nat→Prop} {lb:Lb} {w:World}:∀ {xs:List AV} {us:List Value},(∀ x,x∈xs→flA x)→AReps Z lb w xs us→AReps Zn lb w xs us
 | [],us,_,hr=>by simpa only [AReps] using hr
 | x::xs,us,h,hr=>by
  simp only [AReps] at hr ⊢
  obtain ⟨u,us',rfl,h1,h2⟩:=hr
  exact ⟨u,us',rfl,flA_rep (h x (by simp)) h1,flA_reps (fun y hy=>h y (by simp [hy])) h2⟩
theorem scal_reps {Z Zn:Nat→Prop} {w:World}:∀ {xs:List PV} {us:List Value},(∀ x,x∈xs→scal x=true)→Reps Z w xs us→Reps Zn w xs us
 | [],us,_,hr=>by simpa only [Reps] using hr
 | x::xs,us,h,hr=>by
  simp only [Reps] at hr ⊢
  obtain ⟨u,us',rfl,h1,h2⟩:=hr
  exact ⟨u,us',rfl,scal_rep x u (h x (by simp)) h1,scal_reps (fun y hy=>h y (by simp [hy])) h2⟩
theorem own_less {Z Zn:Nat→Prop} {lb:Lb} {L:List (Option Ob)} {w:World} (h:Own Z lb L w) (hf:∀ o,some o∈L→flO o) (hz:∀ b,Zn b→Z b) (hg:Glob.G Zn w):Own Zn lb L w:=by
 refine ⟨h.len,fun i o hi=>?_,h.hole,h.inj,⟨fun b hb=>h.zlt.lt b (hz b hb),hg⟩⟩
 obtain ⟨x,h1,h2⟩:=h.obj i o hi
 have hfo:=hf o (List.mem_of_getElem? hi)
 refine ⟨x,h1,?_⟩
 cases o with
 | dead=>trivial
 | var cs =>
  cases x with
  | none=>exact h2
  | some b =>
   obtain ⟨g1,g2,vs,ty,fr,g3,g4⟩:=h2
   exact ⟨fun hh=>g1 (hz b hh),g2,vs,ty,fr,flA_reps hfo g3,g4⟩
 | pvar m cs =>
  cases x with
  | none=>exact h2
  | some b =>
   obtain ⟨g1,g2,vs,arr,ty,fr,g3,g4⟩:=h2
   exact ⟨fun hh=>g1 (hz b hh),g2,vs,arr,ty,fr,flA_reps hfo g3,g4⟩
 | arr sz es =>
  cases x with
  | none=>exact h2
  | some b =>
   obtain ⟨g1,g2,vs,arr,ty,fr,g3,g4⟩:=h2
   exact ⟨fun hh=>g1 (hz b hh),g2,vs,arr,ty,fr,scal_reps hfo g3,g4⟩
 | mp kk ek =>
  cases x with
  | none=>exact h2
  | some b=>exact ⟨fun hh=>h2.1 (hz b hh),h2.2⟩
 | _=>exact hfo.elim
theorem own_turn {Z:Nat→Prop} {lb:Lb} {L:List (Option Ob)} {w w':World} (h:Own Z lb L w) (hk:Keep Z w w') (hs:w.heap.size≤w'.heap.size) (hb:BsLe w w') (hos:w'.os=w.os) (htp:w'.tape=w.tape) (hout:OutD w w') (hl:∀ (i:Nat) b,lb[i]? = some (some (some b))→b<w.heap.size→w'.heap[b]? = w.heap[b]?):Own Z lb L w':=by
 refine ⟨h.len,fun i o hi=>?_,h.hole,h.inj,⟨fun b hb=>Nat.lt_of_lt_of_le (h.zlt.lt b hb) hs,Glob.mono (fun _ h=>h) hk h.zlt.gl⟩⟩
 obtain ⟨x,h1,h2⟩:=h.obj i o hi
 refine ⟨x,h1,?_⟩
 have key:∀ b,o.live→x=some b→w'.heap[b]? = w.heap[b]?∧¬ Z b:=fun b hl2 hx=>by
  subst hx
  obtain ⟨g1,g2⟩:=h2.block hl2
  exact ⟨hl i b h1 g2,g1⟩
 have ar:∀ {x u},ARep Z lb w x u→ARep Z lb w' x u:=fun h=>ARep.mono (fun _ h=>h) hk (fun _ _ h=>h) hb _ _ h
 have ars:∀ {x u},AReps Z lb w x u→AReps Z lb w' x u:=fun h=>AReps.mono (fun _ h=>h) hk (fun _ _ h=>h) hb _ _ h
 cases o with
 | dead=>trivial
 | var cs =>
  cases x with
  | none=>exact h2
  | some b =>
   obtain ⟨g1,g2,vs,ty,fr,g3,g4,g5,g6⟩:=h2
   exact ⟨g1,Nat.lt_of_lt_of_le g2 hs,vs,ty,fr,ars g3,g4,(key b trivial rfl).1.trans g5,g6⟩
 | pvar m cs =>
  cases x with
  | none=>exact h2
  | some b =>
   obtain ⟨g1,g2,vs,arr,ty,fr,g3,g4,g5,g6⟩:=h2
   exact ⟨g1,Nat.lt_of_lt_of_le g2 hs,vs,arr,ty,fr,ars g3,g4,(key b trivial rfl).1.trans g5,g6⟩
 | arr sz es =>
  cases x with
  | none=>exact h2
  | some b =>
   obtain ⟨g1,g2,vs,arr,ty,fr,g3,g4,g5,g6,g7⟩:=h2
   exact ⟨g1,Nat.lt_of_lt_of_le g2 hs,vs,arr,ty,fr,Reps.mono (fun _ h=>h) hk _ _ g3,g4,g5,(key b trivial rfl).1.trans g6,g7⟩
 | bld T q =>
  cases x with
  | none=>exact h2
  | some b =>
   obtain ⟨g1,g2,p,v,g3,g4,g5,g6⟩:=h2
   refine ⟨g1,Nat.lt_of_lt_of_le g2 hs,p,v,(key b trivial rfl).1.trans g3,g4,ar g5,fun a n cap e=>?_⟩
   obtain ⟨k1,k2,k3⟩:=g6 a n cap e
   exact ⟨k1,Nat.lt_of_lt_of_le k2 hs,(hb _ k2).trans k3⟩
 | byt e bs =>
  cases x with
  | none=>exact h2
  | some b =>
   obtain ⟨g1,g2,cur,fz,g3,g4⟩:=h2
   exact ⟨g1,Nat.lt_of_lt_of_le g2 hs,cur,fz,(key b trivial rfl).1.trans g3,g4⟩
 | mp kk ek =>
  cases x with
  | none=>exact h2
  | some b =>
   obtain ⟨g1,g2,es,cl,g3,g4⟩:=h2
   exact ⟨g1,Nat.lt_of_lt_of_le g2 hs,es,cl,(key b trivial rfl).1.trans g3,g4⟩
 | mpx kk es cl =>
  cases x with
  | none=>exact h2
  | some b=>exact ⟨h2.1,Nat.lt_of_lt_of_le h2.2.1 hs,(key b trivial rfl).1.trans h2.2.2⟩
 | it q a1 a2 a3 =>
  cases x with
  | none=>exact h2
  | some b =>
   obtain ⟨g1,g2,mo,g3,g4⟩:=h2
   exact ⟨g1,Nat.lt_of_lt_of_le g2 hs,mo,ar g3,(key b trivial rfl).1.trans g4⟩
end
def RB (u:Value) (gs:List Value):Nat→Prop:=fun b=>∃ v,v∈u::gs∧∃ a n cap,v=.slice (some a) n cap∧n≠0∧b=a.block
theorem view_in {Z Zn:Nat→Prop} {w:World} {bs:List UInt8} {g:Value} (h:Rep Z w (.rv g (.view 1 (bs.map eB))) g) (hz:∀ a n cap,g=.slice (some a) n cap→n≠0→Zn a.block):Rep Zn w (.rv g (.view 1 (bs.map eB))) g:=by
 simp only [Rep] at h ⊢
 obtain ⟨h0,h1,⟨vs,base,cap,k1,k2,k3,k4,k5,k6⟩,h3⟩:=h
 refine ⟨h0,h1,⟨vs,base,cap,by rw [reps_B k1];exact B_reps bs,k2,k3,k4,k5,?_⟩,fun a n c e=>?_⟩
 ·cases base with
  | none=>exact k6
  | some a =>
   refine ⟨k6.1,?_⟩
   rcases k6.2 with h | ⟨g1,g2,g3⟩
   ·exact .inl h
   ·by_cases h0:vs.length=0
    ·exact .inl h0
    ·exact .inr ⟨g1,hz a _ _ k2 h0,g3⟩
 ·by_cases h0:n=0
  ·exact .inl h0
  ·rcases h3 a n c e with h | ⟨g1,g2⟩
   ·exact .inl h
   ·exact .inr ⟨hz a n c e h0,g2⟩
theorem tv_of {Z:Nat→Prop} {w:World} {ps:List (Ev × Value)} {g:Value} (h:Rep Z w (.rv g (.view 8 (ps.map pE))) g):TV (RB g (ps.map Prod.snd)) w (ps.map Prod.snd) g∧∀ b,RB g (ps.map Prod.snd) b→Z b:=by
 have e0:∀ ps:List (Ev × Value),(ps.map Prod.fst).zip (ps.map Prod.snd)=ps:=by
  intro ps
  induction ps with
  | nil=>rfl
  | cons p ps ih=>rw [List.map_cons,List.map_cons,List.zip_cons_cons,ih]
 simp only [Rep] at h
 obtain ⟨h0,h1,⟨vs,base,cap,k1,k2,k3,k4,k5,k6⟩,h3⟩:=h
 have el:∀ {ps:List (Ev × Value)} {vs:List Value},Reps Z w (ps.map pE) vs→(∀ p,p∈ps→∀ a n cap,p.2=.slice (some a) n cap→n≠0→RB g (ps.map Prod.snd) a.block→True)→∀ (B:Nat→Prop),(∀ p,p∈ps→∀ a n cap,p.2=.slice (some a) n cap→n≠0→B a.block)→Reps B w (ps.map pE) vs∧∀ p,p∈ps→∀ a n cap,p.2=.slice (some a) n cap→n≠0→Z a.block:=by
  intro ps
  induction ps with
  | nil=>intro vs h _ B _;exact ⟨by simpa only [List.map_nil,Reps] using h,fun p hp=>absurd hp List.not_mem_nil⟩
  | cons p ps ih =>
   intro vs h _ B hB
   simp only [List.map_cons,Reps] at h ⊢
   obtain ⟨u,us,rfl,g1,g2⟩:=h
   obtain ⟨i1,i2⟩:=ih g2 (fun _ _ _ _ _ _ _ _=>trivial) B (fun q hq=>hB q (by simp [hq]))
   unfold pE eR at g1
   simp only [Rep,Reps] at g1
   obtain ⟨ws,⟨u0,_,rfl,q0,u1,_,rfl,q1,u2,_,rfl,q2,u3,_,rfl,q3,u4,_,rfl,q4,u5,_,rfl,q5,u6,_,rfl,q6,u7,_,rfl,⟨rfl,q7,q8,q9⟩,rfl⟩,rfl,hone⟩:=g1
   have hv:Rep Z w (.rv p.2 (.view 1 (p.1.ch.map eB))) p.2:=by simp only [Rep];exact ⟨trivial,q7,q8,q9⟩
   have hv2:=view_in (Zn:=B) hv (hB p (by simp))
   simp only [Rep] at hv2
   refine ⟨⟨_,us,rfl,?_,i1⟩,fun q hq a n c e hn=>?_⟩
   ·unfold pE eR
    simp only [Rep,Reps]
    exact ⟨_,⟨u0,_,rfl,q0,u1,_,rfl,q1,u2,_,rfl,q2,u3,_,rfl,q3,u4,_,rfl,q4,u5,_,rfl,q5,u6,_,rfl,q6,_,_,rfl,⟨rfl,hv2.2⟩,rfl⟩,rfl,hone⟩
   ·rcases List.mem_cons.1 hq with rfl | hq
    ·rcases q9 a n c e with h | h
     ·exact absurd h hn
     ·exact h.1
    ·exact i2 q hq a n c e hn
 obtain ⟨e1,e2⟩:=el k1 (fun _ _ _ _ _ _ _ _=>trivial) (RB g (ps.map Prod.snd)) (fun p hp a n cap e hn=>⟨p.2,by simp;exact .inr ⟨p.1,hp⟩,a,n,cap,e,hn,rfl⟩)
 have hg:∀ a n cap,g=.slice (some a) n cap→n≠0→Z a.block:=fun a n c e hn=>by
  rcases h3 a n c e with h | h
  ·exact absurd h hn
  ·exact h.1
 refine ⟨⟨ps.map Prod.fst,by simp,?_⟩,?_⟩
 ·rw [e0]
  simp only [Rep]
  refine ⟨trivial,h1,⟨vs,base,cap,e1,k2,k3,k4,k5,?_⟩,fun a n c e=>?_⟩
  ·cases base with
   | none=>exact k6
   | some a =>
    refine ⟨k6.1,?_⟩
    rcases k6.2 with h | ⟨g1,g2,g3⟩
    ·exact .inl h
    ·by_cases h0:vs.length=0
     ·exact .inl h0
     ·exact .inr ⟨g1,⟨g,by simp,a,_,_,k2,h0,rfl⟩,g3⟩
  ·by_cases h0:n=0
   ·exact .inl h0
   ·rcases h3 a n c e with h | ⟨g1,g2⟩
    ·exact .inl h
    ·exact .inr ⟨⟨g,by simp,a,n,c,e,h0,rfl⟩,g2⟩
 ·rintro b ⟨v,hv,a,n,cap,e,hn,rfl⟩
  rcases List.mem_cons.1 hv with rfl | hv
  ·exact hg a n cap e hn
  ·obtain ⟨p,hp,rfl⟩:=List.mem_map.1 hv
   exact e2 p hp a n cap e hn
theorem rb_ge {N:Nat} {u:Value} {gs:List Value} (hu:Nb N u) (hg:∀ g,g∈gs→Nb N g) {b:Nat} (h:RB u gs b):N≤b:=by
 obtain ⟨v,hv,a,n,cap,e,hn,rfl⟩:=h
 rcases List.mem_cons.1 hv with rfl | hv
 ·exact (hu a n cap e).resolve_left hn
 ·exact (hg v hv a n cap e).resolve_left hn
end Go.Proofs.YtckhjklcfagkoaaGreatDoor
namespace Go.Proofs.YtckhjklcfagkoaaGreatDoor
open Go Go.Ab
attribute [local irreducible] callK callF loopQ vstep vskip pickE hideP
open Go.RowKit
set_option maxRecDepth 100000
noncomputable local instance (priority:=2000) glT2:Glob:=glT
theorem tv_len {Z:Nat→Prop} {w:World} {gs:List Value} {u:Value} {l:List Ev} (h0:l.length=gs.length) (h:Rep Z w (.rv u (.view 8 ((l.zip gs).map pE))) u) {i:Nat} (hi:i<gs.length):∃ base cap,gs.getD i (.slice none 0 0)=.slice base (l.getD i default).ch.length cap∧(l.getD i default).ch.length≤140737488355328:=by
 simp only [Rep] at h
 obtain ⟨_,_,⟨vs,base,cap,h1,_⟩,_⟩:=h
 obtain ⟨v,g1,g2⟩:=h1.get i (pE (l.getD i default,gs.getD i (.slice none 0 0))) (by rw [List.getElem?_map,zip_range h0 hi];rfl)
 unfold pE eR at g2
 simp only [Rep,Reps] at g2
 obtain ⟨vs2,⟨u0,_,rfl,⟨rfl,_⟩,u1,_,rfl,⟨rfl,_⟩,u2,_,rfl,⟨rfl,_⟩,u3,_,rfl,⟨rfl,_⟩,u4,_,rfl,⟨rfl,_⟩,u5,_,rfl,⟨rfl,_⟩,u6,_,rfl,⟨rfl,_⟩,u7,_,rfl,⟨e7,hg1,⟨vs7,base7,cap7,k1,k2,_,_,kb,_⟩,kwr⟩,rfl⟩,rfl,hone2⟩:=g2
 have kl:=k1.length
 rw [List.length_map] at kl
 refine ⟨base7,cap7,?_,by unfold big at kb;omega⟩
 rw [← e7,k2,kl]
theorem tv_view {Z:Nat→Prop} {w:World} {gs:List Value} {u:Value} {l:List Ev} (h0:l.length=gs.length) (h:Rep Z w (.rv u (.view 8 ((l.zip gs).map pE))) u):Rep Z w (.view 8 (l.map eE)) u:=by
 simp only [Rep] at h ⊢
 obtain ⟨_,_,⟨vs,base,cap,h1,h2,h3⟩,_⟩:=h
 refine ⟨vs,base,cap,?_,h2,h3⟩
 have key:∀ {l:List Ev} {gs vs:List Value},l.length=gs.length→Reps Z w ((l.zip gs).map pE) vs→Reps Z w (l.map eE) vs:=by
  intro l
  induction l with
  | nil=>intro gs vs _ h;simpa using h
  | cons x l ih =>
   intro gs vs hl h
   cases gs with
   | nil=>cases hl
   | cons g gs =>
    simp only [List.zip_cons_cons,List.map_cons,Reps] at h ⊢
    obtain ⟨u,us,rfl,k1,k2⟩:=h
    refine ⟨u,us,rfl,?_,ih (by simpa using hl) k2⟩
    unfold pE eR at k1
    unfold eE
    simp only [Rep,Reps] at k1 ⊢
    obtain ⟨vs2,⟨u0,_,rfl,q0,u1,_,rfl,q1,u2,_,rfl,q2,u3,_,rfl,q3,u4,_,rfl,q4,u5,_,rfl,q5,u6,_,rfl,q6,u7,_,rfl,⟨rfl,_,q7,_⟩,rfl⟩,rfl,hone2⟩:=k1
    exact ⟨_,⟨u0,_,rfl,q0,u1,_,rfl,q1,u2,_,rfl,q2,u3,_,rfl,q3,u4,_,rfl,q4,u5,_,rfl,q5,u6,_,rfl,q6,u7,_,rfl,q7,rfl⟩,rfl,hone2⟩
 exact key h0 h1
section
variable {Z:Nat→Prop} {w0:World} {gs:List Value} {u:Value} {QF:Exit→Act→World→Prop} {n t:Nat} {rest:List (Nat × Option AV)}
def withT (t:Nat) (u:Value) (s:ASt):ASt:=⟨s.n,(t,some (.p (.v u)))::s.t,s.L⟩
theorem flat_add {s1:ASt} {Z':Nat→Prop} {lb':Lb} {s':ASt} {a':Act} {w':World} (hs':St Z' lb' s' a' w') (hw:Wk 0 s' s1) (hf:FlatS s1) (hz:∀ b,Z b→b<w'.heap.size) (hu:a'.tmps[t]? = some u) (h1:oneB u=true):St Z [] (withT t u s1) a' w':=by
 obtain ⟨Z2,lb2,k4,k5⟩:=hw Z' lb' a' w' hs'
 have:=st_flat k5 hf hz
 have h2:=st_add (x:=.p (.v u)) this hu (raw_rep h1)
 exact h2
theorem flat_world {s:ASt} {a:Act} {w w2:World} (h:St Z [] s a w) (hf:FlatS s) (hz:∀ b,Z b→b<w2.heap.size):St Z [] s a w2:=by
 refine ⟨?_,fun d x hx=>?_,h.df,h.sz⟩
 ·rw [hf.1];exact ⟨rfl,by simp,by simp,by simp,hz,trivial⟩
 ·obtain ⟨v,k1,k2⟩:=h.tm d x hx
  obtain ⟨v2,rfl⟩:=hf.2 d x hx
  exact ⟨v,k1,by simpa only [ARep,Rep] using k2⟩
theorem flat_withT {s1:ASt} (hf:FlatS s1):FlatS (withT t u s1):=by
 refine ⟨hf.1,fun d x hx=>?_⟩
 simp only [withT,tget] at hx
 split at hx
 ·simp only [Option.some.injEq] at hx;exact ⟨u,hx.symm⟩
 ·exact hf.2 d x hx
theorem flat_wk {s s1:ASt} {a:Act} {w:World} (h:St Z [] s a w) (hl:LI Z w0 w gs u) (hw:Wk 0 s s1) (hf:FlatS s1):St Z [] s1 a w:=by
 obtain ⟨Z2,lb2,k4,k5⟩:=hw Z [] a w h
 exact st_flat k5 hf hl.zlt
theorem l_bloop {P:Program} {α:Type} {id:Nat} {c:Code} (S:α→ASt) (G:α→List Value) (p:α→Prop) (m:α→Nat)
  (round:∀ x,p x→lwp Z w0 (G x) u P c (fun e a w=>match e with
   | .normal=>∃ y,p y∧m y<m x∧St Z [] (S y) a w∧LI Z w0 w (G y) u
   | .exit k=>k=id∧QF .normal a w
   | _=>False) (S x)) (x:α) (hp:p x):lwp Z w0 (G x) u P (.block id (.loop c)) QF (S x):=by
 refine l_block ?_
 refine l_loop S G p m (fun x hx a w hs hl=>wp_mono (round x hx a w hs hl) ?_) x hp
 intro e a w h
 cases e with
 | normal=>exact h
 | exit k =>
  obtain ⟨rfl,h⟩:=h
  show ite _ _ _
  rw [if_pos rfl];exact h
 | _=>exact h.elim
theorem l_view {id:Nat} {ops:List Oper} {y:Code} (hd:∀ o,o∈ops→o.dst≠some t)
  (h:∀ l:List Ev,l.length=gs.length→(∀ i,i<gs.length→∃ base cap,gs.getD i (.slice none 0 0)=.slice base (l.getD i default).ch.length cap∧(l.getD i default).ch.length≤140737488355328)→VX E ops ops (lenL []) ⟨n,(t,some (.p (.view 8 (l.map eE))))::rest,addL [] (holesOf ops)⟩ [] (fun s _=>∃ s1,Wk 0 s s1∧FlatS s1∧lwp Z w0 gs u E.P y QF (withT t u s1))) :
  lwp Z w0 gs u E.P (.seq (.region id ops.toArray false) y) QF ⟨n,(t,some (.p (.v u)))::rest,[]⟩:=by
 intro a w hs hl
 obtain ⟨l,h1,h2⟩:=hl.tv
 obtain ⟨k1,k2⟩:=tm_raw hs (d:=t) (v:=u) (by simp [tget])
 have hs2:St Z [] ⟨n,(t,some (.p (.view 8 (l.map eE))))::rest,[]⟩ a w:=by
  refine ⟨hs.own,fun d x hx=>?_,hs.df,hs.sz⟩
  by_cases hdt:d=t
  ·subst hdt
   simp [tget] at hx
   subst hx
   exact ⟨u,k1,by simp only [ARep];exact tv_view h1 h2⟩
  ·refine hs.tm d x ?_
   simp only [tget] at hx ⊢
   have:Nat.beq t d=false:=by
    cases hb:Nat.beq t d with
    | true=>exact absurd (Nat.eq_of_beq_eq_true hb).symm hdt
    | false=>rfl
   rw [this] at hx ⊢
   exact hx
 refine wp_seq (wp_regF hs2 (h l h1 fun i hi=>tv_len h1 h2 hi) fun Z' lb' s' a' w' e hs' ⟨s1,g1,g2,g3⟩ hfr=>?_)
 have hl':=hl.ext e
 exact g3 a' w' (flat_add hs' g1 g2 hl'.zlt ((hfr t hd).trans k1) k2) hl'
theorem l_byte {id:Nat} {ops pre:List Oper} {o:Oper} {p q:Nat} (h0:splitLast ops=some (pre,o)) (ho:o.op=.store 5 (.tmp p) (.tmp q)) (hg:o.guard=none) (hod:o.dst=none) (hd:∀ o,o∈pre→o.dst≠some t) {i:Nat} (hi:i<gs.length) {m k:Nat} (hm:∃ base cap,gs.getD i (.slice none 0 0)=.slice base m cap) (hk:k<m)
  (h:∀ l:List Ev,l.length=gs.length→(l.getD i default).ch.length=m→VX E ops pre (lenL []) ⟨n,(t,some (.p (.view 8 ((l.zip gs).map pE))))::rest,addL [] (holesOf pre)⟩ [] (fun s _=>∃ s1 x y2,tget s.t p=some (.p (.rv (ptrOf (gs.getD i (.slice none 0 0)) k) (.eptr [.v (.int .u8 x)] 0)))∧tget s.t q=some (.p (.v (.int .u8 y2)))∧(0≤y2∧y2<256)∧Wk 0 s s1∧FlatS s1∧∀ a w,St Z [] (withT t u s1) a w→LI Z w0 w gs u→QF .normal a w)) :
  lwp Z w0 gs u E.P (.region id ops.toArray false) QF ⟨n,(t,some (.p (.v u)))::rest,[]⟩:=by
 intro a w hs hl
 obtain ⟨l,h1,h2⟩:=hl.tv
 obtain ⟨k1,k2⟩:=tm_raw hs (d:=t) (v:=u) (by simp [tget])
 have hs2:St Z [] ⟨n,(t,some (.p (.view 8 ((l.zip gs).map pE))))::rest,[]⟩ a w:=by
  refine ⟨hs.own,fun d x hx=>?_,hs.df,hs.sz⟩
  by_cases hdt:d=t
  ·subst hdt
   simp [tget] at hx
   subst hx
   exact ⟨u,k1,by simp only [ARep];simp only [Rep] at h2 ⊢;exact h2.2.2.1⟩
  ·refine hs.tm d x ?_
   simp only [tget] at hx ⊢
   have:Nat.beq t d=false:=by
    cases hb:Nat.beq t d with
    | true=>exact absurd (Nat.eq_of_beq_eq_true hb).symm hdt
    | false=>rfl
   rw [this] at hx ⊢
   exact hx
 obtain ⟨base0,cap0,hm⟩:=hm
 have hlen:(l.getD i default).ch.length=m:=by
  obtain ⟨b2,c2,e2,_⟩:=tv_len h1 h2 hi
  rw [e2] at hm;cases hm;rfl
 refine wp_store2 h0 hs2 hg hod (h l h1 hlen) fun Z' lb' s' a' w' e hs' ⟨s1,x,y2,g1,g2,g3,g4,g5,g6⟩ hfr=>?_
 have hl':=hl.ext e
 obtain ⟨up,p1,p2⟩:=tm_p hs' g1
 obtain ⟨q1,q2⟩:=tm_raw hs' g2
 simp only [Rep] at p2
 obtain ⟨rfl,_,⟨vs,b,off,r1,r2,r3,r4,r5⟩,_⟩:=p2
 simp only [Reps] at r1
 obtain ⟨x0,_,rfl,⟨rfl,_⟩,rfl⟩:=r1
 rw [hm] at r3
 have hT:=hl'.tv
 obtain ⟨l2,t1,t2⟩:=hl'.tv
 -- the slice's own memory
 have hwr:∀ aa,base0=some aa→Z aa.block∧∃ arr ty fr,w'.heap[aa.block]? = some (.cells arr ty fr)∧Unfrozen fr arr.size:=by
  intro aa e
  subst e
  simp only [Rep] at t2
  obtain ⟨_,_,⟨vs,base,cap,z1,_⟩,_⟩:=t2
  obtain ⟨v,z2,z3⟩:=z1.get i (pE (l2.getD i default,gs.getD i (.slice none 0 0))) (by rw [List.getElem?_map,zip_range t1 hi];rfl)
  unfold pE eR at z3
  simp only [Rep,Reps] at z3
  obtain ⟨vs2,⟨u0,_,rfl,_,u1,_,rfl,_,u2,_,rfl,_,u3,_,rfl,_,u4,_,rfl,_,u5,_,rfl,_,u6,_,rfl,_,u7,_,rfl,⟨e7,hg1,_,kwr⟩,rfl⟩,rfl,hone2⟩:=z3
  rcases kwr aa m cap0 hm with h | h
  ·omega
  ·exact h
 cases base0 with
 | none=>simp [ptrOf] at r3
 | some aa =>
  obtain ⟨w1,arr,ty,fr,w2,w3⟩:=hwr aa rfl
  simp only [ptrOf,Nat.add_zero,Value.pointer.injEq,Option.some.injEq,Addr.mk.injEq,and_true] at r3
  obtain ⟨rfl,rfl⟩:=r3
  have hc:=r5 0 _ rfl
  simp only [World.cell?,w2,Nat.add_zero,Option.isSome_none,Bool.false_eq_true,if_false] at hc
  obtain ⟨ii,dd,inf,z,hF,F⟩:=withTy_some (E:=E) (T:=5) (k:=fun i=>i.size=1) (by unfold withTy;rw [ty5,u5])
  have hlt:aa.off+k<arr.size:=by
   rcases Nat.lt_or_ge (aa.off+k) arr.size with h | h
   ·exact h
   ·rw [Array.getElem?_eq_none h] at hc;simp at hc
  rw [hm] at p1
  have ep:a'.eval (.tmp p)=.pointer (some ⟨aa.block,aa.off+k,none⟩):=by simp [Act.eval,p1,ptrOf]
  obtain ⟨yb,hyb⟩:∃ yb:UInt8,Value.int .u8 y2=vB yb:=⟨UInt8.ofNat y2.toNat,by unfold vB;congr 1;simp;omega⟩
  have eq:a'.eval (.tmp q)=vB yb:=by simp [Act.eval,q1,hyb]
  have ec:vcells (a'.eval (.tmp q))=[vB yb]:=by rw [eq];rfl
  refine ⟨_,exec_store (E:=E) ho F (c:=arr) (b:=aa.block) (off:=aa.off+k) ep (by rw [ec,hF];rfl) w2 (by rw [ec];exact hlt) w3 (by rw [ec];intro z hz;simp at hz;subst hz;rfl),?_⟩
  rw [ec]
  have hl2:=hl'.put8 w1 w2 w3 hc yb
  refine g6 a' _ (flat_world (flat_add hs' g4 g5 hl'.zlt ((hfr t hd).trans k1) k2) (flat_withT g5) hl2.zlt) hl2
theorem l_zero {id:Nat} {ops pre:List Oper} {o:Oper} {p q:Nat} (h0:splitLast ops=some (pre,o)) (ho:o.op=.store 41 (.tmp p) (.tmp q)) (hg:o.guard=none) (hod:o.dst=none) (hd:∀ o,o∈pre→o.dst≠some t) {i:Nat} (hi:i<gs.length)
  (h:∀ l:List Ev,l.length=gs.length→VX E ops pre (lenL []) ⟨n,(t,some (.p (.rv u (.view 8 ((l.zip gs).map pE)))))::rest,addL [] (holesOf pre)⟩ [] (fun s _=>∃ s1 cs,tget s.t p=some (.p (.rv (ptrOf u (i*8)) (.eptr cs 0)))∧tget s.t q=some (.p (.agg [.v (.int .u8 0),.v (.int .i64 0),.v (.int .u64 0),.v (.int .u64 0),.v (.int .u64 0),.v (.int .i64 0),.v (.int .i64 0),.v (.slice none 0 0)]))∧Wk 0 s s1∧FlatS s1∧∀ a w,St Z [] (withT t u s1) a w→LI Z w0 w (gs.set i (.slice none 0 0)) u→QF .normal a w)) :
  lwp Z w0 gs u E.P (.region id ops.toArray false) QF ⟨n,(t,some (.p (.v u)))::rest,[]⟩:=by
 intro a w hs hl
 obtain ⟨l,h1,h2⟩:=hl.tv
 obtain ⟨k1,k2⟩:=tm_raw hs (d:=t) (v:=u) (by simp [tget])
 have hs2:St Z [] ⟨n,(t,some (.p (.rv u (.view 8 ((l.zip gs).map pE)))))::rest,[]⟩ a w:=by
  refine ⟨hs.own,fun d x hx=>?_,hs.df,hs.sz⟩
  by_cases hdt:d=t
  ·subst hdt
   simp [tget] at hx
   subst hx
   exact ⟨u,k1,by simp only [ARep];exact h2⟩
  ·refine hs.tm d x ?_
   simp only [tget] at hx ⊢
   have:Nat.beq t d=false:=by
    cases hb:Nat.beq t d with
    | true=>exact absurd (Nat.eq_of_beq_eq_true hb).symm hdt
    | false=>rfl
   rw [this] at hx ⊢
   exact hx
 refine wp_store2 h0 hs2 hg hod (h l h1) fun Z' lb' s' a' w' e hs' ⟨s1,cs,g1,g2,g4,g5,g6⟩ hfr=>?_
 have hl':=hl.ext e
 obtain ⟨up,p1,p2⟩:=tm_p hs' g1
 obtain ⟨uq,q1,q2⟩:=tm_p hs' g2
 simp only [Rep] at p2
 obtain ⟨rfl,_,⟨vs,b,off,r1,r2,r3,r4,r5⟩,_⟩:=p2
 obtain ⟨l2,t1,t2⟩:=hl'.tv
 simp only [Rep] at t2
 obtain ⟨_,_,⟨vs9,base,cap,z1,z2,_⟩,kwr⟩:=t2
 have hl9:=z1.length
 rw [List.length_map,List.length_zip,t1,Nat.min_self] at hl9
 cases base with
 | none=>rw [z2] at r3;simp [ptrOf] at r3
 | some aa =>
  rcases kwr aa _ _ z2 with h | ⟨w1,arr,ty,fr,w2,w3⟩
  ·omega
  ·obtain ⟨hsz,hl2⟩:=hl'.putZ z2 hi w2 w3
   simp only [Rep,Reps] at q2
   obtain ⟨vsq,⟨u0,_,rfl,⟨rfl,_⟩,u1,_,rfl,⟨rfl,_⟩,u2,_,rfl,⟨rfl,_⟩,u3,_,rfl,⟨rfl,_⟩,u4,_,rfl,⟨rfl,_⟩,u5,_,rfl,⟨rfl,_⟩,u6,_,rfl,⟨rfl,_⟩,u7,_,rfl,⟨rfl,_⟩,rfl⟩,rfl,_⟩:=q2
   rw [z2] at p1
   have ep:a'.eval (.tmp p)=.pointer (some ⟨aa.block,aa.off+i*8,none⟩):=by simp [Act.eval,p1,ptrOf]
   have ec:vcells (a'.eval (.tmp q))=.int .u8 0::zc:=by simp [Act.eval,q1,vcells,Value.cells,zc]
   obtain ⟨ii,dd,inf,z,hF,F⟩:=withTy_some (E:=E) (T:=41) (k:=fun i=>i.size=8) (by unfold withTy;rw [ty41,u41])
   refine ⟨_,exec_store (E:=E) ho F (c:=arr) (b:=aa.block) (off:=aa.off+i*8) ep (by rw [ec,hF];rfl) w2 (by rw [ec];exact hsz) w3 (by rw [ec];intro z hz;simp only [zc,List.mem_cons,List.not_mem_nil,or_false] at hz;rcases hz with rfl | rfl | rfl | rfl | rfl | rfl | rfl | rfl<;>rfl),?_⟩
   rw [ec]
   exact g6 a' _ (flat_world (flat_add hs' g4 g5 hl'.zlt ((hfr t hd).trans k1) k2) (flat_withT g5) hl2.zlt) hl2
end
end Go.Proofs.YtckhjklcfagkoaaGreatDoor
