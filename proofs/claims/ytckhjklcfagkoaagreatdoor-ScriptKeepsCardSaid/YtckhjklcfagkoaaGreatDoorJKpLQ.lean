/- Contracts of functions of this program, and the plain facts that they rest on. No conditions. -/
import Derived.Test.YtckhjklcfagkoaaGreatDoorJKpDQ
import Derived.Shelf.SlGeneric
import Derived.Shelf.SlMaps.Clone
import Derived.Test.YtckhjklcfagkoaaGreatDoorProg
import Derived.Test.YtckhjklcfagkoaaGreatDoorEnv2
import Derived.Test.YtckhjklcfagkoaaGreatDoorAc4
set_option linter.unusedSectionVars false
set_option linter.unusedSimpArgs false
set_option warn.classDefReducibility false
set_option linter.unusedVariables false
namespace Go.Proofs.YtckhjklcfagkoaaGreatDoor
open Go Go.Ab
attribute [local irreducible] callK callF loopQ vstep vskip pickE hideP
open Go.RowKit
set_option maxRecDepth 100000
noncomputable local instance (priority:=2000) glT3:Glob:=glT
theorem slotsT (g:Nat):@Glob.slots glT3 g=1:=rfl
theorem bldT:(@Glob.bld glT3:TypeId)=0:=rfl
attribute [local go_sem] slotsT bldT
def sub:Code→List Nat→Option Code
 | c,[]=>some c
 | .seq x _,0::p=>sub x p
 | .seq _ y,1::p=>sub y p
 | .block _ c,2::p=>sub c p
 | .loop c,3::p=>sub c p
 | _,_=>none
def bodyOf (f:Func):Code:=match f.body with
 | some c=>c
 | none=>.skip
theorem tv_big {Z:Nat→Prop} {w:World} {gs:List Value} {u:Value} (h:TV Z w gs u):gs.length≤140737488355328:=by
 obtain ⟨l,h0,h⟩:=h
 simp only [Rep] at h
 obtain ⟨_,_,⟨vs,base,cap,h1,_,_,_,h4,_⟩,_⟩:=h
 have:=h1.length
 rw [List.length_map,List.length_zip,h0,Nat.min_self] at this
 unfold big at h4;omega
def rw2 (d:Nat) (v:Value):Nat × Option AV:=(d,some (.p (.v v)))
def iv (n:Nat):Value:=.int .i64 (n:Int)
theorem flat_of {n:Nat} {t:List (Nat × Option AV)} (h:∀ p,p∈t→∃ v,p.2=some (.p (.v v))):FlatS ⟨n,t,[]⟩:=by
 refine ⟨rfl,fun d x hx=>?_⟩
 induction t with
 | nil=>simp [tget] at hx
 | cons p t ih =>
  obtain ⟨e,y⟩:=p
  simp only [tget] at hx
  split at hx
  ·obtain ⟨v,hv⟩:=h (e,y) (by simp)
   simp only at hv
   rw [hv] at hx
   simp only [Option.some.injEq] at hx
   exact ⟨v,hx.symm⟩
  ·exact ih (fun q hq=>h q (by simp [hq])) hx
theorem kL1 {c:Code} (hc:sub (bodyOf Tryz.f7) [1,1,1,1,1,1,1,0]=some c) {Z:Nat→Prop} {w0:World} {gs:List Value} {u:Value} {QF:Exit→Act→World→Prop} (v0 v1 v5 v6 v10:Value)
  (hq:∀ gs' a w,St Z [] ⟨135,[rw2 7 u,rw2 0 v0,rw2 1 v1,rw2 5 v5,rw2 6 v6,rw2 10 v10],[]⟩ a w→LI Z w0 w gs' u→QF .normal a w) :
  lwp Z w0 gs u E.P c QF ⟨135,[rw2 7 u,rw2 0 v0,rw2 1 v1,rw2 5 v5,rw2 6 v6,rw2 10 v10],[]⟩:=by
 conv at hc=>lhs;whnf
 obtain rfl:=Option.some.inj hc
 clear hc
 intro a w hs hl
 have hb:=tv_big hl.tv
 revert a w
 refine l_view (t:=7) (by simp) ?_
 intro l h1 _
 repeat' (first
  | (with_reducible first | refine zY ?_ | refine zT ?_ | refine zM ?_ | refine zN ?_ | refine zO ?_ | refine qK ?_ | (show False;omega))
  | ((with_reducible first | refine zP ?_ ?_ | refine zQ ?_ ?_ | refine zR ?_ ?_ | refine zL ?_ ?_)<;>intro h<;>try (exfalso;first | omega | exact h rfl | (revert h;decide) | (cases h;done)))
  | ((first | (with_reducible first | refine zW ?_ | refine zV ?_ | refine zU ?_ | refine zS ?_ | refine zX ?_ | show VX _ _ _ _ _ _ _ | show vstep _ _ _ _ _ | show vskip _ _ _ | show withV _ _ | apply qN | apply qR | refine zB default ?_ (by first | omega | (simp only [LN,h1,rw2];omega)) (by first | omega | (simp only [LN,h1,rw2];omega)) | refine zC default ?_ (by first | omega | (simp only [LN,h1,rw2];omega)) | refine qI ?_ (by first | decide | omega | assumption | (simp only [LN,h1,rw2];omega))) | ((with_reducible show pickE _ _ _);refine qA _ ?_));try simp -dsimp -implicitDefEqProofs (maxSteps:=1000000) (disch:=first | omega | (simp only [LN,h1,rw2];omega)) only [go_sem,h1,rw2])
 )
 refine ⟨⟨135,[rw2 48 (iv gs.length),rw2 49 (iv 0),rw2 0 v0,rw2 1 v1,rw2 5 v5,rw2 6 v6,rw2 10 v10],[]⟩,by refine wk_auto ?_;simp -dsimp -implicitDefEqProofs (maxSteps:=1000000) (disch:=first | omega | (simp only [LN,rw2,iv];omega)) only [go_sem,rw2,iv],flat_of (by simp [rw2]),?_⟩
 clear h1
 refine l_bloop (S:=fun x:Nat × List Value=>⟨135,[rw2 7 u,rw2 48 (iv gs.length),rw2 49 (iv x.1),rw2 0 v0,rw2 1 v1,rw2 5 v5,rw2 6 v6,rw2 10 v10],[]⟩) (G:=fun x=>x.2) (fun x=>x.1≤gs.length∧x.2.length=gs.length) (fun x=>gs.length - x.1) ?_ (0,gs) ⟨Nat.zero_le _,rfl⟩
 rintro ⟨i,hs⟩ ⟨hi,hg⟩
 simp only at hi hg
 have hgb:hs.length≤140737488355328:=by omega
 refine l_seq ?_
 repeat' (first
  | (with_reducible first | refine zY ?_ | refine zT ?_ | refine zM ?_ | refine zN ?_ | refine zO ?_ | refine qK ?_ | (show False;omega))
  | ((with_reducible first | refine zP ?_ ?_ | refine zQ ?_ ?_ | refine zR ?_ ?_ | refine zL ?_ ?_)<;>intro h<;>try (exfalso;first | omega | exact h rfl | (revert h;decide) | (cases h;done)))
  | ((first | (with_reducible first | refine zW ?_ | refine zV ?_ | refine zU ?_ | refine zS ?_ | refine zX ?_ | show VX _ _ _ _ _ _ _ | show vstep _ _ _ _ _ | show vskip _ _ _ | show withV _ _ | apply qN | apply qR | refine zB default ?_ (by first | omega | (simp only [LN,rw2,iv];omega)) (by first | omega | (simp only [LN,rw2,iv];omega)) | refine zC default ?_ (by first | omega | (simp only [LN,rw2,iv];omega)) | refine qI ?_ (by first | decide | omega | assumption | (simp only [LN,rw2,iv];omega))) | ((with_reducible show pickE _ _ _);refine qA _ ?_));try simp -dsimp -implicitDefEqProofs (maxSteps:=1000000) (disch:=first | omega | (simp only [LN,rw2,iv];omega)) only [go_sem,rw2,iv])
 )
 refine ⟨⟨135,[rw2 7 u,rw2 48 (iv gs.length),rw2 49 (iv i),rw2 50 (.bool (decide ((i:Int)<gs.length))),rw2 0 v0,rw2 1 v1,rw2 5 v5,rw2 6 v6,rw2 10 v10],[]⟩,by refine wk_auto ?_;simp -dsimp -implicitDefEqProofs (maxSteps:=1000000) (disch:=first | omega | (simp only [LN,rw2,iv];omega)) only [go_sem,rw2,iv],flat_of (by simp [rw2]),?_⟩
 refine l_cond (t:=50) rfl ?_ ?_
 ·intro hlt
  have hlt:i<hs.length:=by simpa [hg] using hlt
  refine l_seq2 (l_block (l_seq ?_))
  repeat' (first
   | (with_reducible first | refine zY ?_ | refine zT ?_ | refine zM ?_ | refine zN ?_ | refine zO ?_ | refine qK ?_ | (show False;omega))
   | ((with_reducible first | refine zP ?_ ?_ | refine zQ ?_ ?_ | refine zR ?_ ?_ | refine zL ?_ ?_)<;>intro h<;>try (exfalso;first | omega | exact h rfl | (revert h;decide) | (cases h;done)))
   | ((first | (with_reducible first | refine zW ?_ | refine zV ?_ | refine zU ?_ | refine zS ?_ | refine zX ?_ | show VX _ _ _ _ _ _ _ | show vstep _ _ _ _ _ | show vskip _ _ _ | show withV _ _ | apply qN | apply qR | refine zB default ?_ (by first | omega | (simp only [LN,rw2,iv];omega)) (by first | omega | (simp only [LN,rw2,iv];omega)) | refine zC default ?_ (by first | omega | (simp only [LN,rw2,iv];omega)) | refine qI ?_ (by first | decide | omega | assumption | (simp only [LN,rw2,iv];omega))) | ((with_reducible show pickE _ _ _);refine qA _ ?_));try simp -dsimp -implicitDefEqProofs (maxSteps:=1000000) (disch:=first | omega | (simp only [LN,rw2,iv];omega)) only [go_sem,rw2,iv])
  )
  refine ⟨⟨135,[rw2 7 u,rw2 48 (iv gs.length),rw2 49 (iv i),rw2 13 (iv i),rw2 0 v0,rw2 1 v1,rw2 5 v5,rw2 6 v6,rw2 10 v10],[]⟩,by refine wk_auto ?_;simp -dsimp -implicitDefEqProofs (maxSteps:=1000000) (disch:=first | omega | (simp only [LN,rw2,iv];omega)) only [go_sem,rw2,iv],flat_of (by simp [rw2]),?_⟩
  refine l_seq2 (l_view (t:=7) (by simp) ?_)
  intro l h1 hm
  have hli:i<l.length:=by omega
  obtain ⟨base,cap,hm,hmb⟩:=hm i hlt
  generalize hxx:l.getD i default=x at *
  obtain ⟨m,hmm⟩:∃ m,m=x.ch.length:=⟨_,rfl⟩
  rw [← hmm] at hm hmb
  repeat' (first
   | (with_reducible first | refine zY ?_ | refine zT ?_ | refine zM ?_ | refine zN ?_ | refine zO ?_ | refine qK ?_ | (show False;omega))
   | ((with_reducible first | refine zP ?_ ?_ | refine zQ ?_ ?_ | refine zR ?_ ?_ | refine zL ?_ ?_)<;>intro h<;>try (exfalso;first | omega | exact h rfl | (revert h;decide) | (cases h;done)))
   | ((first | (with_reducible first | refine zW ?_ | refine zV ?_ | refine zU ?_ | refine zS ?_ | refine zX ?_ | show VX _ _ _ _ _ _ _ | show vstep _ _ _ _ _ | show vskip _ _ _ | show withV _ _ | apply qN | apply qR | refine zB default ?_ (by first | omega | (simp only [LN,h1,rw2,iv,hxx,← hmm,eE,aI];omega)) (by first | omega | (simp only [LN,h1,rw2,iv,hxx,← hmm,eE,aI];omega)) | refine zC default ?_ (by first | omega | (simp only [LN,h1,rw2,iv,hxx,← hmm,eE,aI];omega)) | refine qI ?_ (by first | decide | omega | assumption | (simp only [LN,h1,rw2,iv,hxx,← hmm,eE,aI];omega))) | ((with_reducible show pickE _ _ _);refine qA _ ?_));try simp -dsimp -implicitDefEqProofs (maxSteps:=1000000) (disch:=first | omega | (simp only [LN,h1,rw2,iv,hxx,← hmm,eE,aI];omega)) only [go_sem,h1,rw2,iv,hxx,← hmm,eE,aI])
  )
  refine ⟨⟨135,[rw2 48 (iv gs.length),rw2 49 (iv i),rw2 13 (iv i),rw2 57 (iv m),rw2 58 (iv 0),rw2 0 v0,rw2 1 v1,rw2 5 v5,rw2 6 v6,rw2 10 v10],[]⟩,by refine wk_auto ?_;simp -dsimp -implicitDefEqProofs (maxSteps:=1000000) (disch:=first | omega | (simp only [LN,rw2,iv];omega)) only [go_sem,rw2,iv],flat_of (by simp [rw2]),?_⟩
  clear hxx hmm h1 hli
  refine l_bloop (S:=fun k:Nat=>⟨135,[rw2 7 u,rw2 48 (iv gs.length),rw2 49 (iv i),rw2 13 (iv i),rw2 57 (iv m),rw2 58 (iv k),rw2 0 v0,rw2 1 v1,rw2 5 v5,rw2 6 v6,rw2 10 v10],[]⟩) (G:=fun _=>hs) (fun k=>k≤m) (fun k=>m - k) ?_ 0 (Nat.zero_le _)
  intro k hk
  refine l_seq ?_
  repeat' (first
   | (with_reducible first | refine zY ?_ | refine zT ?_ | refine zM ?_ | refine zN ?_ | refine zO ?_ | refine qK ?_ | (show False;omega))
   | ((with_reducible first | refine zP ?_ ?_ | refine zQ ?_ ?_ | refine zR ?_ ?_ | refine zL ?_ ?_)<;>intro h<;>try (exfalso;first | omega | exact h rfl | (revert h;decide) | (cases h;done)))
   | ((first | (with_reducible first | refine zW ?_ | refine zV ?_ | refine zU ?_ | refine zS ?_ | refine zX ?_ | show VX _ _ _ _ _ _ _ | show vstep _ _ _ _ _ | show vskip _ _ _ | show withV _ _ | apply qN | apply qR | refine zB default ?_ (by first | omega | (simp only [LN,rw2,iv];omega)) (by first | omega | (simp only [LN,rw2,iv];omega)) | refine zC default ?_ (by first | omega | (simp only [LN,rw2,iv];omega)) | refine qI ?_ (by first | decide | omega | assumption | (simp only [LN,rw2,iv];omega))) | ((with_reducible show pickE _ _ _);refine qA _ ?_));try simp -dsimp -implicitDefEqProofs (maxSteps:=1000000) (disch:=first | omega | (simp only [LN,rw2,iv];omega)) only [go_sem,rw2,iv])
  )
  refine ⟨⟨135,[rw2 7 u,rw2 48 (iv gs.length),rw2 49 (iv i),rw2 13 (iv i),rw2 57 (iv m),rw2 58 (iv k),rw2 59 (.bool (decide ((k:Int)<m))),rw2 0 v0,rw2 1 v1,rw2 5 v5,rw2 6 v6,rw2 10 v10],[]⟩,by refine wk_auto ?_;simp -dsimp -implicitDefEqProofs (maxSteps:=1000000) (disch:=first | omega | (simp only [LN,rw2,iv];omega)) only [go_sem,rw2,iv],flat_of (by simp [rw2]),?_⟩
  refine l_cond (t:=59) rfl ?_ ?_
  ·intro hkm
   have hkm:k<m:=by simpa using hkm
   refine l_seq2 (l_block (l_seq ?_))
   repeat' (first
    | (with_reducible first | refine zY ?_ | refine zT ?_ | refine zM ?_ | refine zN ?_ | refine zO ?_ | refine qK ?_ | (show False;omega))
    | ((with_reducible first | refine zP ?_ ?_ | refine zQ ?_ ?_ | refine zR ?_ ?_ | refine zL ?_ ?_)<;>intro h<;>try (exfalso;first | omega | exact h rfl | (revert h;decide) | (cases h;done)))
    | ((first | (with_reducible first | refine zW ?_ | refine zV ?_ | refine zU ?_ | refine zS ?_ | refine zX ?_ | show VX _ _ _ _ _ _ _ | show vstep _ _ _ _ _ | show vskip _ _ _ | show withV _ _ | apply qN | apply qR | refine zB default ?_ (by first | omega | (simp only [LN,rw2,iv];omega)) (by first | omega | (simp only [LN,rw2,iv];omega)) | refine zC default ?_ (by first | omega | (simp only [LN,rw2,iv];omega)) | refine qI ?_ (by first | decide | omega | assumption | (simp only [LN,rw2,iv];omega))) | ((with_reducible show pickE _ _ _);refine qA _ ?_));try simp -dsimp -implicitDefEqProofs (maxSteps:=1000000) (disch:=first | omega | (simp only [LN,rw2,iv];omega)) only [go_sem,rw2,iv])
   )
   refine ⟨⟨135,[rw2 7 u,rw2 48 (iv gs.length),rw2 49 (iv i),rw2 13 (iv i),rw2 57 (iv m),rw2 58 (iv k),rw2 14 (iv k),rw2 0 v0,rw2 1 v1,rw2 5 v5,rw2 6 v6,rw2 10 v10],[]⟩,by refine wk_auto ?_;simp -dsimp -implicitDefEqProofs (maxSteps:=1000000) (disch:=first | omega | (simp only [LN,rw2,iv];omega)) only [go_sem,rw2,iv],flat_of (by simp [rw2]),?_⟩
   refine l_byte (t:=7) (p:=70) (q:=69) rfl rfl rfl rfl (by simp) hlt ⟨base,cap,hm⟩ hkm ?_
   intro l h1 hlm
   have hzl:(l.zip hs).length=hs.length:=by rw [List.length_zip];omega
   have hzg:(l.zip hs).getD i default=(l.getD i default,hs.getD i (.slice none 0 0)):=by rw [List.getD_eq_getElem?_getD,zip_range h1 hlt];rfl
   generalize l.getD i default=x at *
   have hcg:∃ xb,x.ch.getD k default=xb:=⟨_,rfl⟩
   obtain ⟨xb,hcg⟩:=hcg
   repeat' (first
    | (with_reducible first | refine zY ?_ | refine zT ?_ | refine zM ?_ | refine zN ?_ | refine zO ?_ | refine qK ?_ | (show False;omega))
    | ((with_reducible first | refine zP ?_ ?_ | refine zQ ?_ ?_ | refine zR ?_ ?_ | refine zL ?_ ?_)<;>intro h<;>try (exfalso;first | omega | exact h rfl | (revert h;decide) | (cases h;done)))
    | ((first | (with_reducible first | refine zW ?_ | refine zV ?_ | refine zU ?_ | refine zS ?_ | refine zX ?_ | show VX _ _ _ _ _ _ _ | show vstep _ _ _ _ _ | show vskip _ _ _ | show withV _ _ | apply qN | apply qR | refine zB default ?_ (by first | omega | (simp only [LN,h1,rw2,iv,hzl,hzg,hlm,pE,eR,aI,hcg,eB];omega)) (by first | omega | (simp only [LN,h1,rw2,iv,hzl,hzg,hlm,pE,eR,aI,hcg,eB];omega)) | refine zC default ?_ (by first | omega | (simp only [LN,h1,rw2,iv,hzl,hzg,hlm,pE,eR,aI,hcg,eB];omega)) | refine qI ?_ (by first | decide | omega | assumption | (simp only [LN,h1,rw2,iv,hzl,hzg,hlm,pE,eR,aI,hcg,eB];omega))) | ((with_reducible show pickE _ _ _);refine qA _ ?_));try simp -dsimp -implicitDefEqProofs (maxSteps:=1000000) (disch:=first | omega | (simp only [LN,h1,rw2,iv,hzl,hzg,hlm,pE,eR,aI,hcg,eB];omega)) only [go_sem,h1,rw2,iv,hzl,hzg,hlm,pE,eR,aI,hcg,eB])
   )
   refine ⟨⟨135,[rw2 48 (iv gs.length),rw2 49 (iv i),rw2 13 (iv i),rw2 57 (iv m),rw2 58 (iv k),rw2 0 v0,rw2 1 v1,rw2 5 v5,rw2 6 v6,rw2 10 v10],[]⟩,_,_,by rw [Nat.mul_one],rfl,by rw [wr8];omega,by refine wk_auto ?_;simp -dsimp -implicitDefEqProofs (maxSteps:=1000000) (disch:=first | omega | (simp only [LN,rw2,iv];omega)) only [go_sem,rw2,iv],flat_of (by simp [rw2]),?_⟩
   intro a w h1 h2
   refine l_end (s1:=⟨135,[rw2 7 u,rw2 48 (iv gs.length),rw2 49 (iv i),rw2 13 (iv i),rw2 57 (iv m),rw2 58 (iv (k+1)),rw2 0 v0,rw2 1 v1,rw2 5 v5,rw2 6 v6,rw2 10 v10],[]⟩) ?_ (flat_of (by simp [rw2])) ?_ a w h1 h2
   ·have w3:IntKind.i64.wrap ((k:Int)+1)=((k+1:Nat):Int):=by rw [IntKind.wrap_i64];push_cast;omega
    unfold withT
    repeat' (first
     | (with_reducible first | refine zY ?_ | refine zT ?_ | refine zM ?_ | refine zN ?_ | refine zO ?_ | refine qK ?_ | (show False;omega))
     | ((with_reducible first | refine zP ?_ ?_ | refine zQ ?_ ?_ | refine zR ?_ ?_ | refine zL ?_ ?_)<;>intro h<;>try (exfalso;first | omega | exact h rfl | (revert h;decide) | (cases h;done)))
     | ((first | (with_reducible first | refine zW ?_ | refine zV ?_ | refine zU ?_ | refine zS ?_ | refine zX ?_ | show VX _ _ _ _ _ _ _ | show vstep _ _ _ _ _ | show vskip _ _ _ | show withV _ _ | apply qN | apply qR | refine zB default ?_ (by first | omega | (simp only [LN,rw2,iv,w3];omega)) (by first | omega | (simp only [LN,rw2,iv,w3];omega)) | refine zC default ?_ (by first | omega | (simp only [LN,rw2,iv,w3];omega)) | refine qI ?_ (by first | decide | omega | assumption | (simp only [LN,rw2,iv,w3];omega))) | ((with_reducible show pickE _ _ _);refine qA _ ?_));try simp -dsimp -implicitDefEqProofs (maxSteps:=1000000) (disch:=first | omega | (simp only [LN,rw2,iv,w3];omega)) only [go_sem,rw2,iv,w3])
    )
    refine wk_auto ?_
    simp -dsimp -implicitDefEqProofs (maxSteps:=1000000) (disch:=first | omega | (simp only [LN,rw2,iv,w3];omega)) only [go_sem,rw2,iv,w3]
   ·intro a w h1 h2
    exact ⟨k+1,by omega,by omega,h1,h2⟩
  ·intro _ a w h1 h2
   refine ⟨rfl,?_⟩
   have h3:=flat_wk (s1:=⟨135,[rw2 7 u,rw2 48 (iv gs.length),rw2 49 (iv i),rw2 13 (iv i),rw2 0 v0,rw2 1 v1,rw2 5 v5,rw2 6 v6,rw2 10 v10],[]⟩) h1 h2 (by refine wk_auto ?_;simp -dsimp -implicitDefEqProofs (maxSteps:=1000000) (disch:=first | omega | (simp only [LN,rw2,iv];omega)) only [go_sem,rw2,iv]) (flat_of (by simp [rw2]))
   refine l_zero (t:=7) (p:=75) (q:=74) rfl rfl rfl rfl (by simp) hlt ?_ a w h3 h2
   clear h3 h2 h1
   intro l h1
   have hzl:(l.zip hs).length=hs.length:=by rw [List.length_zip];omega
   repeat' (first
    | (with_reducible first | refine zY ?_ | refine zT ?_ | refine zM ?_ | refine zN ?_ | refine zO ?_ | refine qK ?_ | (show False;omega))
    | ((with_reducible first | refine zP ?_ ?_ | refine zQ ?_ ?_ | refine zR ?_ ?_ | refine zL ?_ ?_)<;>intro h<;>try (exfalso;first | omega | exact h rfl | (revert h;decide) | (cases h;done)))
    | ((first | (with_reducible first | refine zW ?_ | refine zV ?_ | refine zU ?_ | refine zS ?_ | refine zX ?_ | show VX _ _ _ _ _ _ _ | show vstep _ _ _ _ _ | show vskip _ _ _ | show withV _ _ | apply qN | apply qR | refine zB default ?_ (by first | omega | (simp only [LN,h1,rw2,iv,hzl,pE,eR,aI];omega)) (by first | omega | (simp only [LN,h1,rw2,iv,hzl,pE,eR,aI];omega)) | refine zC default ?_ (by first | omega | (simp only [LN,h1,rw2,iv,hzl,pE,eR,aI];omega)) | refine qI ?_ (by first | decide | omega | assumption | (simp only [LN,h1,rw2,iv,hzl,pE,eR,aI];omega))) | ((with_reducible show pickE _ _ _);refine qA _ ?_));try simp -dsimp -implicitDefEqProofs (maxSteps:=1000000) (disch:=first | omega | (simp only [LN,h1,rw2,iv,hzl,pE,eR,aI];omega)) only [go_sem,h1,rw2,iv,hzl,pE,eR,aI])
   )
   refine ⟨⟨135,[rw2 48 (iv gs.length),rw2 49 (iv i),rw2 0 v0,rw2 1 v1,rw2 5 v5,rw2 6 v6,rw2 10 v10],[]⟩,_,rfl,by refine wk_auto ?_;simp -dsimp -implicitDefEqProofs (maxSteps:=1000000) (disch:=first | omega | (simp only [LN,rw2,iv];omega)) only [go_sem,rw2,iv],flat_of (by simp [rw2]),?_⟩
   intro a w h1 h2
   refine l_end (s1:=⟨135,[rw2 7 u,rw2 48 (iv gs.length),rw2 49 (iv (i+1)),rw2 0 v0,rw2 1 v1,rw2 5 v5,rw2 6 v6,rw2 10 v10],[]⟩) ?_ (flat_of (by simp [rw2])) ?_ a w h1 h2
   ·have w3:IntKind.i64.wrap ((i:Int)+1)=((i+1:Nat):Int):=by rw [IntKind.wrap_i64];push_cast;omega
    unfold withT
    repeat' (first
     | (with_reducible first | refine zY ?_ | refine zT ?_ | refine zM ?_ | refine zN ?_ | refine zO ?_ | refine qK ?_ | (show False;omega))
     | ((with_reducible first | refine zP ?_ ?_ | refine zQ ?_ ?_ | refine zR ?_ ?_ | refine zL ?_ ?_)<;>intro h<;>try (exfalso;first | omega | exact h rfl | (revert h;decide) | (cases h;done)))
     | ((first | (with_reducible first | refine zW ?_ | refine zV ?_ | refine zU ?_ | refine zS ?_ | refine zX ?_ | show VX _ _ _ _ _ _ _ | show vstep _ _ _ _ _ | show vskip _ _ _ | show withV _ _ | apply qN | apply qR | refine zB default ?_ (by first | omega | (simp only [LN,rw2,iv,w3];omega)) (by first | omega | (simp only [LN,rw2,iv,w3];omega)) | refine zC default ?_ (by first | omega | (simp only [LN,rw2,iv,w3];omega)) | refine qI ?_ (by first | decide | omega | assumption | (simp only [LN,rw2,iv,w3];omega))) | ((with_reducible show pickE _ _ _);refine qA _ ?_));try simp -dsimp -implicitDefEqProofs (maxSteps:=1000000) (disch:=first | omega | (simp only [LN,rw2,iv,w3];omega)) only [go_sem,rw2,iv,w3])
    )
    refine wk_auto ?_
    simp -dsimp -implicitDefEqProofs (maxSteps:=1000000) (disch:=first | omega | (simp only [LN,rw2,iv,w3];omega)) only [go_sem,rw2,iv,w3]
   ·intro a w h1 h2
    exact ⟨(i+1,hs.set i (.slice none 0 0)),⟨by show i+1≤_;omega,by rw [List.length_set];exact hg⟩,by show gs.length - (i+1)<gs.length - i;omega,h1,h2⟩
 ·intro _ a w h1 h2
  exact ⟨rfl,hq _ a w (flat_wk h1 h2 (by refine wk_auto ?_;simp -dsimp -implicitDefEqProofs (maxSteps:=1000000) (disch:=first | omega | (simp only [LN,rw2,iv];omega)) only [go_sem,rw2,iv]) (flat_of (by simp [rw2]))) h2⟩
theorem kL2 {c:Code} (hc:sub (bodyOf Tryz.f7) [1,1,1,1,1,1,1,1,1,1,1,1,0]=some c) {Z:Nat→Prop} {w0:World} {gs:List Value} {u:Value} {QF:Exit→Act→World→Prop} (v6 v10 v15 v16:Value)
  (hq:∀ gs' a w,St Z [] ⟨135,[rw2 5 u,rw2 6 v6,rw2 10 v10,rw2 15 v15,rw2 16 v16],[]⟩ a w→LI Z w0 w gs' u→QF .normal a w) :
  lwp Z w0 gs u E.P c QF ⟨135,[rw2 5 u,rw2 6 v6,rw2 10 v10,rw2 15 v15,rw2 16 v16],[]⟩:=by
 conv at hc=>lhs;whnf
 obtain rfl:=Option.some.inj hc
 clear hc
 intro a w hs hl
 have hb:=tv_big hl.tv
 revert a w
 refine l_view (t:=5) (by simp) ?_
 intro l h1 _
 repeat' (first
  | (with_reducible first | refine zY ?_ | refine zT ?_ | refine zM ?_ | refine zN ?_ | refine zO ?_ | refine qK ?_ | (show False;omega))
  | ((with_reducible first | refine zP ?_ ?_ | refine zQ ?_ ?_ | refine zR ?_ ?_ | refine zL ?_ ?_)<;>intro h<;>try (exfalso;first | omega | exact h rfl | (revert h;decide) | (cases h;done)))
  | ((first | (with_reducible first | refine zW ?_ | refine zV ?_ | refine zU ?_ | refine zS ?_ | refine zX ?_ | show VX _ _ _ _ _ _ _ | show vstep _ _ _ _ _ | show vskip _ _ _ | show withV _ _ | apply qN | apply qR | refine zB default ?_ (by first | omega | (simp only [LN,h1,rw2];omega)) (by first | omega | (simp only [LN,h1,rw2];omega)) | refine zC default ?_ (by first | omega | (simp only [LN,h1,rw2];omega)) | refine qI ?_ (by first | decide | omega | assumption | (simp only [LN,h1,rw2];omega))) | ((with_reducible show pickE _ _ _);refine qA _ ?_));try simp -dsimp -implicitDefEqProofs (maxSteps:=1000000) (disch:=first | omega | (simp only [LN,h1,rw2];omega)) only [go_sem,h1,rw2])
 )
 refine ⟨⟨135,[rw2 97 (iv gs.length),rw2 98 (iv 0),rw2 6 v6,rw2 10 v10,rw2 15 v15,rw2 16 v16],[]⟩,by refine wk_auto ?_;simp -dsimp -implicitDefEqProofs (maxSteps:=1000000) (disch:=first | omega | (simp only [LN,rw2,iv];omega)) only [go_sem,rw2,iv],flat_of (by simp [rw2]),?_⟩
 clear h1
 refine l_bloop (S:=fun x:Nat × List Value=>⟨135,[rw2 5 u,rw2 97 (iv gs.length),rw2 98 (iv x.1),rw2 6 v6,rw2 10 v10,rw2 15 v15,rw2 16 v16],[]⟩) (G:=fun x=>x.2) (fun x=>x.1≤gs.length∧x.2.length=gs.length) (fun x=>gs.length - x.1) ?_ (0,gs) ⟨Nat.zero_le _,rfl⟩
 rintro ⟨i,hs⟩ ⟨hi,hg⟩
 simp only at hi hg
 have hgb:hs.length≤140737488355328:=by omega
 refine l_seq ?_
 repeat' (first
  | (with_reducible first | refine zY ?_ | refine zT ?_ | refine zM ?_ | refine zN ?_ | refine zO ?_ | refine qK ?_ | (show False;omega))
  | ((with_reducible first | refine zP ?_ ?_ | refine zQ ?_ ?_ | refine zR ?_ ?_ | refine zL ?_ ?_)<;>intro h<;>try (exfalso;first | omega | exact h rfl | (revert h;decide) | (cases h;done)))
  | ((first | (with_reducible first | refine zW ?_ | refine zV ?_ | refine zU ?_ | refine zS ?_ | refine zX ?_ | show VX _ _ _ _ _ _ _ | show vstep _ _ _ _ _ | show vskip _ _ _ | show withV _ _ | apply qN | apply qR | refine zB default ?_ (by first | omega | (simp only [LN,rw2,iv];omega)) (by first | omega | (simp only [LN,rw2,iv];omega)) | refine zC default ?_ (by first | omega | (simp only [LN,rw2,iv];omega)) | refine qI ?_ (by first | decide | omega | assumption | (simp only [LN,rw2,iv];omega))) | ((with_reducible show pickE _ _ _);refine qA _ ?_));try simp -dsimp -implicitDefEqProofs (maxSteps:=1000000) (disch:=first | omega | (simp only [LN,rw2,iv];omega)) only [go_sem,rw2,iv])
 )
 refine ⟨⟨135,[rw2 5 u,rw2 97 (iv gs.length),rw2 98 (iv i),rw2 99 (.bool (decide ((i:Int)<gs.length))),rw2 6 v6,rw2 10 v10,rw2 15 v15,rw2 16 v16],[]⟩,by refine wk_auto ?_;simp -dsimp -implicitDefEqProofs (maxSteps:=1000000) (disch:=first | omega | (simp only [LN,rw2,iv];omega)) only [go_sem,rw2,iv],flat_of (by simp [rw2]),?_⟩
 refine l_cond (t:=99) rfl ?_ ?_
 ·intro hlt
  have hlt:i<hs.length:=by simpa [hg] using hlt
  refine l_seq2 (l_block (l_seq ?_))
  repeat' (first
   | (with_reducible first | refine zY ?_ | refine zT ?_ | refine zM ?_ | refine zN ?_ | refine zO ?_ | refine qK ?_ | (show False;omega))
   | ((with_reducible first | refine zP ?_ ?_ | refine zQ ?_ ?_ | refine zR ?_ ?_ | refine zL ?_ ?_)<;>intro h<;>try (exfalso;first | omega | exact h rfl | (revert h;decide) | (cases h;done)))
   | ((first | (with_reducible first | refine zW ?_ | refine zV ?_ | refine zU ?_ | refine zS ?_ | refine zX ?_ | show VX _ _ _ _ _ _ _ | show vstep _ _ _ _ _ | show vskip _ _ _ | show withV _ _ | apply qN | apply qR | refine zB default ?_ (by first | omega | (simp only [LN,rw2,iv];omega)) (by first | omega | (simp only [LN,rw2,iv];omega)) | refine zC default ?_ (by first | omega | (simp only [LN,rw2,iv];omega)) | refine qI ?_ (by first | decide | omega | assumption | (simp only [LN,rw2,iv];omega))) | ((with_reducible show pickE _ _ _);refine qA _ ?_));try simp -dsimp -implicitDefEqProofs (maxSteps:=1000000) (disch:=first | omega | (simp only [LN,rw2,iv];omega)) only [go_sem,rw2,iv])
  )
  refine ⟨⟨135,[rw2 5 u,rw2 97 (iv gs.length),rw2 98 (iv i),rw2 17 (iv i),rw2 6 v6,rw2 10 v10,rw2 15 v15,rw2 16 v16],[]⟩,by refine wk_auto ?_;simp -dsimp -implicitDefEqProofs (maxSteps:=1000000) (disch:=first | omega | (simp only [LN,rw2,iv];omega)) only [go_sem,rw2,iv],flat_of (by simp [rw2]),?_⟩
  refine l_view (t:=5) (by simp) ?_
  intro l h1 hm
  have hli:i<l.length:=by omega
  obtain ⟨base,cap,hm,hmb⟩:=hm i hlt
  generalize hxx:l.getD i default=x at *
  obtain ⟨m,hmm⟩:∃ m,m=x.ch.length:=⟨_,rfl⟩
  rw [← hmm] at hm hmb
  repeat' (first
   | (with_reducible first | refine zY ?_ | refine zT ?_ | refine zM ?_ | refine zN ?_ | refine zO ?_ | refine qK ?_ | (show False;omega))
   | ((with_reducible first | refine zP ?_ ?_ | refine zQ ?_ ?_ | refine zR ?_ ?_ | refine zL ?_ ?_)<;>intro h<;>try (exfalso;first | omega | exact h rfl | (revert h;decide) | (cases h;done)))
   | ((first | (with_reducible first | refine zW ?_ | refine zV ?_ | refine zU ?_ | refine zS ?_ | refine zX ?_ | show VX _ _ _ _ _ _ _ | show vstep _ _ _ _ _ | show vskip _ _ _ | show withV _ _ | apply qN | apply qR | refine zB default ?_ (by first | omega | (simp only [LN,h1,rw2,iv,hxx,← hmm,eE,aI];omega)) (by first | omega | (simp only [LN,h1,rw2,iv,hxx,← hmm,eE,aI];omega)) | refine zC default ?_ (by first | omega | (simp only [LN,h1,rw2,iv,hxx,← hmm,eE,aI];omega)) | refine qI ?_ (by first | decide | omega | assumption | (simp only [LN,h1,rw2,iv,hxx,← hmm,eE,aI];omega))) | ((with_reducible show pickE _ _ _);refine qA _ ?_));try simp -dsimp -implicitDefEqProofs (maxSteps:=1000000) (disch:=first | omega | (simp only [LN,h1,rw2,iv,hxx,← hmm,eE,aI];omega)) only [go_sem,h1,rw2,iv,hxx,← hmm,eE,aI])
  )
  refine ⟨⟨135,[rw2 97 (iv gs.length),rw2 98 (iv i),rw2 17 (iv i),rw2 106 (iv m),rw2 107 (iv 0),rw2 6 v6,rw2 10 v10,rw2 15 v15,rw2 16 v16],[]⟩,by refine wk_auto ?_;simp -dsimp -implicitDefEqProofs (maxSteps:=1000000) (disch:=first | omega | (simp only [LN,rw2,iv];omega)) only [go_sem,rw2,iv],flat_of (by simp [rw2]),?_⟩
  clear hxx hmm h1 hli
  refine l_bloop (S:=fun k:Nat=>⟨135,[rw2 5 u,rw2 97 (iv gs.length),rw2 98 (iv i),rw2 17 (iv i),rw2 106 (iv m),rw2 107 (iv k),rw2 6 v6,rw2 10 v10,rw2 15 v15,rw2 16 v16],[]⟩) (G:=fun _=>hs) (fun k=>k≤m) (fun k=>m - k) ?_ 0 (Nat.zero_le _)
  intro k hk
  refine l_seq ?_
  repeat' (first
   | (with_reducible first | refine zY ?_ | refine zT ?_ | refine zM ?_ | refine zN ?_ | refine zO ?_ | refine qK ?_ | (show False;omega))
   | ((with_reducible first | refine zP ?_ ?_ | refine zQ ?_ ?_ | refine zR ?_ ?_ | refine zL ?_ ?_)<;>intro h<;>try (exfalso;first | omega | exact h rfl | (revert h;decide) | (cases h;done)))
   | ((first | (with_reducible first | refine zW ?_ | refine zV ?_ | refine zU ?_ | refine zS ?_ | refine zX ?_ | show VX _ _ _ _ _ _ _ | show vstep _ _ _ _ _ | show vskip _ _ _ | show withV _ _ | apply qN | apply qR | refine zB default ?_ (by first | omega | (simp only [LN,rw2,iv];omega)) (by first | omega | (simp only [LN,rw2,iv];omega)) | refine zC default ?_ (by first | omega | (simp only [LN,rw2,iv];omega)) | refine qI ?_ (by first | decide | omega | assumption | (simp only [LN,rw2,iv];omega))) | ((with_reducible show pickE _ _ _);refine qA _ ?_));try simp -dsimp -implicitDefEqProofs (maxSteps:=1000000) (disch:=first | omega | (simp only [LN,rw2,iv];omega)) only [go_sem,rw2,iv])
  )
  refine ⟨⟨135,[rw2 5 u,rw2 97 (iv gs.length),rw2 98 (iv i),rw2 17 (iv i),rw2 106 (iv m),rw2 107 (iv k),rw2 108 (.bool (decide ((k:Int)<m))),rw2 6 v6,rw2 10 v10,rw2 15 v15,rw2 16 v16],[]⟩,by refine wk_auto ?_;simp -dsimp -implicitDefEqProofs (maxSteps:=1000000) (disch:=first | omega | (simp only [LN,rw2,iv];omega)) only [go_sem,rw2,iv],flat_of (by simp [rw2]),?_⟩
  refine l_cond (t:=108) rfl ?_ ?_
  ·intro hkm
   have hkm:k<m:=by simpa using hkm
   refine l_seq2 (l_block (l_seq ?_))
   repeat' (first
    | (with_reducible first | refine zY ?_ | refine zT ?_ | refine zM ?_ | refine zN ?_ | refine zO ?_ | refine qK ?_ | (show False;omega))
    | ((with_reducible first | refine zP ?_ ?_ | refine zQ ?_ ?_ | refine zR ?_ ?_ | refine zL ?_ ?_)<;>intro h<;>try (exfalso;first | omega | exact h rfl | (revert h;decide) | (cases h;done)))
    | ((first | (with_reducible first | refine zW ?_ | refine zV ?_ | refine zU ?_ | refine zS ?_ | refine zX ?_ | show VX _ _ _ _ _ _ _ | show vstep _ _ _ _ _ | show vskip _ _ _ | show withV _ _ | apply qN | apply qR | refine zB default ?_ (by first | omega | (simp only [LN,rw2,iv];omega)) (by first | omega | (simp only [LN,rw2,iv];omega)) | refine zC default ?_ (by first | omega | (simp only [LN,rw2,iv];omega)) | refine qI ?_ (by first | decide | omega | assumption | (simp only [LN,rw2,iv];omega))) | ((with_reducible show pickE _ _ _);refine qA _ ?_));try simp -dsimp -implicitDefEqProofs (maxSteps:=1000000) (disch:=first | omega | (simp only [LN,rw2,iv];omega)) only [go_sem,rw2,iv])
   )
   refine ⟨⟨135,[rw2 5 u,rw2 97 (iv gs.length),rw2 98 (iv i),rw2 17 (iv i),rw2 106 (iv m),rw2 107 (iv k),rw2 18 (iv k),rw2 6 v6,rw2 10 v10,rw2 15 v15,rw2 16 v16],[]⟩,by refine wk_auto ?_;simp -dsimp -implicitDefEqProofs (maxSteps:=1000000) (disch:=first | omega | (simp only [LN,rw2,iv];omega)) only [go_sem,rw2,iv],flat_of (by simp [rw2]),?_⟩
   refine l_byte (t:=5) (p:=119) (q:=118) rfl rfl rfl rfl (by simp) hlt ⟨base,cap,hm⟩ hkm ?_
   intro l h1 hlm
   have hzl:(l.zip hs).length=hs.length:=by rw [List.length_zip];omega
   have hzg:(l.zip hs).getD i default=(l.getD i default,hs.getD i (.slice none 0 0)):=by rw [List.getD_eq_getElem?_getD,zip_range h1 hlt];rfl
   generalize l.getD i default=x at *
   have hcg:∃ xb,x.ch.getD k default=xb:=⟨_,rfl⟩
   obtain ⟨xb,hcg⟩:=hcg
   repeat' (first
    | (with_reducible first | refine zY ?_ | refine zT ?_ | refine zM ?_ | refine zN ?_ | refine zO ?_ | refine qK ?_ | (show False;omega))
    | ((with_reducible first | refine zP ?_ ?_ | refine zQ ?_ ?_ | refine zR ?_ ?_ | refine zL ?_ ?_)<;>intro h<;>try (exfalso;first | omega | exact h rfl | (revert h;decide) | (cases h;done)))
    | ((first | (with_reducible first | refine zW ?_ | refine zV ?_ | refine zU ?_ | refine zS ?_ | refine zX ?_ | show VX _ _ _ _ _ _ _ | show vstep _ _ _ _ _ | show vskip _ _ _ | show withV _ _ | apply qN | apply qR | refine zB default ?_ (by first | omega | (simp only [LN,h1,rw2,iv,hzl,hzg,hlm,pE,eR,aI,hcg,eB];omega)) (by first | omega | (simp only [LN,h1,rw2,iv,hzl,hzg,hlm,pE,eR,aI,hcg,eB];omega)) | refine zC default ?_ (by first | omega | (simp only [LN,h1,rw2,iv,hzl,hzg,hlm,pE,eR,aI,hcg,eB];omega)) | refine qI ?_ (by first | decide | omega | assumption | (simp only [LN,h1,rw2,iv,hzl,hzg,hlm,pE,eR,aI,hcg,eB];omega))) | ((with_reducible show pickE _ _ _);refine qA _ ?_));try simp -dsimp -implicitDefEqProofs (maxSteps:=1000000) (disch:=first | omega | (simp only [LN,h1,rw2,iv,hzl,hzg,hlm,pE,eR,aI,hcg,eB];omega)) only [go_sem,h1,rw2,iv,hzl,hzg,hlm,pE,eR,aI,hcg,eB])
   )
   refine ⟨⟨135,[rw2 97 (iv gs.length),rw2 98 (iv i),rw2 17 (iv i),rw2 106 (iv m),rw2 107 (iv k),rw2 6 v6,rw2 10 v10,rw2 15 v15,rw2 16 v16],[]⟩,_,_,by rw [Nat.mul_one],rfl,by rw [wr8];omega,by refine wk_auto ?_;simp -dsimp -implicitDefEqProofs (maxSteps:=1000000) (disch:=first | omega | (simp only [LN,rw2,iv];omega)) only [go_sem,rw2,iv],flat_of (by simp [rw2]),?_⟩
   intro a w h1 h2
   refine l_end (s1:=⟨135,[rw2 5 u,rw2 97 (iv gs.length),rw2 98 (iv i),rw2 17 (iv i),rw2 106 (iv m),rw2 107 (iv (k+1)),rw2 6 v6,rw2 10 v10,rw2 15 v15,rw2 16 v16],[]⟩) ?_ (flat_of (by simp [rw2])) ?_ a w h1 h2
   ·have w3:IntKind.i64.wrap ((k:Int)+1)=((k+1:Nat):Int):=by rw [IntKind.wrap_i64];push_cast;omega
    unfold withT
    repeat' (first
     | (with_reducible first | refine zY ?_ | refine zT ?_ | refine zM ?_ | refine zN ?_ | refine zO ?_ | refine qK ?_ | (show False;omega))
     | ((with_reducible first | refine zP ?_ ?_ | refine zQ ?_ ?_ | refine zR ?_ ?_ | refine zL ?_ ?_)<;>intro h<;>try (exfalso;first | omega | exact h rfl | (revert h;decide) | (cases h;done)))
     | ((first | (with_reducible first | refine zW ?_ | refine zV ?_ | refine zU ?_ | refine zS ?_ | refine zX ?_ | show VX _ _ _ _ _ _ _ | show vstep _ _ _ _ _ | show vskip _ _ _ | show withV _ _ | apply qN | apply qR | refine zB default ?_ (by first | omega | (simp only [LN,rw2,iv,w3];omega)) (by first | omega | (simp only [LN,rw2,iv,w3];omega)) | refine zC default ?_ (by first | omega | (simp only [LN,rw2,iv,w3];omega)) | refine qI ?_ (by first | decide | omega | assumption | (simp only [LN,rw2,iv,w3];omega))) | ((with_reducible show pickE _ _ _);refine qA _ ?_));try simp -dsimp -implicitDefEqProofs (maxSteps:=1000000) (disch:=first | omega | (simp only [LN,rw2,iv,w3];omega)) only [go_sem,rw2,iv,w3])
    )
    refine wk_auto ?_
    simp -dsimp -implicitDefEqProofs (maxSteps:=1000000) (disch:=first | omega | (simp only [LN,rw2,iv,w3];omega)) only [go_sem,rw2,iv,w3]
   ·intro a w h1 h2
    exact ⟨k+1,by omega,by omega,h1,h2⟩
  ·intro _ a w h1 h2
   refine ⟨rfl,?_⟩
   refine l_end (s1:=⟨135,[rw2 5 u,rw2 97 (iv gs.length),rw2 98 (iv (i+1)),rw2 6 v6,rw2 10 v10,rw2 15 v15,rw2 16 v16],[]⟩) ?_ (flat_of (by simp [rw2])) ?_ a w h1 h2
   ·have w3:IntKind.i64.wrap ((i:Int)+1)=((i+1:Nat):Int):=by rw [IntKind.wrap_i64];push_cast;omega
    repeat' (first
     | (with_reducible first | refine zY ?_ | refine zT ?_ | refine zM ?_ | refine zN ?_ | refine zO ?_ | refine qK ?_ | (show False;omega))
     | ((with_reducible first | refine zP ?_ ?_ | refine zQ ?_ ?_ | refine zR ?_ ?_ | refine zL ?_ ?_)<;>intro h<;>try (exfalso;first | omega | exact h rfl | (revert h;decide) | (cases h;done)))
     | ((first | (with_reducible first | refine zW ?_ | refine zV ?_ | refine zU ?_ | refine zS ?_ | refine zX ?_ | show VX _ _ _ _ _ _ _ | show vstep _ _ _ _ _ | show vskip _ _ _ | show withV _ _ | apply qN | apply qR | refine zB default ?_ (by first | omega | (simp only [LN,rw2,iv,w3];omega)) (by first | omega | (simp only [LN,rw2,iv,w3];omega)) | refine zC default ?_ (by first | omega | (simp only [LN,rw2,iv,w3];omega)) | refine qI ?_ (by first | decide | omega | assumption | (simp only [LN,rw2,iv,w3];omega))) | ((with_reducible show pickE _ _ _);refine qA _ ?_));try simp -dsimp -implicitDefEqProofs (maxSteps:=1000000) (disch:=first | omega | (simp only [LN,rw2,iv,w3];omega)) only [go_sem,rw2,iv,w3])
    )
    refine wk_auto ?_
    simp -dsimp -implicitDefEqProofs (maxSteps:=1000000) (disch:=first | omega | (simp only [LN,rw2,iv,w3];omega)) only [go_sem,rw2,iv,w3]
   ·intro a w h1 h2
    exact ⟨(i+1,hs),⟨by show i+1≤_;omega,hg⟩,by show gs.length - (i+1)<gs.length - i;omega,h1,h2⟩
 ·intro _ a w h1 h2
  exact ⟨rfl,hq _ a w (flat_wk h1 h2 (by refine wk_auto ?_;simp -dsimp -implicitDefEqProofs (maxSteps:=1000000) (disch:=first | omega | (simp only [LN,rw2,iv];omega)) only [go_sem,rw2,iv]) (flat_of (by simp [rw2]))) h2⟩
end Go.Proofs.YtckhjklcfagkoaaGreatDoor
namespace Go.Proofs
open Go.Shelf
def Tryz.cloneM_ren:Go.Shelf.Ren:=⟨fun | 5=>65 | 7=>92 | n=>n,fun | 23=>120 | 25=>3 | 3=>32 | 4=>4 | 20=>20 | n=>n,fun | n=>n⟩
end Go.Proofs
namespace Go.Proofs.YtckhjklcfagkoaaGreatDoor
open Go Go.Ab
set_option maxRecDepth 100000
end Go.Proofs.YtckhjklcfagkoaaGreatDoor
