/- Contracts of functions of this program, and the plain facts that they rest on. No conditions. -/
import Derived.Test.YtckhjklcfagkoaaGreatDoorJScMQ
import Derived.Test.YtckhjklcfagkoaaGreatDoorJRvQQ
import Derived.Test.YtckhjklcfagkoaaGreatDoorKpMQ
import Derived.Test.YtckhjklcfagkoaaGreatDoorEnv2
import Derived.ProofKit
set_option linter.unusedSectionVars false
set_option linter.unusedSimpArgs false
set_option warn.classDefReducibility false
set_option linter.unusedVariables false
namespace Go.Proofs.YtckhjklcfagkoaaGreatDoor
open Go Go.Ab
attribute [local irreducible] callK callF loopQ vstep vskip pickE hideP
set_option maxRecDepth 100000
theorem bytes_of {es:List (List PV)} (g:∀ c,c∈es→Shp E.tys 3 5 c):∃ a:List UInt8,es.map (wrapP false)=a.map eB∧a.length=es.length:=by
 obtain ⟨a,e,hl,_⟩:=shp_list (f:=eB) (Q:=fun _=>True) (agg:=false) (es:=es) (fun c hc=>by
  have:=g c hc
  simp only [Shp,ty5,u5] at this
  obtain ⟨x,rfl,hx⟩:=this
  have hr:=rng_u8 hx
  refine ⟨UInt8.ofNat x.toNat,?_,trivial⟩
  have e:((UInt8.ofNat x.toNat).toNat:Int)=x:=by simp;omega
  show PV.v (.int .u8 x)=PV.v (.int .u8 ((UInt8.ofNat x.toNat).toNat:Int))
  rw [e])
 exact ⟨a,e,hl⟩
theorem ev_of {c:List PV} (h:Shp E.tys 5 35 c):∃ x:Ev,wrapP true c=rE x∧Rng x∧x.ch.length≤140737488355328:=by
 simp only [Shp,ty35,u35,shpF,ty3,u3,ty32,u32,ty33,u33] at h
 obtain ⟨_,_,rfl,⟨x1,rfl,h1⟩,_,_,rfl,⟨x2,rfl,h2⟩,_,_,rfl,⟨x3,rfl,h3⟩,_,_,rfl,⟨x4,rfl,h4⟩,_,_,rfl,⟨x5,rfl,h5⟩,_,_,rfl,⟨x6,rfl,h6⟩,_,_,rfl,⟨x7,rfl,h7⟩,_,_,rfl,⟨es,rfl,hl,g⟩,rfl⟩:=h
 obtain ⟨a,e,hla⟩:=bytes_of g
 have r1:=rng_u64 h3
 have r2:=rng_u64 h4
 have r3:=rng_u64 h5
 refine ⟨⟨x1,x2,x3,x4,x5,x6,x7,a⟩,?_,⟨h2,r1,r2,r3,h6,h7⟩,?_⟩
 ·show PV.agg _=PV.agg _
  congr 1
  show [PV.v (.int .i64 x1),PV.v (.int .i64 x2),PV.v (.int .u64 x3),PV.v (.int .u64 x4),PV.v (.int .u64 x5),PV.v (.int .i64 x6),PV.v (.int .i64 x7),_]=[PV.v (.int .i64 x1),PV.v (.int .i64 x2),PV.v (.int .u64 x3),PV.v (.int .u64 x4),PV.v (.int .u64 x5),PV.v (.int .i64 x6),PV.v (.int .i64 x7),PV.view 1 (a.map eB)]
  rw [← e]
  rfl
 ·show a.length≤_
  rw [hla]
  have:es.length*1≤reachBytes:=hl
  simp only [reachBytes] at this
  omega
end Go.Proofs.YtckhjklcfagkoaaGreatDoor
namespace Go.Proofs.YtckhjklcfagkoaaGreatDoor
open Go Go.Ab
attribute [local irreducible] callK callF loopQ vstep vskip pickE hideP
open Go.RowKit
set_option maxRecDepth 100000
theorem evs_of {es:List (List PV)} (g:∀ c,c∈es→Shp E.tys 5 35 c):∃ l:List Ev,es.map (wrapP true)=l.map rE∧∀ x,x∈l→Rng x∧x.ch.length≤140737488355328:=by
 obtain ⟨l,e0,_,q⟩:=shp_list (f:=rE) (Q:=fun x=>Rng x∧x.ch.length≤140737488355328) (agg:=true) (es:=es) (fun c hc=>by
  obtain ⟨x,e,R,hx⟩:=ev_of (g c hc)
  exact ⟨x,e,R,hx⟩)
 exact ⟨l,e0,q⟩
end Go.Proofs.YtckhjklcfagkoaaGreatDoor
namespace Go.Proofs.YtckhjklcfagkoaaGreatDoor
end Go.Proofs.YtckhjklcfagkoaaGreatDoor
namespace Go.Proofs.YtckhjklcfagkoaaGreatDoor
open Go Go.Ab
theorem gl_of {W:World} (hs:W.ShapedOpen Tryz.prog) {rest:List (String × DataW Unit)} (hl:laidMet Tryz.prog (("internal/strconv.uint64pow10",Lib.tabData .u64 Lib.pow10Tab)::rest) W):Glob.G (Zall W) W:=by
 have h1:Lib.TabIs Tryz.prog W "internal/strconv.uint64pow10" .u64 Lib.pow10Tab :=
  Lib.tabIs_of_head (g:=1) (t:=202) (e:=32) (n:=20) gn0 (by kernel_rfl) (by kernel_rfl) (by kernel_rfl) (by kernel_rfl) (by kernel_rfl) hl
 obtain ⟨m,h2⟩:=cell_of_shapedOpen_int (g:=0) (t:=3) (zero:=#[.int .i64 0]) (k:=.i64) hs (of_decide_eq_true (by kernel_rfl)) (by kernel_rfl) rfl (by kernel_rfl) (by kernel_rfl) (by kernel_rfl)
 exact ⟨⟨tabIs_lt gn0 h1,cell_lt h2⟩,h1,m,h2⟩
end Go.Proofs.YtckhjklcfagkoaaGreatDoor
