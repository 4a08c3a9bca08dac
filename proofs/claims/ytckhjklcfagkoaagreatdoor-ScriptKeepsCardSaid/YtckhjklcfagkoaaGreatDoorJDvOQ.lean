/- Contracts of functions of this program, and the plain facts that they rest on. No conditions. -/
import Derived.Test.YtckhjklcfagkoaaGreatDoorJDvR0Q
import Derived.Test.YtckhjklcfagkoaaGreatDoorJDvAQ
import Derived.Test.YtckhjklcfagkoaaGreatDoorJScGQ
import Derived.Test.YtckhjklcfagkoaaGreatDoorJDvSQ
set_option linter.unusedSimpArgs false
set_option linter.unusedVariables false
namespace Go.Proofs.YtckhjklcfagkoaaGreatDoor
open Go Go.Ab
attribute [local irreducible] callK callF loopQ vstep vskip pickE hideP
set_option maxRecDepth 100000
attribute [local go_sem] eU eC deO peO cuO liO thO hiO noO
def bytU (l:List UInt8) (o k:Nat):Nat:=(l.getD (o+k) 0).toNat
def wrdU (l:List UInt8) (o:Nat):Nat→Nat
 | 0=>0
 | k+1=>wrdU l o k+bytU l o k*256 ^ k
theorem bytU_lt (l:List UInt8) (o k:Nat):bytU l o k<256:=by unfold bytU;exact UInt8.toNat_lt _
theorem wrdU_lt (l:List UInt8) (o:Nat):∀ k,wrdU l o k<256 ^ k
 | 0=>by simp [wrdU]
 | k+1=>by
  have h1:=wrdU_lt l o k
  have h2:=bytU_lt l o k
  have h3:bytU l o k*256 ^ k≤255*256 ^ k:=Nat.mul_le_mul_right _ (by omega)
  rw [wrdU,Nat.pow_succ];omega
theorem borU_add (a b:Int) (i:Nat) (ha0:0≤a) (ha:a<2 ^ i) (hb:0≤b) (hab:a+b*2 ^ i<18446744073709551616) :
  ((BitVec.ofInt 64 a ||| BitVec.ofInt 64 (b*2 ^ i)).toNat:Int)=a+b*2 ^ i:=by
 obtain ⟨m,rfl⟩:=Int.eq_ofNat_of_zero_le ha0
 obtain ⟨n,rfl⟩:=Int.eq_ofNat_of_zero_le hb
 have e:((n:Int)*2 ^ i)=((n*2 ^ i:Nat):Int):=by simp
 rw [e] at hab ⊢
 have hm:m<2 ^ i:=by exact_mod_cast ha
 have hs:m+n*2 ^ i<2 ^ 64:=by omega
 rw [BitVec.toNat_or,BitVec.ofInt_natCast,BitVec.ofInt_natCast,BitVec.toNat_ofNat,BitVec.toNat_ofNat,Nat.mod_eq_of_lt (by omega),Nat.mod_eq_of_lt (by omega)]
 have:=Nat.shiftLeft_add_eq_or_of_lt hm n
 rw [Nat.shiftLeft_eq] at this
 rw [Nat.or_comm,← this]
 push_cast;omega
theorem pow8U (k:Nat):(2:Int) ^ (8*k)=((256 ^ k:Nat):Int):=by rw [Int.pow_mul,Int.natCast_pow];rfl
theorem wrd_core (a b q i:Nat) (hq:(2:Int) ^ i=(q:Int)) (h1:b<256) (h2:a<q) (h3:a+b*q<18446744073709551616) :
  IntKind.u64.wrap ((BitVec.ofInt 64 (a:Int) ||| BitVec.ofInt 64 (IntKind.u64.wrap (IntKind.u64.wrap (b:Int)*2 ^ i))).toNat:Int)=((a+b*q:Nat):Int):=by
 have e1:IntKind.u64.wrap (b:Int)=b:=by rw [IntKind.wrap_u64];omega
 have e2:(b:Int)*2 ^ i=((b*q:Nat):Int):=by rw [hq,Int.natCast_mul]
 have e3:IntKind.u64.wrap ((b:Int)*2 ^ i)=(b:Int)*2 ^ i:=by rw [e2,IntKind.wrap_u64];omega
 have e4:=borU_add a b i (by omega) (by rw [hq];omega) (by omega) (by rw [e2];omega)
 rw [e1,e3,e4,e2,IntKind.wrap_u64]
 omega
def fW (p:List UInt8) (m i:Nat):List Int:=(List.range m).map fun j=>((wrdU p (8*j) (min 8 (i - 8*j)):Nat):Int)
theorem fW_len (p:List UInt8) (m i:Nat):(fW p m i).length=m:=by simp [fW]
theorem fW_0 (p:List UInt8) (m:Nat):List.replicate m (PV.v (.int .u64 0))=(fW p m 0).map eU:=by
 unfold fW
 apply List.ext_getElem (by simp)
 intro i h1 h2
 simp [wrdU,eU]
theorem fW_get (p:List UInt8) (m i j:Nat) (hj:j<m) (d:Int):(fW p m i).getD j d=((wrdU p (8*j) (min 8 (i - 8*j)):Nat):Int):=by
 unfold fW;simp [List.getD_eq_getElem?_getD,hj]
theorem fW_s (p:List UInt8) (m i:Nat) (hi:i<8*m) (x:Int) (hx:x=((wrdU p (8*(i / 8)) (i % 8+1):Nat):Int)):((fW p m i).map eU).set (i / 8) (.v (.int .u64 x))=(fW p m (i+1)).map eU:=by
 subst hx
 unfold fW
 apply List.ext_getElem (by simp)
 intro j h1 h2
 rw [List.getElem_set]
 simp only [List.getElem_map,List.getElem_range,eU]
 by_cases e:i / 8=j
 ·subst e;rw [if_pos rfl,show min 8 (i+1 - 8*(i / 8))=i % 8+1 by omega]
 ·rw [if_neg e]
  by_cases h:j<i / 8
  ·rw [show min 8 (i - 8*j)=8 by omega,show min 8 (i+1 - 8*j)=8 by omega]
  ·rw [show min 8 (i - 8*j)=0 by omega,show min 8 (i+1 - 8*j)=0 by omega]
end Go.Proofs.YtckhjklcfagkoaaGreatDoor
namespace Go.Proofs.YtckhjklcfagkoaaGreatDoor
set_option maxHeartbeats 4000000
set_option maxRecDepth 100000
open Go Go.Ab
attribute [local irreducible] callK callF loopQ vstep vskip pickE hideP
attribute [local go_sem] eU eC deO peO cuO liO thO hiO noO
theorem dFrom6s (p:List UInt8) (n:Nat) (hp:p.length=64*n) (hn:0<n∧n≤6):ACalls Tryz.prog 82 [.sl 0 1 0 p.length] [.arr 1 (p.map eC)] (.tup [.loc 1 0,.p (.v (.int .i64 0))]) [.arr 1 (p.map eC),deO (Dv.fresh n (fW p (8*n) p.length)) 2 3 4 5,peO (Dv.fresh n (fW p (8*n) p.length)),cuO (Dv.fresh n (fW p (8*n) p.length)),liO (Dv.fresh n (fW p (8*n) p.length)) J0 13,thO (Dv.fresh n (fW p (8*n) p.length)) 0 1 19,thO (Dv.fresh n (fW p (8*n) p.length)) 1 1 19,thO (Dv.fresh n (fW p (8*n) p.length)) 2 1 19,thO (Dv.fresh n (fW p (8*n) p.length)) 3 1 19,thO (Dv.fresh n (fW p (8*n) p.length)) 4 1 19,thO (Dv.fresh n (fW p (8*n) p.length)) 5 1 19,thO (Dv.fresh n (fW p (8*n) p.length)) 6 1 19,thO (Dv.fresh n (fW p (8*n) p.length)) 7 1 19,hiO (Dv.fresh n (fW p (8*n) p.length)) J0 0,hiO (Dv.fresh n (fW p (8*n) p.length)) J0 1,hiO (Dv.fresh n (fW p (8*n) p.length)) J0 2,hiO (Dv.fresh n (fW p (8*n) p.length)) J0 3,hiO (Dv.fresh n (fW p (8*n) p.length)) J0 4,hiO (Dv.fresh n (fW p (8*n) p.length)) J0 5,noO (Dv.fresh n (fW p (8*n) p.length)) 0,noO (Dv.fresh n (fW p (8*n) p.length)) 1,noO (Dv.fresh n (fW p (8*n) p.length)) 2,noO (Dv.fresh n (fW p (8*n) p.length)) 3,noO (Dv.fresh n (fW p (8*n) p.length)) 4,noO (Dv.fresh n (fW p (8*n) p.length)) 5,noO (Dv.fresh n (fW p (8*n) p.length)) 6,noO (Dv.fresh n (fW p (8*n) p.length)) 7]:=by
 refine yA (E:=E) (fn:=Tryz.f82) 48 [.tmp 2,.tmp 3] rfl rfl rfl rfl (by decide) rfl rfl ?_
 have e1:IntKind.i64.wrap ((p.length:Int).tmod 64)=0:=by rw [show ((p.length:Int).tmod 64)=((p.length % 64:Nat):Int) from rfl,IntKind.wrap_i64];omega
 have e2:IntKind.i64.wrap ((p.length:Int).tdiv 64)=(n:Int):=by rw [show ((p.length:Int).tdiv 64)=((p.length / 64:Nat):Int) from rfl,IntKind.wrap_i64];omega
 have e3:IntKind.i64.wrap ((p.length:Int).tdiv 8)=((8*n:Nat):Int):=by rw [show ((p.length:Int).tdiv 8)=((p.length / 8:Nat):Int) from rfl,IntKind.wrap_i64];omega
 have e4:¬ ((p.length:Int)=0):=by omega
 have e6:((p.length:Int).tmod 64)=0:=by rw [show ((p.length:Int).tmod 64)=((p.length % 64:Nat):Int) from rfl];omega
 have e7:((p.length:Int).tdiv 64)=(n:Int):=by rw [show ((p.length:Int).tdiv 64)=((p.length / 64:Nat):Int) from rfl];omega
 have e8:((p.length:Int).tdiv 8)=((8*n:Nat):Int):=by rw [show ((p.length:Int).tdiv 8)=((p.length / 8:Nat):Int) from rfl];omega
 have e5:¬ (4096<(n:Int)):=by omega
 repeat' (first
  | (with_reducible first | apply zY | apply zT | apply zM | apply zN | apply zO | refine qK ?_ | (show False;omega))
  | ((with_reducible first | apply zP | apply zQ | apply zR | apply zL)<;>intro h<;>try (exfalso;first | omega | exact h rfl | (revert h;decide) | (cases h;done)))
  | ((first | (with_reducible first | apply zW | apply zV | apply zU | apply zS | apply zX | show VX _ _ _ _ _ _ _ | show vstep _ _ _ _ _ | show vskip _ _ _ | show withV _ _ | apply qN | apply qR | refine zB default ?_ (by first | omega | (simp only [LN,e1,e2,e3,e4,e5,e6,e7,e8];omega)) (by first | omega | (simp only [LN,e1,e2,e3,e4,e5,e6,e7,e8];omega)) | refine zC default ?_ (by first | omega | (simp only [LN,e1,e2,e3,e4,e5,e6,e7,e8];omega)) | refine qI ?_ (by first | decide | omega | assumption | (simp only [LN,e1,e2,e3,e4,e5,e6,e7,e8];omega))) | ((with_reducible show pickE _ _ _);refine qA _ ?_));try simp -dsimp -implicitDefEqProofs (maxSteps:=1000000) (disch:=first | omega | (simp only [LN,e1,e2,e3,e4,e5,e6,e7,e8];omega)) only [go_sem,e1,e2,e3,e4,e5,e6,e7,e8])
 )
 all_goals try (exfalso;omega)
 refine r_loopA (α:=Nat) [4,24,25] (fun i b=>[(26,aI i)]) (fun i b=>[(4,.arr 1 ((fW p (8*n) i).map eU))]) (fun i=>[]) (fun i=>i≤p.length) (fun i=>p.length - i) (0) ?h0_1 ?hs0_1 ?I_1 ?hI_1 ?round_1
 case hI_1=>intro x;(simp -dsimp -implicitDefEqProofs (maxSteps:=1000000) (disch:=first | omega | (simp only [LN];omega)) only [go_sem])<;>exact rfl
 case hs0_1=>refine wk_auto ?_;(simp -dsimp -implicitDefEqProofs (maxSteps:=1000000) (disch:=first | omega | (simp only [LN,fW_0 p (8*n)];omega)) only [go_sem,fW_0 p (8*n)])<;>(try omega)
 case h0_1=>exact Nat.zero_le _
 case round_1 =>
  intro i h1
  by_cases hi:i<p.length
  ·have e1:IntKind.i64.wrap ((i:Int).tdiv 8)=((i / 8:Nat):Int):=by rw [show ((i:Int).tdiv 8)=((i / 8:Nat):Int) from rfl,IntKind.wrap_i64];omega
   have e2:(i:Int).tmod 8=((i % 8:Nat):Int):=rfl
   have e3:IntKind.i64.wrap (((i % 8:Nat):Int)*8)=((i % 8*8:Nat):Int):=by rw [IntKind.wrap_i64];omega
   have e4:((i:Int) / 8).toNat=i / 8:=by omega
   have hl:=fW_len p (8*n) i
   have e5:(IntKind.u64.wrap ((i % 8*8:Nat):Int)).toNat=i % 8*8:=by rw [IntKind.wrap_u64];omega
   have e6:min (i % 8*8) 64=i % 8*8:=by omega
   have hq:=wrdU_lt p (8*(i / 8)) (i % 8+1)
   have h4:(256:Nat) ^ (i % 8+1)≤256 ^ 8:=Nat.pow_le_pow_right (by decide) (by omega)
   have h5:(256:Nat) ^ 8=18446744073709551616:=by decide
   have e7:=wrd_core (wrdU p (8*(i / 8)) (i % 8)) (bytU p (8*(i / 8)) (i % 8)) (256 ^ (i % 8)) (i % 8*8) (by rw [Nat.mul_comm];exact pow8U _) (bytU_lt _ _ _) (wrdU_lt _ _ _) (Nat.lt_of_lt_of_le hq (h5 ▸ h4))
   have e8:(fW p (8*n) i).getD (i / 8) default=((wrdU p (8*(i / 8)) (i % 8):Nat):Int):=by
    rw [fW_get _ _ _ _ (by omega),show min 8 (i - 8*(i / 8))=i % 8 by omega]
   have e9:(p.getD i default).toNat=bytU p (8*(i / 8)) (i % 8):=by unfold bytU;rw [show 8*(i / 8)+i % 8=i by omega];rfl
   have hs:=fW_s p (8*n) i (by omega) _ e7
   repeat' (first
    | (with_reducible first | apply zY | apply zT | apply zM | apply zN | apply zO | refine qK ?_ | (show False;omega))
    | ((with_reducible first | apply zP | apply zQ | apply zR | apply zL)<;>intro h<;>try (exfalso;first | omega | exact h rfl | (revert h;decide) | (cases h;done)))
    | ((first | (with_reducible first | apply zW | apply zV | apply zU | apply zS | apply zX | show VX _ _ _ _ _ _ _ | show vstep _ _ _ _ _ | show vskip _ _ _ | show withV _ _ | apply qN | apply qR | refine zB default ?_ (by first | omega | (simp only [LN,e1,e2,e3,e4,hl,e5,e6,e8,e9];omega)) (by first | omega | (simp only [LN,e1,e2,e3,e4,hl,e5,e6,e8,e9];omega)) | refine zC default ?_ (by first | omega | (simp only [LN,e1,e2,e3,e4,hl,e5,e6,e8,e9];omega)) | refine qI ?_ (by first | decide | omega | assumption | (simp only [LN,e1,e2,e3,e4,hl,e5,e6,e8,e9];omega))) | ((with_reducible show pickE _ _ _);refine qA _ ?_));try simp -dsimp -implicitDefEqProofs (maxSteps:=1000000) (disch:=first | omega | (simp only [LN,e1,e2,e3,e4,hl,e5,e6,e8,e9];omega)) only [go_sem,e1,e2,e3,e4,hl,e5,e6,e8,e9])
   )
   all_goals first | omega | ((refine zZ (i+1) ?_ ?_ ?_;(omega);(show _<_;omega);(simp -dsimp -implicitDefEqProofs (maxSteps:=1000000) (disch:=first | omega | (simp only [LN,hs];omega)) only [go_sem,hs];try trivial));exact .inl hs)
  ·obtain rfl:i=p.length:=by omega
   repeat' (first
    | (with_reducible first | apply zY | apply zT | apply zM | apply zN | apply zO | refine qK ?_ | (show False;omega))
    | ((with_reducible first | apply zP | apply zQ | apply zR | apply zL)<;>intro h<;>try (exfalso;first | omega | exact h rfl | (revert h;decide) | (cases h;done)))
    | ((first | (with_reducible first | apply zW | apply zV | apply zU | apply zS | apply zX | show VX _ _ _ _ _ _ _ | show vstep _ _ _ _ _ | show vskip _ _ _ | show withV _ _ | apply qN | apply qR | refine zB default ?_ (by first | omega | (simp only [LN,fW_len];omega)) (by first | omega | (simp only [LN,fW_len];omega)) | refine zC default ?_ (by first | omega | (simp only [LN,fW_len];omega)) | refine qI ?_ (by first | decide | omega | assumption | (simp only [LN,fW_len];omega))) | (with_reducible first | apply zG | apply zH | apply zI) | ((with_reducible apply zJ);(first | exact dOf6 _ n (fW_len _ _ _) hn)) | ((with_reducible show pickE _ _ _);refine qA _ ?_));try simp -dsimp -implicitDefEqProofs (maxSteps:=1000000) (disch:=first | omega | (simp only [LN,fW_len];omega)) only [go_sem,fW_len])
   )
   all_goals first | omega | (simp [Dv.fresh,jk];done)
def pB (ws:List Int) (m:Nat):List UInt8:=(List.range m).map fun j=>UInt8.ofNat (byW ws j).toNat
theorem pB_len (ws:List Int) (m:Nat):(pB ws m).length=m:=by simp [pB]
theorem byL_pB (ws:List Int) (m:Nat):byL ws m m=(pB ws m).map eC:=by
 unfold byL pB eC
 rw [List.map_map]
 refine List.map_congr_left fun j hj=>?_
 have hj:=List.mem_range.1 hj
 simp only [Function.comp_def,hj,if_true]
 congr 2
 unfold byW
 rw [IntKind.wrap_u8]
 have h0:0≤ws.getD (j / 8) 0 / 2 ^ (j % 8*8) % 256:=Int.emod_nonneg _ (by decide)
 have h1:ws.getD (j / 8) 0 / 2 ^ (j % 8*8) % 256<256:=Int.emod_lt_of_pos _ (by decide)
 generalize ws.getD (j / 8) 0 / 2 ^ (j % 8*8) % 256=x at *
 simp;omega
def imgC (A:Dv) (c:List UInt8):List Int:=if c.length=0 then A.per else imgW A c (dirL A A.n).length
theorem imgC_len (A:Dv) (c:List UInt8):(imgC A c).length=A.per.length:=by
 unfold imgC;split
 ·rfl
 ·exact imgW_len _ _ _
theorem dImage6n (A:Dv) (J:JT) (h:WF A) (c:List UInt8) (hc:c.length=0):ACalls Tryz.prog 83 [.loc 0 0,.p (.view 1 (c.map eC))] (dvL A J) (.sl 26 1 0 (64*A.n)) (dvL A J++[.arr 1 (byL A.per (64*A.n) (64*A.n))]):=by
 refine yA (E:=E) (fn:=Tryz.f83) 56 [.tmp 4] rfl rfl rfl rfl (by decide) rfl rfl ?_
 have h6:=h.n6
 have h0:=h.n0
 have hp:=h.per
 have k75:=dClone A.per (by omega)
 rw [hp] at k75
 have kb:=dBytes A.per (by omega)
 rw [hp,show 8*(8*A.n)=64*A.n by omega] at kb
 repeat' (first
  | (with_reducible first | apply zY | apply zT | apply zM | apply zN | apply zO | refine qK ?_ | (show False;omega))
  | ((with_reducible first | apply zP | apply zQ | apply zR | apply zL)<;>intro h<;>try (exfalso;first | omega | exact h rfl | (revert h;decide) | (cases h;done)))
  | ((first | (with_reducible first | apply zW | apply zV | apply zU | apply zS | apply zX | show VX _ _ _ _ _ _ _ | show vstep _ _ _ _ _ | show vskip _ _ _ | show withV _ _ | apply qN | apply qR | refine zB default ?_ | refine zC default ?_ | refine qI ?_) | (with_reducible first | apply zG | apply zH | apply zI) | ((with_reducible apply zJ);(first | exact k75 | exact kb)) | ((with_reducible show pickE _ _ _);refine qA _ ?_));try simp -dsimp -implicitDefEqProofs (maxSteps:=1000000) (disch:=first | omega | (simp only [LN];omega)) only [go_sem])
 )
 all_goals first | omega
theorem dImageC (A:Dv) (J:JT) (h:WF A) (hj:∀ r,r<6→(jk A J r).length≤1000000000) (c:List UInt8) (hc:c.length≤100000):ACalls Tryz.prog 83 [.loc 0 0,.p (.view 1 (c.map eC))] (dvL A J) (.sl 26 1 0 (64*A.n)) (dvL A J++[.arr 1 ((pB (imgC A c) (64*A.n)).map eC)]):=by
 rw [← byL_pB]
 unfold imgC
 by_cases h0:c.length=0
 ·rw [if_pos h0];exact dImage6n A J h c h0
 ·rw [if_neg h0];exact dImage6 A J h hj c ⟨by omega,hc⟩
def Dv.crash (A:Dv) (c:List UInt8):Dv:=Dv.fresh A.n (fW (pB (imgC A c) (64*A.n)) (8*A.n) (64*A.n))
theorem dCrash6 (A:Dv) (J:JT) (h:WF A) (hj:∀ r,r<6→(jk A J r).length≤1000000000) (c:List UInt8) (hc:c.length≤100000):ACalls Tryz.prog 37 [.loc 0 0,.p (.view 1 (c.map eC))] (dvL A J) (.loc 26 0) (dvL A J++[deO (A.crash c) 27 28 29 30,peO (A.crash c),cuO (A.crash c),liO (A.crash c) J0 38,thO (A.crash c) 0 26 44,thO (A.crash c) 1 26 44,thO (A.crash c) 2 26 44,thO (A.crash c) 3 26 44,thO (A.crash c) 4 26 44,thO (A.crash c) 5 26 44,thO (A.crash c) 6 26 44,thO (A.crash c) 7 26 44,hiO (A.crash c) J0 0,hiO (A.crash c) J0 1,hiO (A.crash c) J0 2,hiO (A.crash c) J0 3,hiO (A.crash c) J0 4,hiO (A.crash c) J0 5,noO (A.crash c) 0,noO (A.crash c) 1,noO (A.crash c) 2,noO (A.crash c) 3,noO (A.crash c) 4,noO (A.crash c) 5,noO (A.crash c) 6,noO (A.crash c) 7]):=by
 refine yA (E:=E) (fn:=Tryz.f37) 19 [.tmp 4] rfl rfl rfl rfl (by decide) rfl rfl ?_
 have h6:=h.n6
 have h0:=h.n0
 have ki:=dImageC A J h hj c hc
 have kf:=dFrom6s (pB (imgC A c) (64*A.n)) A.n (pB_len _ _) ⟨h0,h6⟩
 rw [pB_len] at kf
 repeat' (first
  | (with_reducible first | apply zY | apply zT | apply zM | apply zN | apply zO | refine qK ?_ | (show False;omega))
  | ((with_reducible first | apply zP | apply zQ | apply zR | apply zL)<;>intro h<;>try (exfalso;first | omega | exact h rfl | (revert h;decide) | (cases h;done)))
  | ((first | (with_reducible first | apply zW | apply zV | apply zU | apply zS | apply zX | show VX _ _ _ _ _ _ _ | show vstep _ _ _ _ _ | show vskip _ _ _ | show withV _ _ | apply qN | apply qR | refine zB default ?_ (by first | omega | (simp only [LN,pB_len];omega)) (by first | omega | (simp only [LN,pB_len];omega)) | refine zC default ?_ (by first | omega | (simp only [LN,pB_len];omega)) | refine qI ?_ (by first | decide | omega | assumption | (simp only [LN,pB_len];omega))) | (with_reducible first | apply zG | apply zH | apply zI) | ((with_reducible apply zJ);(first | exact ki | exact kf)) | ((with_reducible show pickE _ _ _);refine qA _ ?_));try simp -dsimp -implicitDefEqProofs (maxSteps:=1000000) (disch:=first | omega | (simp only [LN,pB_len];omega)) only [go_sem,pB_len])
 )
 all_goals first | omega | (simp [Dv.crash];done)
end Go.Proofs.YtckhjklcfagkoaaGreatDoor
namespace Go.Proofs.YtckhjklcfagkoaaGreatDoor
set_option maxHeartbeats 4000000
set_option maxRecDepth 100000
open Go Go.Ab
attribute [local irreducible] callK callF loopQ vstep vskip pickE hideP
attribute [local go_sem] eE eU deO peO cuO liO thO hiO noO
theorem store_n (A:Dv) (k:Nat) (o v:Int):(A.store k o v).n=A.n:=by
 unfold Dv.store;split
 ·exact (cnt_p A k _).1
 ·exact (cnt_p A k _).1
theorem cas_n (A:Dv) (k:Nat) (o w v:Int):(A.cas k o w v).n=A.n:=by
 unfold Dv.cas;split
 ·exact (cnt_p A k _).1
 ·exact (cnt_p A k _).1
theorem flush_n (A:Dv) (k:Nat) (o:Int):(A.flush k o).n=A.n:=by
 unfold Dv.flush;split
 ·exact (cnt_p A k _).1
 ·exact (cnt_p A k _).1
theorem fence_n (A:Dv) (k:Nat):(A.fence k).n=A.n:=by
 unfold Dv.fence;split
 ·exact (cnt_p A k _).1
 ·exact (cnt_p A k _).1
theorem isW_n {A B:Dv} (h:B.n=A.n) (o:Int):B.isW o=A.isW o:=by unfold Dv.isW;rw [h]
theorem Inv.cas {A:Dv} {J:JT} {N:Nat} (h:Inv A J N) (hN:N<1000000000) (k:Nat) {o w v:Int} (ho:0≤o) (hv:0≤v∧v≤18446744073709551615) (g:Bool):Inv (A.cas k o w v) (jcas A J k o w g) (N+1):=by
 unfold Dv.cas jcas
 split
 ·rename_i hc
  have hc2:A.cntB (A.isW o)=true:=by unfold Dv.casB at hc;simp only [Bool.and_eq_true] at hc;exact hc.1
  obtain ⟨h1,h2,h3⟩:=isW_of (cntB_of hc2) ho
  exact (h.cnt k _).put hN (by rw [(cnt_p A k _).1];exact h1) ⟨h2,h3,ho⟩ hv g
 ·exact (h.cnt k _).le (by omega)
theorem Inv.persist {A:Dv} {J:JT} {N:Nat} (h:Inv A J N) {r k:Nat} (hr:r<A.n) (hk:k≤(A.hist r).length):Inv (A.persist r k) (jper A J r k) N:=by
 have hw:=h.wf
 have h6:=hw.n6
 have hs:∀ i,i<6→(A.persist r k).done i+((A.persist r k).hist i).length=A.done i+(A.hist i).length:=by
  intro i hi
  rw [per_done,per_hist]
  split
  ·rename_i e;subst e;rw [List.length_drop];omega
  ·rfl
 have h0:∀ i,i<6→0≤A.done i:=fun i hi=>(hw.len i hi).1
 refine ⟨⟨hw.n0,hw.n6,?_,hw.cur,?_,?_,?_,trivial⟩,?_,h.jo.persist h0 r k hk,?_⟩
 ·show (appL A.per _).length=8*A.n;rw [appL_len];exact hw.per
 ·intro i hi x hx
  rw [per_hist] at hx
  split at hx
  ·rename_i e;subst e;exact hw.hist i hi x (List.mem_of_mem_drop hx)
  ·exact hw.hist i hi x hx
 ·intro i h1 h2
  rw [per_hist,if_neg (by have:A.n≤i:=h1;omega)]
  exact hw.top i h1 h2
 ·intro i hi
  have h1:=hs i hi
  have h2:=hw.len i hi
  refine ⟨?_,by omega⟩
  rw [per_done];split
  ·rename_i e;subst e;omega
  ·exact h2.1
 ·intro q hq x v hx
  obtain ⟨i,h1,h2,h3,h4⟩:=h.no q hq x v hx
  exact ⟨i,h1,h2,h3,by have:=hs i (by omega);omega⟩
 ·intro i hi
  have h1:=hs i hi
  have h2:=h.bd i hi
  omega
theorem Inv.wb {A:Dv} {J:JT} {N:Nat} (h:Inv A J N) (r k:Int):Inv (A.wb r k) (jwb A J r k) N:=by
 unfold Dv.wb jwb
 split
 ·rename_i hb
  simp only [Dv.wbB,Bool.and_eq_true,Bool.not_eq_true',decide_eq_true_eq] at hb
  exact h.persist (by omega) (by omega)
 ·exact h
theorem Inv.arm {A:Dv} {J:JT} {N:Nat} (h:Inv A J N) (n:Int):Inv (A.arm n) J N:=by
 have hw:=h.wf
 unfold Dv.arm
 split
 ·exact h
 ·exact ⟨⟨hw.n0,hw.n6,hw.per,hw.cur,hw.hist,hw.top,hw.len,trivial⟩,h.no,h.jo,h.bd⟩
theorem Inv.crash {A:Dv} {J:JT} {N M:Nat} (h:Inv A J N) (c:List UInt8):Inv (A.crash c) J0 M :=
 (Inv.fresh A.n _ h.wf.n0 h.wf.n6 (fW_len _ _ _)).le (Nat.zero_le _)
noncomputable def Dv.step (A:Dv) (x:Ev):Dv :=
 if okE x=true then
  (if x.k=1 then A.store x.th.toNat x.o x.v
    else if x.k=2 then A.cas x.th.toNat x.o x.w x.v
    else if x.k=3 then A.flush x.th.toNat x.o
    else if x.k=4 then A.fence x.th.toNat
    else if x.k=5 then A.wb x.ln x.n
    else if x.k=6 then A.arm x.n
    else A.crash x.ch)
 else A
def Dv.stepB (A:Dv) (x:Ev):Bool:=okE x && (if x.k=2 then A.casB x.o x.w else if x.k=5 then A.wbB x.ln x.n else false)
noncomputable def Dv.stepE (A:Dv) (x:Ev):Int :=
 if okE x=true then
  (if x.k=1∨x.k=2 then (if (A.step x).off=true then 3 else if A.isW x.o=true then 0 else 2)
    else if x.k=3 then (if (A.step x).off=true then 3 else if A.isB x.o=true then 0 else 2)
    else if x.k=4 then (if (A.step x).off=true then 3 else 0)
    else 0)
 else 1
theorem dWordS (A:Dv) (J:JT) (hn:A.n≤6) (o:Int) (ho:0≤o∧o≤18446744073709551615):ACalls Tryz.prog 39 [.loc 0 0,.p (.v (.int .u64 o))] (dvL A J) (.p (.v (.bool (A.isW o)))) (dvL A J):=by
 refine yA (E:=E) (fn:=Tryz.f39) 14 [.tmp 4] rfl rfl rfl rfl (by decide) rfl rfl ?_
 have e1:o.tmod 8=o % 8:=Int.tmod_eq_emod_of_nonneg ho.1
 repeat' (first
  | (with_reducible first | apply zY | apply zT | apply zM | apply zN | apply zO | refine qK ?_ | (show False;omega))
  | ((with_reducible first | apply zP | apply zQ | apply zR | apply zL)<;>intro h)
  | ((first | (with_reducible first | apply zW | apply zV | apply zU | apply zS | apply zX | show VX _ _ _ _ _ _ _ | show vstep _ _ _ _ _ | show vskip _ _ _ | show withV _ _ | apply qN | apply qR | refine zB default ?_ (by first | omega | (simp only [LN,e1];omega)) (by first | omega | (simp only [LN,e1];omega)) | refine zC default ?_ (by first | omega | (simp only [LN,e1];omega)) | refine qI ?_ (by first | decide | omega | assumption | (simp only [LN,e1];omega))) | (with_reducible first | apply zG | apply zH | apply zI) | ((with_reducible apply zJ);(first | exact dSize6 A J hn)) | ((with_reducible show pickE _ _ _);refine qA _ ?_));try simp -dsimp -implicitDefEqProofs (maxSteps:=1000000) (disch:=first | omega | (simp only [LN,e1];omega)) only [go_sem,e1])
 )
 all_goals (simp [Dv.isW,h])
theorem dStepN (A:Dv) (J:JT) (N:Nat) (h:Inv A J N) (x:Ev) (hc:x.ch.length≤1000000) (hv:okE x=false):ACallsX Tryz.prog 11 [.loc 0 0,.p (eE x)] (dvL A J) (fun g:{ J2:JT // Inv (A.step x) J2 (N+1) }=>.tup [.loc 0 0,.p (.v (.bool (A.stepB x))),.p (.v (.int .i64 (A.stepE x)))]) (fun g:{ J2:JT // Inv (A.step x) J2 (N+1) }=>(dv2 (A.step x) g.1)):=by
 refine yC (E:=E) (fn:=Tryz.f11) 95 [.tmp 4,.tmp 5,.tmp 6] rfl rfl rfl rfl (by decide) rfl (fun _=>rfl) ?_
 have kv:=sValid x hc
 rw [hv] at kv
 have e1:A.step x=A:=by unfold Dv.step;rw [hv];rfl
 have e2:A.stepB x=false:=by unfold Dv.stepB;rw [hv];rfl
 have e3:A.stepE x=1:=by unfold Dv.stepE;rw [hv];rfl
 repeat' (first
  | (with_reducible first | apply zY | apply zT | apply zM | apply zN | apply zO | refine qK ?_ | (show False;omega))
  | ((with_reducible first | apply zP | apply zQ | apply zR | apply zL)<;>intro h<;>try (exfalso;first | omega | exact h rfl | (revert h;decide) | (cases h;done)))
  | ((first | (with_reducible first | apply zW | apply zV | apply zU | apply zS | apply zX | show VX _ _ _ _ _ _ _ | show vstep _ _ _ _ _ | show vskip _ _ _ | show withV _ _ | apply qN | apply qR | refine zB default ?_ | refine zC default ?_ | refine qI ?_) | ((with_reducible apply zD);(exact kv)) | ((with_reducible apply zE);(exact kv);rfl) | ((with_reducible apply zF);(exact kv)) | ((with_reducible show pickE _ _ _);refine qA _ ?_));try simp -dsimp -implicitDefEqProofs (maxSteps:=1000000) (disch:=first | omega | (simp only [LN];omega)) only [go_sem])
 )
 (refine endX_i (⟨J,by rw [e1];exact h.le (by omega)⟩) ?_;simp -implicitDefEqProofs only [endA];(simp -dsimp -implicitDefEqProofs (maxSteps:=1000000) (disch:=first | omega | (simp only [LN,e1,e2,e3];omega)) only [go_sem,e1,e2,e3];try trivial))
theorem dStep1 (A:Dv) (J:JT) (N:Nat) (h:Inv A J N) (hN:N<1000000000) (x:Ev) (R:Rng x) (hv:okE x=true) (hk:x.k=1):ACallsX Tryz.prog 11 [.loc 0 0,.p (eE x)] (dvL A J) (fun g:{ J2:JT // Inv (A.step x) J2 (N+1) }=>.tup [.loc 0 0,.p (.v (.bool (A.stepB x))),.p (.v (.int .i64 (A.stepE x)))]) (fun g:{ J2:JT // Inv (A.step x) J2 (N+1) }=>(dv2 (A.step x) g.1)):=by
 refine yC (E:=E) (fn:=Tryz.f11) 95 [.tmp 4,.tmp 5,.tmp 6] rfl rfl rfl rfl (by decide) rfl (fun _=>rfl) ?_
 have kv:=sValid x (by have:=okE_t hv;unfold okK at this;omega)
 rw [hv] at kv
 have hro:=R.o
 have hrv:=R.v
 obtain ⟨e,h1,h2⟩:=ev_1 (okE_t hv) hk
 obtain ⟨t,ht⟩:=Int.eq_ofNat_of_zero_le h1
 have ht8:t<8:=by omega
 rw [ht] at e
 generalize x.o=o at *
 generalize x.v=v at *
 subst e
 have e1:A.step ⟨1,(t:Int),o,v,0,0,0,[]⟩=A.store t o v:=by unfold Dv.step;rw [hv];rfl
 have e2:A.stepB ⟨1,(t:Int),o,v,0,0,0,[]⟩=false:=by unfold Dv.stepB;rw [hv];rfl
 have e3:A.stepE ⟨1,(t:Int),o,v,0,0,0,[]⟩=if (A.store t o v).off=true then 3 else if A.isW o=true then 0 else 2:=by unfold Dv.stepE;rw [hv,e1];simp
 have kt:=dThread6 A J t ht8
 have ks:=tStore A J t ht8 h.wf (h.jl (by omega)) o v hro hrv
 have hI:=fun g=>h.store hN t hro.1 hrv g
 have hn:=store_n A t o v
 have h6:=h.wf.n6
 have kw:=fun g=>dWordS (A.store t o v) (jsto A J t o g) (by omega) o hro
 rw [isW_n hn] at kw
 have kf:=fun g=>dOff6 (A.store t o v) (jsto A J t o g)
 generalize hB:A.store t o v=B at *
 generalize hw:A.isW o=w at *
 repeat' (first
  | (with_reducible first | apply zY | apply zT | apply zM | apply zN | apply zO | refine qK ?_ | (show False;omega))
  | ((with_reducible first | apply zP | apply zQ | apply zR | apply zL)<;>intro h<;>try (exfalso;first | omega | exact h rfl | (revert h;decide) | (cases h;done)))
  | ((with_reducible first | refine r_gr0 [39] ?_ | refine r_gr1 [39] ?_ | refine r_gr2 [39] ?_ | refine r_gr3 [39] ?_ | refine r_gr4 [39] ?_ | refine r_gr5 [39] ?_ | refine r_gr6 [39] ?_ | refine r_gr7 [39] ?_ | refine r_gr8 [39] ?_ | refine r_gr9 [39] ?_ | refine r_gr10 [39] ?_);simp -dsimp -implicitDefEqProofs (maxSteps:=1000000) (disch:=first | omega | (simp only [LN];omega)) only [go_sem])
  | ((first | (with_reducible first | apply zW | apply zV | apply zU | apply zS | apply zX | show VX _ _ _ _ _ _ _ | show vstep _ _ _ _ _ | show vskip _ _ _ | show withV _ _ | apply qN | apply qR | refine zB default ?_ | refine zC default ?_ | refine qI ?_) | ((with_reducible apply zD);(exact kv)) | ((with_reducible apply zE);(exact kv);rfl) | ((with_reducible apply zF);(exact kv)) | (with_reducible first | apply zG | apply zH | apply zI) | ((with_reducible apply zJ);(first | exact kt | exact kw _ | exact kf _)) | ((with_reducible apply zK);(first | exact ks);intro gq) | ((with_reducible show pickE _ _ _);refine qA _ ?_));try simp -dsimp -implicitDefEqProofs (maxSteps:=1000000) (disch:=first | omega | (simp only [LN];omega)) only [go_sem])
 )
 all_goals
  (refine endX_i (⟨jsto A J t o gq,by rw [e1];exact hI gq⟩) ?_;simp -implicitDefEqProofs only [endA];(simp -dsimp -implicitDefEqProofs (maxSteps:=1000000) (disch:=first | omega | (simp only [LN,e1,e2,e3];omega)) only [go_sem,e1,e2,e3];try trivial))
  all_goals first | (simp [*];done)
end Go.Proofs.YtckhjklcfagkoaaGreatDoor
namespace Go.Proofs.YtckhjklcfagkoaaGreatDoor
set_option maxHeartbeats 4000000
set_option maxRecDepth 100000
open Go Go.Ab
attribute [local irreducible] callK callF loopQ vstep vskip pickE hideP
attribute [local go_sem] eE eU deO peO cuO liO thO hiO noO
theorem cnt_off {A:Dv} {k:Nat} {v:Bool} (h:A.cntB v=true):(A.cnt k v).off=false:=by
 simp only [Dv.cntB,Bool.and_eq_true,Bool.not_eq_true',Bool.and_eq_false_iff] at h
 obtain ⟨h1,h2,h3⟩:=h
 unfold Dv.cnt
 rw [h1,h2]
 simp only [Bool.false_eq_true,if_false,Bool.true_eq_false]
 split
 ·rename_i ha
  rw [ha] at h3
  simp only [Bool.true_eq_false,decide_eq_false_iff_not,false_or] at h3
  rw [if_neg h3]
 ·rfl
theorem cas_off {A:Dv} {k:Nat} {o w v:Int} (h:A.casB o w=true):(A.cas k o w v).off=false∧A.isW o=true:=by
 unfold Dv.cas
 rw [if_pos h]
 unfold Dv.casB at h
 simp only [Bool.and_eq_true] at h
 exact ⟨cnt_off h.1,cntB_of h.1⟩
theorem dStep2 (A:Dv) (J:JT) (N:Nat) (h:Inv A J N) (hN:N<1000000000) (x:Ev) (R:Rng x) (hv:okE x=true) (hk:x.k=2):ACallsX Tryz.prog 11 [.loc 0 0,.p (eE x)] (dvL A J) (fun g:{ J2:JT // Inv (A.step x) J2 (N+1) }=>.tup [.loc 0 0,.p (.v (.bool (A.stepB x))),.p (.v (.int .i64 (A.stepE x)))]) (fun g:{ J2:JT // Inv (A.step x) J2 (N+1) }=>(dv2 (A.step x) g.1)):=by
 refine yC (E:=E) (fn:=Tryz.f11) 95 [.tmp 4,.tmp 5,.tmp 6] rfl rfl rfl rfl (by decide) rfl (fun _=>rfl) ?_
 have kv:=sValid x (by have:=okE_t hv;unfold okK at this;omega)
 rw [hv] at kv
 have hro:=R.o
 have hrv:=R.v
 have hrw:=R.w
 obtain ⟨e,h1,h2⟩:=ev_2 (okE_t hv) hk
 obtain ⟨t,ht⟩:=Int.eq_ofNat_of_zero_le h1
 have ht8:t<8:=by omega
 rw [ht] at e
 generalize x.o=o at *
 generalize x.v=v at *
 generalize x.w=w at *
 subst e
 have e1:A.step ⟨2,(t:Int),o,v,w,0,0,[]⟩=A.cas t o w v:=by unfold Dv.step;rw [hv];rfl
 have e2:A.stepB ⟨2,(t:Int),o,v,w,0,0,[]⟩=A.casB o w:=by unfold Dv.stepB;rw [hv];rfl
 have e3:A.stepE ⟨2,(t:Int),o,v,w,0,0,[]⟩=if (A.cas t o w v).off=true then 3 else if A.isW o=true then 0 else 2:=by unfold Dv.stepE;rw [hv,e1];simp
 have kt:=dThread6 A J t ht8
 have ks:=tCAS6 A J t ht8 h.wf (h.jl (by omega)) o w v hro hrv
 have hI:=fun g=>h.cas hN t (w:=w) hro.1 hrv g
 have hn:=cas_n A t o w v
 have h6:=h.wf.n6
 have hco:=cas_off (A:=A) (k:=t) (o:=o) (w:=w) (v:=v)
 have kw:=fun g=>dWordS (A.cas t o w v) (jcas A J t o w g) (by omega) o hro
 rw [isW_n hn] at kw
 have kf:=fun g=>dOff6 (A.cas t o w v) (jcas A J t o w g)
 generalize hB:A.cas t o w v=B at *
 generalize hw:A.isW o=iw at *
 generalize hcb:A.casB o w=cb at *
 repeat' (first
  | (with_reducible first | apply zY | apply zT | apply zM | apply zN | apply zO | refine qK ?_ | (show False;omega))
  | ((with_reducible first | apply zP | apply zQ | apply zR | apply zL)<;>intro h<;>try (exfalso;first | omega | exact h rfl | (revert h;decide) | (cases h;done)))
  | ((with_reducible first | refine r_gr0 [41] ?_ | refine r_gr1 [41] ?_ | refine r_gr2 [41] ?_ | refine r_gr3 [41] ?_ | refine r_gr4 [41] ?_ | refine r_gr5 [41] ?_ | refine r_gr6 [41] ?_ | refine r_gr7 [41] ?_ | refine r_gr8 [41] ?_ | refine r_gr9 [41] ?_ | refine r_gr10 [41] ?_);simp -dsimp -implicitDefEqProofs (maxSteps:=1000000) (disch:=first | omega | (simp only [LN];omega)) only [go_sem])
  | ((first | (with_reducible first | apply zW | apply zV | apply zU | apply zS | apply zX | show VX _ _ _ _ _ _ _ | show vstep _ _ _ _ _ | show vskip _ _ _ | show withV _ _ | apply qN | apply qR | refine zB default ?_ | refine zC default ?_ | refine qI ?_) | ((with_reducible apply zD);(exact kv)) | ((with_reducible apply zE);(exact kv);rfl) | ((with_reducible apply zF);(exact kv)) | (with_reducible first | apply zG | apply zH | apply zI) | ((with_reducible apply zJ);(first | exact kt | exact kw _ | exact kf _)) | ((with_reducible apply zK);(first | exact ks);intro gq) | ((with_reducible show pickE _ _ _);refine qA _ ?_));try simp -dsimp -implicitDefEqProofs (maxSteps:=1000000) (disch:=first | omega | (simp only [LN];omega)) only [go_sem])
 )
 all_goals
  (refine endX_i (⟨jcas A J t o w gq,by rw [e1];exact hI gq⟩) ?_;simp -implicitDefEqProofs only [endA];(simp -dsimp -implicitDefEqProofs (maxSteps:=1000000) (disch:=first | omega | (simp only [LN,e1,e2,e3];omega)) only [go_sem,e1,e2,e3];try trivial))
  all_goals first | (simp [*];done) | (cases cb<;>simp_all;done)
theorem dStep3 (A:Dv) (J:JT) (N:Nat) (h:Inv A J N) (hN:N<1000000000) (x:Ev) (R:Rng x) (hv:okE x=true) (hk:x.k=3):ACallsX Tryz.prog 11 [.loc 0 0,.p (eE x)] (dvL A J) (fun g:{ J2:JT // Inv (A.step x) J2 (N+1) }=>.tup [.loc 0 0,.p (.v (.bool (A.stepB x))),.p (.v (.int .i64 (A.stepE x)))]) (fun g:{ J2:JT // Inv (A.step x) J2 (N+1) }=>(dv2 (A.step x) g.1)):=by
 refine yC (E:=E) (fn:=Tryz.f11) 95 [.tmp 4,.tmp 5,.tmp 6] rfl rfl rfl rfl (by decide) rfl (fun _=>rfl) ?_
 have kv:=sValid x (by have:=okE_t hv;unfold okK at this;omega)
 rw [hv] at kv
 have hro:=R.o
 have hrv:=R.v
 obtain ⟨e,h1,h2⟩:=ev_3 (okE_t hv) hk
 obtain ⟨t,ht⟩:=Int.eq_ofNat_of_zero_le h1
 have ht8:t<8:=by omega
 rw [ht] at e
 generalize x.o=o at *
 subst e
 have e1:A.step ⟨3,(t:Int),o,0,0,0,0,[]⟩=A.flush t o:=by unfold Dv.step;rw [hv];rfl
 have e2:A.stepB ⟨3,(t:Int),o,0,0,0,0,[]⟩=false:=by unfold Dv.stepB;rw [hv];rfl
 have e3:A.stepE ⟨3,(t:Int),o,0,0,0,0,[]⟩=if (A.flush t o).off=true then 3 else if decide (o<((64*(A.flush t o).n:Nat):Int))=true then 0 else 2:=by unfold Dv.stepE;rw [hv,e1,flush_n];simp [Dv.isB]
 have kt:=dThread6 A J t ht8
 have ks:=tFlush A J t ht8 h.wf o hro
 have hI:=h.flush t hro.1
 have hn:=flush_n A t o
 have h6:=h.wf.n6
 have kz:=dSize6 (A.flush t o) J (by omega)
 have kf:=dOff6 (A.flush t o) J
 generalize hB:A.flush t o=B at *
 repeat' (first
  | (with_reducible first | apply zY | apply zT | apply zM | apply zN | apply zO | refine qK ?_ | (show False;omega))
  | ((with_reducible first | apply zP | apply zQ | apply zR | apply zL)<;>intro h<;>try (exfalso;first | omega | exact h rfl | (revert h;decide) | (cases h;done)))
  | ((first | (with_reducible first | apply zW | apply zV | apply zU | apply zS | apply zX | show VX _ _ _ _ _ _ _ | show vstep _ _ _ _ _ | show vskip _ _ _ | show withV _ _ | apply qN | apply qR | refine zB default ?_ | refine zC default ?_ | refine qI ?_) | ((with_reducible apply zD);(exact kv)) | ((with_reducible apply zE);(exact kv);rfl) | ((with_reducible apply zF);(exact kv)) | (with_reducible first | apply zG | apply zH | apply zI) | ((with_reducible apply zJ);(first | exact kt | exact ks | exact kz | exact kf)) | ((with_reducible show pickE _ _ _);refine qA _ ?_));try simp -dsimp -implicitDefEqProofs (maxSteps:=1000000) (disch:=first | omega | (simp only [LN];omega)) only [go_sem])
 )
 all_goals
  (refine endX_i (⟨J,by rw [e1];exact hI.le (by omega)⟩) ?_;simp -implicitDefEqProofs only [endA];(simp -dsimp -implicitDefEqProofs (maxSteps:=1000000) (disch:=first | omega | (simp only [LN,e1,e2,e3];omega)) only [go_sem,e1,e2,e3];try trivial))
  all_goals first | (simp [*];done) | (simp_all;done)
end Go.Proofs.YtckhjklcfagkoaaGreatDoor
