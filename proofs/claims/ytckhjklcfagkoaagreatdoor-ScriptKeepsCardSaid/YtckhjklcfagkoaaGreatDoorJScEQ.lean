/- Contracts of functions of this program, and the plain facts that they rest on. No conditions. -/
import Derived.Test.YtckhjklcfagkoaaGreatDoorJShelfQ
import Derived.Test.YtckhjklcfagkoaaGreatDoorAc4
import Derived.Lib.ItoaMem
import Derived.Test.YtckhjklcfagkoaaGreatDoorJDvAQ
set_option linter.unusedSimpArgs false
set_option linter.unusedVariables false
namespace Go.Proofs.YtckhjklcfagkoaaGreatDoor
set_option maxHeartbeats 4000000
set_option maxRecDepth 100000
open Go Go.Ab
attribute [local irreducible] callK callF loopQ vstep vskip pickE hideP
open Go.RowKit
attribute [local go_sem] bs_inj ext_bs byteAt_bs
attribute [local irreducible] numL
theorem lSmall (u:Nat) (h:u<100):PCalls Tryz.prog 125 [.v (.int .i64 u)] (.v (.string (bs (Lib.decDigits u)))):=by
 refine pcalls_val ⟨_,rfl,rfl,by decide⟩ (u:=.string (bs (Lib.decDigits u))) (fun Z w=>by simp [Rep,oneB]) fun Z w vals hz hv=>?_
 have e:vals=[.int .i64 u]:=by
  simp only [Reps,Rep] at hv
  obtain ⟨_,_,rfl,⟨rfl,_⟩,rfl⟩:=hv
  rfl
 subst e
 exact (Tryz.internal_strconv_small u h w).mono fun e w' ⟨he,hw⟩=>⟨he,by rw [hw];exact Below.refl _ _⟩
theorem lNumD (u:Nat) (h1:1≤u) (h2:u≤18446744073709551615):PCalls Tryz.prog 126 [.v (.int .u64 u)] (.v (.int .i64 (Lib.nDigits u))):=by
 refine pcalls_val ⟨_,rfl,rfl,by decide⟩ (u:=.int .i64 (Lib.nDigits u)) (fun Z w=>by simp [Rep,oneB]) fun Z w vals hz hv=>?_
 have e:vals=[.int .u64 u]:=by
  simp only [Reps,Rep] at hv
  obtain ⟨_,_,rfl,⟨rfl,_⟩,rfl⟩:=hv
  rfl
 subst e
 exact (Tryz.internal_strconv_numDigits u h1 (by omega) w hz.gl.2.1).mono fun e w' ⟨he,hw⟩=>⟨he,by rw [hw];exact Below.refl _ _⟩
theorem lFB (u:Nat) (h2:u≤18446744073709551615):ACalls Tryz.prog 127 [.sl 0 1 0 (Lib.nDigits u),.p (.v (.int .u64 u))] [.arr 1 ((List.replicate 24 0).map eB)] (.p (.tup [])) [.arr 1 ((Lib.decDigits u++(List.replicate 24 0).drop (Lib.nDigits u)).map eB)]:=by
 have h20:=Lib.nDigits_le20 u (by omega)
 refine ac_fill ⟨_,rfl,rfl,by decide⟩ _ (Lib.decDigits u) _ (by simp;omega) (Lib.decDigits_length u) (Lib.nDigits_pos u) (.int .u64 u) fun b cap w hH _=>?_
 have hs:((List.replicate 24 (0:UInt8)).take (Lib.nDigits u)).toArray.size=Lib.nDigits u:=by simp;omega
 have:=Tryz.internal_strconv_formatBase10 b 0 cap u _ w hH (by rw [hs];exact Lib.lt_pow_nDigits u) (by omega) (by rw [hs];omega)
 rw [hs] at this
 refine this.mono ?_
 rintro e w' ⟨rfl,n,v',dk,rfl,hF⟩
 refine ⟨rfl,n,?_⟩
 have e:dk=(Lib.decDigits u).toArray:=by
  apply Array.ext
  ·rw [hF.size];simp [Lib.decDigits_length]
  ·intro j h1 h3
   have h4:j<(Lib.decDigits u).length:=by simpa using h3
   have:=Lib.row_is_numeral hF j h4
   rw [getElem!_pos dk j h1] at this
   rw [← this];rfl
 rw [e]
theorem take_dec (u:Nat) (X:List UInt8):((Lib.decDigits u++X).map eB).take (Lib.nDigits u)=(Lib.decDigits u).map eB:=by
 rw [List.map_append,List.take_left' (by rw [List.length_map,Lib.decDigits_length])]
theorem take_dec2 (u:Nat) (X:List PV):((Lib.decDigits u).map eB++X).take (Lib.nDigits u)=(Lib.decDigits u).map eB:=by
 rw [List.take_left' (by rw [List.length_map,Lib.decDigits_length])]
theorem lApp0 (p:List UInt8) (u:Nat) (h2:u≤18446744073709551615) (hp:p.length≤1000000):ACalls Tryz.prog 114 [.sl 0 1 0 p.length,.p (.v (.int .u64 u)),.p (.v (.int .i64 10))] [.arr 1 (p.map eB)] (.sl 1 1 0 (p++Lib.decDigits u).length) [.dead,.arr 1 ((p++Lib.decDigits u).map eB)]:=by
 refine yA (E:=E) (fn:=Tryz.f114) 36 [.tmp 6] rfl rfl rfl rfl (by decide) rfl rfl ?_
 have hl:=Lib.decDigits_length u
 have h20:=Lib.nDigits_le20 u (by omega)
 by_cases hs:u<100
 ·have e1:IntKind.i64.wrap (u:Int)=u:=by rw [IntKind.wrap_i64];omega
  repeat' (first
   | (with_reducible first | apply zY | apply zT | apply zM | apply zN | apply zO | refine qK ?_ | (show False;omega))
   | ((with_reducible first | apply zP | apply zQ | apply zR | apply zL)<;>intro h<;>try (exfalso;first | omega | exact h rfl | (revert h;decide) | (cases h;done)))
   | ((first | (with_reducible first | apply zW | apply zV | apply zU | apply zS | apply zX | show VX _ _ _ _ _ _ _ | show vstep _ _ _ _ _ | show vskip _ _ _ | show withV _ _ | apply qN | apply qR | refine zB default ?_ (by first | omega | (simp only [LN,e1,hl];omega)) (by first | omega | (simp only [LN,e1,hl];omega)) | refine zC default ?_ (by first | omega | (simp only [LN,e1,hl];omega)) | refine qI ?_ (by first | decide | omega | assumption | (simp only [LN,e1,hl];omega))) | ((with_reducible apply zD);(exact lSmall u hs)) | ((with_reducible apply zE);(exact lSmall u hs);rfl) | ((with_reducible apply zF);(exact lSmall u hs)) | ((with_reducible show pickE _ _ _);refine qA _ ?_));try simp -dsimp -implicitDefEqProofs (maxSteps:=1000000) (disch:=first | omega | (simp only [LN,e1,hl];omega)) only [go_sem,e1,hl])
  )
  all_goals first | omega
 ·have k1:=lNumD u (by omega) h2
  have k2:=lFB u h2
  have k3:=take_dec u ((List.replicate 24 0).drop (Lib.nDigits u))
  have k4:(List.replicate 24 (0:UInt8)).length=24:=rfl
  have k5:(Lib.decDigits u++(List.replicate 24 (0:UInt8)).drop (Lib.nDigits u)).length=24:=by simp [hl];omega
  repeat' ((fail_if_success (with_reducible show awp _ _ (Code.region 5 _ _) _ _));first
   | (with_reducible first | apply zY | apply zT | apply zM | apply zN | apply zO | refine qK ?_ | (show False;omega))
   | ((with_reducible first | apply zP | apply zQ | apply zR | apply zL)<;>intro h<;>try (exfalso;first | omega | exact h rfl | (revert h;decide) | (cases h;done)))
   | ((first | (with_reducible first | apply zW | apply zV | apply zU | apply zS | apply zX | show VX _ _ _ _ _ _ _ | show vstep _ _ _ _ _ | show vskip _ _ _ | show withV _ _ | apply qN | apply qR | refine zB default ?_ | refine zC default ?_ | refine qI ?_) | ((with_reducible show pickE _ _ _);refine qA _ ?_));try simp -dsimp -implicitDefEqProofs (maxSteps:=1000000) (disch:=first | omega | (simp only [LN];omega)) only [go_sem])
  )
  refine r_arr 1 (List.replicate 24 0) rfl (by decide) ?_
  simp -dsimp -implicitDefEqProofs (maxSteps:=1000000) (disch:=first | omega | (simp only [LN];omega)) only [go_sem]
  repeat' (first
   | (with_reducible first | apply zY | apply zT | apply zM | apply zN | apply zO | refine qK ?_ | (show False;omega))
   | ((with_reducible first | apply zP | apply zQ | apply zR | apply zL)<;>intro h<;>try (exfalso;first | omega | exact h rfl | (revert h;decide) | (cases h;done)))
   | ((first | (with_reducible first | apply zW | apply zV | apply zU | apply zS | apply zX | show VX _ _ _ _ _ _ _ | show vstep _ _ _ _ _ | show vskip _ _ _ | show withV _ _ | apply qN | apply qR | refine zB default ?_ (by first | omega | (simp only [LN,hl,k3,k4,k5];omega)) (by first | omega | (simp only [LN,hl,k3,k4,k5];omega)) | refine zC default ?_ (by first | omega | (simp only [LN,hl,k3,k4,k5];omega)) | refine qI ?_ (by first | decide | omega | assumption | (simp only [LN,hl,k3,k4,k5];omega))) | ((with_reducible apply zD);(exact k1)) | ((with_reducible apply zE);(exact k1);rfl) | ((with_reducible apply zF);(exact k1)) | (with_reducible first | apply zG | apply zH | apply zI) | ((with_reducible apply zJ);(first | exact k2)) | ((with_reducible show pickE _ _ _);refine qA _ ?_));try simp -dsimp -implicitDefEqProofs (maxSteps:=1000000) (disch:=first | omega | (simp only [LN,hl,k3,k4,k5];omega)) only [go_sem,hl,k3,k4,k5])
  )
  all_goals first | omega | exact .inl (by rw [take_dec2])
theorem lApp (p:List UInt8) (n:Int) (h:0≤n∧n≤18446744073709551615) (hp:p.length≤1000000):ACalls Tryz.prog 108 [.sl 0 1 0 p.length,.p (.v (.int .u64 n)),.p (.v (.int .i64 10))] [.arr 1 (p.map eB)] (.sl 1 1 0 (p++numL n).length) [.dead,.arr 1 ((p++numL n).map eB)]:=by
 refine yA (E:=E) (fn:=Tryz.f108) 11 [.tmp 6] rfl rfl rfl rfl (by decide) rfl rfl ?_
 have k:=lApp0 p n.toNat (by omega) hp
 rw [show ((n.toNat:Nat):Int)=n by omega,← numL_pos h.1] at k
 repeat' (first
  | (with_reducible first | apply zY | apply zT | apply zM | apply zN | apply zO | refine qK ?_ | (show False;omega))
  | ((with_reducible first | apply zP | apply zQ | apply zR | apply zL)<;>intro h<;>try (exfalso;first | omega | exact h rfl | (revert h;decide) | (cases h;done)))
  | ((first | (with_reducible first | apply zW | apply zV | apply zU | apply zS | apply zX | show VX _ _ _ _ _ _ _ | show vstep _ _ _ _ _ | show vskip _ _ _ | show withV _ _ | apply qN | apply qR | refine zB default ?_ | refine zC default ?_ | refine qI ?_) | (with_reducible first | apply zG | apply zH | apply zI) | ((with_reducible apply zJ);(first | exact k)) | ((with_reducible show pickE _ _ _);refine qA _ ?_));try simp -dsimp -implicitDefEqProofs (maxSteps:=1000000) (disch:=first | omega | (simp only [LN];omega)) only [go_sem])
 )
end Go.Proofs.YtckhjklcfagkoaaGreatDoor
namespace Go.Proofs.YtckhjklcfagkoaaGreatDoor
set_option maxHeartbeats 4000000
set_option maxRecDepth 100000
open Go Go.Ab
attribute [local irreducible] callK callF loopQ vstep vskip pickE hideP
open Go.RowKit
attribute [local go_sem] eE rE eT eU bs_inj ext_bs byteAt_bs
attribute [local irreducible] numL
def argT (l:List Int):Nat→List UInt8
 | 0=>[]
 | j+1=>argT l j++32::numL (l.getD j default)
theorem argT_s (l:List Int) (j:Nat):argT l (j+1)=argT l j++32::numL (l.getD j default):=rfl
theorem argT_len {l:List Int} (hr:∀ j,0≤l.getD j default∧l.getD j default≤18446744073709551615):∀ j,(argT l j).length≤22*j
 | 0=>by simp [argT]
 | j+1=>by
  have h1:=argT_len hr j
  have h2:=hr j
  have h3:=numL_len (n:=l.getD j default) (by omega)
  rw [argT_s,List.length_append,List.length_cons];omega
def decP (nm:List UInt8) (ns:List Int) (j:Nat):List UInt8:=nm++argT ns j
theorem decP_0 (nm:List UInt8) (ns:List Int):decP nm ns 0=nm:=by simp [decP,argT]
theorem decP_s (nm:List UInt8) (ns:List Int) (j:Nat):decP nm ns (j+1)=decP nm ns j++32::numL (ns.getD j default):=by simp [decP,argT_s]
theorem decP_len {nm:List UInt8} {ns:List Int} (hn:nm.length≤100) (hr:∀ j,0≤ns.getD j default∧ns.getD j default≤18446744073709551615) (j:Nat) (hj:j≤10):(decP nm ns j).length≤1000:=by
 have h1:=argT_len hr j
 rw [decP,List.length_append];omega
theorem lAppS (q:List UInt8) (n:Int) (h:0≤n∧n≤18446744073709551615) (hp:q.length≤1000):ACalls Tryz.prog 108 [.sl 0 1 0 (q.length+1),.p (.v (.int .u64 n)),.p (.v (.int .i64 10))] [.arr 1 (q.map eB++[.v (.int .u8 32)])] (.sl 1 1 0 (q++32::numL n).length) [.dead,.arr 1 ((q++32::numL n).map eB)]:=by
 have:=lApp (q++[32]) n h (by simp;omega)
 rw [List.append_assoc,List.map_append,List.length_append] at this
 exact this
attribute [local irreducible] argT decP
theorem sDec (nm:List UInt8) (hn:nm.length≤100) (ns:List Int) (hl:ns.length≤10) (hr:∀ j,0≤ns.getD j default∧ns.getD j default≤18446744073709551615):PCalls Tryz.prog 94 [.v (.string (bs nm)),.view 1 (ns.map eU)] (.v (.string (bs (decP nm ns ns.length)))):=by
 refine yD ⟨_,rfl,rfl,by decide⟩ fun hf=>?_
 simp only [go_sem,big] at hf
 refine yB (E:=E) (fn:=Tryz.f94) 25 [.tmp 4] rfl rfl rfl rfl (by decide) rfl ?_
 repeat' (first
  | (with_reducible first | apply zY | apply zT | apply zM | apply zN | apply zO | refine qK ?_ | (show False;omega))
  | ((with_reducible first | apply zP | apply zQ | apply zR | apply zL)<;>intro h)
  | ((first | (with_reducible first | apply zW | apply zV | apply zU | apply zS | apply zX | show VX _ _ _ _ _ _ _ | show vstep _ _ _ _ _ | show vskip _ _ _ | show withV _ _ | apply qN | apply qR | refine zB default ?_ | refine zC default ?_ | refine qI ?_) | ((with_reducible show pickE _ _ _);refine qA _ ?_));try simp -dsimp -implicitDefEqProofs (maxSteps:=1000000) (disch:=first | omega | (simp only [LN];omega)) only [go_sem])
 )
 refine r_loopA (α:=Nat) [10,11] (fun j b=>[(5,.sl b 1 0 (decP nm ns j).length),(12,aI j)]) (fun j b=>[]) (fun j=>[.arr 1 ((decP nm ns j).map eB)]) (fun j=>j≤ns.length) (fun j=>ns.length - j) (0) ?h0_1 ?hs0_1 ?I_1 ?hI_1 ?round_1
 case hI_1=>intro x;(simp -dsimp -implicitDefEqProofs (maxSteps:=1000000) (disch:=first | omega | (simp only [LN];omega)) only [go_sem])<;>exact rfl
 case hs0_1=>refine wk_auto ?_;(simp -dsimp -implicitDefEqProofs (maxSteps:=1000000) (disch:=first | omega | (simp only [LN,decP_0];omega)) only [go_sem,decP_0])<;>(try omega)
 case h0_1=>exact Nat.zero_le _
 case round_1 =>
  intro j hj
  have h2:=hr j
  have h3:=numL_len (n:=ns.getD j default) (by omega)
  have h4:=decP_len hn hr j (by omega)
  by_cases h:j<ns.length
  ·have hs:=decP_s nm ns j
   have ka:=lAppS (decP nm ns j) (ns.getD j default) h2 h4
   repeat' (first
    | (with_reducible first | apply zY | apply zT | apply zM | apply zN | apply zO | refine qK ?_ | (show False;omega))
    | ((with_reducible first | apply zP | apply zQ | apply zR | apply zL)<;>intro h<;>try (exfalso;first | omega | exact h rfl | (revert h;decide) | (cases h;done)))
    | ((first | (with_reducible first | apply zW | apply zV | apply zU | apply zS | apply zX | show VX _ _ _ _ _ _ _ | show vstep _ _ _ _ _ | show vskip _ _ _ | show withV _ _ | apply qN | apply qR | refine zB default ?_ | refine zC default ?_ | refine qI ?_) | (with_reducible first | apply zG | apply zH | apply zI) | ((with_reducible apply zJ);(first | exact ka)) | ((with_reducible show pickE _ _ _);refine qA _ ?_));try simp -dsimp -implicitDefEqProofs (maxSteps:=1000000) (disch:=first | omega | (simp only [LN];omega)) only [go_sem])
   )
   all_goals first | omega | (refine zZ (j+1) ?_ ?_ ?_;(omega);(show _<_;omega);(simp -dsimp -implicitDefEqProofs (maxSteps:=1000000) (disch:=first | omega | (simp only [LN,hs,List.length_append,List.length_cons];omega)) only [go_sem,hs,List.length_append,List.length_cons];try trivial))
  ·obtain rfl:j=ns.length:=by omega
   repeat' (first
    | (with_reducible first | apply zY | apply zT | apply zM | apply zN | apply zO | refine qK ?_ | (show False;omega))
    | ((with_reducible first | apply zP | apply zQ | apply zR | apply zL)<;>intro h<;>try (exfalso;first | omega | exact h rfl | (revert h;decide) | (cases h;done)))
    | ((first | (with_reducible first | apply zW | apply zV | apply zU | apply zS | apply zX | show VX _ _ _ _ _ _ _ | show vstep _ _ _ _ _ | show vskip _ _ _ | show withV _ _ | apply qN | apply qR | refine zB default ?_ | refine zC default ?_ | refine qI ?_) | ((with_reducible show pickE _ _ _);refine qA _ ?_));try simp -dsimp -implicitDefEqProofs (maxSteps:=1000000) (disch:=first | omega | (simp only [LN];omega)) only [go_sem])
   )
   all_goals first | rfl | omega
theorem and15 {x:Nat} (h:x<256):(BitVec.ofInt 8 x &&& BitVec.ofInt 8 15).toNat=x % 16:=by
 rw [BitVec.toNat_and,BitVec.ofInt_natCast,BitVec.toNat_ofNat,show (BitVec.ofInt 8 15).toNat=2 ^ 4 - 1 by decide,Nat.and_two_pow_sub_one_eq_mod]
 omega
def crP (c:List UInt8) (i:Nat):List UInt8:=[99,114,97,115,104,32]++hexL (c.take i)
theorem crP_len (c:List UInt8) (i:Nat) (h:i≤c.length):(crP c i).length=6+2*i:=by
 simp [crP,hexL_len];omega
theorem crP_0 (c:List UInt8):(crP c 0).map eB=[.v (.int .u8 99),.v (.int .u8 114),.v (.int .u8 97),.v (.int .u8 115),.v (.int .u8 104),.v (.int .u8 32)]:=rfl
theorem crP_tx {x:Ev} (h:x.k=7) (h0:¬ x.ch.length=0):txE x=crP x.ch x.ch.length:=by
 rw [crP,List.take_length]
 simp [txE,wsE,joinL,h,chL_e h0]
theorem crP_s {c:List UInt8} {i:Nat} (h:i<c.length):crP c (i+1)=crP c i++[hexS.getD ((c.getD i default).toNat / 16) 0,hexS.getD ((c.getD i default).toNat % 16) 0]:=by unfold crP;rw [hexL_take h,List.append_assoc]
attribute [local irreducible] crP
theorem sText (x:Ev) (R:Rng x) (hc:x.ch.length≤1000000):PCalls Tryz.prog 72 [eE x] (.v (.string (bs (txV x)))):=by
 refine yB (E:=E) (fn:=Tryz.f72) 88 [.tmp 2] rfl rfl rfl rfl (by decide) rfl ?_
 have kv:=sValid x hc
 cases hv:okE x with
 | false =>
  rw [hv] at kv
  have e:txV x=[]:=by unfold txV;rw [hv];rfl
  repeat' (first
   | (with_reducible first | apply zY | apply zT | apply zM | apply zN | apply zO | refine qK ?_ | (show False;omega))
   | ((with_reducible first | apply zP | apply zQ | apply zR | apply zL)<;>intro h<;>try (exfalso;first | omega | exact h rfl | (revert h;decide) | (cases h;done)))
   | ((first | (with_reducible first | apply zW | apply zV | apply zU | apply zS | apply zX | show VX _ _ _ _ _ _ _ | show vstep _ _ _ _ _ | show vskip _ _ _ | show withV _ _ | apply qN | apply qR | refine zB default ?_ (by first | omega | (simp only [LN,e];omega)) (by first | omega | (simp only [LN,e];omega)) | refine zC default ?_ (by first | omega | (simp only [LN,e];omega)) | refine qI ?_ (by first | decide | omega | assumption | (simp only [LN,e];omega))) | ((with_reducible apply zD);(exact kv)) | ((with_reducible apply zE);(exact kv);rfl) | ((with_reducible apply zF);(exact kv)) | ((with_reducible show pickE _ _ _);refine qA _ ?_));try simp -dsimp -implicitDefEqProofs (maxSteps:=1000000) (disch:=first | omega | (simp only [LN,e];omega)) only [go_sem,e])
  )
  all_goals first | rfl
 | true =>
  rw [hv] at kv
  have hk:=okE_t hv
  have e:txV x=txE x:=by unfold txV;rw [hv];rfl
  rw [e]
  have hro:=R.o
  have hrv:=R.v
  have hrw:=R.w
  have hks:x.k=1∧(0≤x.th∧x.th≤7)∨x.k=2∧(0≤x.th∧x.th≤7)∨x.k=3∧(0≤x.th∧x.th≤7)∨x.k=4∧(0≤x.th∧x.th≤7)∨x.k=5∧(0≤x.ln∧x.ln≤4095)∧(0≤x.n∧x.n≤2147483647)∨x.k=6∧(-1≤x.n∧x.n≤2147483647)∨x.k=7∧x.ch.length≤512:=by unfold okK at hk;omega
  rcases hks with ⟨h,h2⟩ | ⟨h,h2⟩ | ⟨h,h2⟩ | ⟨h,h2⟩ | ⟨h,h2,h3⟩ | ⟨h,h2⟩ | ⟨h,h2⟩
  ·have e1:IntKind.u64.wrap x.th=x.th:=by rw [wr64];omega
   have kd:=sDec [115,116,111,114,101] (by simp) [x.th,x.o,x.v] (by simp) (by intro j;match j with | 0=>exact ⟨h2.1,by show x.th≤_;omega⟩ | 1=>exact hro | 2=>exact hrv | j+3=>exact (show (0:Int)≤0∧(0:Int)≤18446744073709551615 from ⟨by decide,by decide⟩))
   repeat' (first
    | (with_reducible first | apply zY | apply zT | apply zM | apply zN | apply zO | refine qK ?_ | (show False;omega))
    | ((with_reducible first | apply zP | apply zQ | apply zR | apply zL)<;>intro h<;>try (exfalso;first | omega | exact h rfl | (revert h;decide) | (cases h;done)))
    | ((first | (with_reducible first | apply zW | apply zV | apply zU | apply zS | apply zX | show VX _ _ _ _ _ _ _ | show vstep _ _ _ _ _ | show vskip _ _ _ | show withV _ _ | apply qN | apply qR | refine zB default ?_ (by first | omega | (simp only [LN,e1];omega)) (by first | omega | (simp only [LN,e1];omega)) | refine zC default ?_ (by first | omega | (simp only [LN,e1];omega)) | refine qI ?_ (by first | decide | omega | assumption | (simp only [LN,e1];omega))) | ((with_reducible apply zD);(first | exact kv | exact kd)) | ((with_reducible apply zE);(first | exact kv | exact kd);rfl) | ((with_reducible apply zF);(first | exact kv | exact kd)) | ((with_reducible show pickE _ _ _);refine qA _ ?_));try simp -dsimp -implicitDefEqProofs (maxSteps:=1000000) (disch:=first | omega | (simp only [LN,e1];omega)) only [go_sem,e1])
   )
   all_goals first | omega | (simp [txE,wsE,joinL,h,decP_s,decP_0];done)
  ·have e1:IntKind.u64.wrap x.th=x.th:=by rw [wr64];omega
   have kd:=sDec [99,97,115] (by simp) [x.th,x.o,x.w,x.v] (by simp) (by intro j;match j with | 0=>exact ⟨h2.1,by show x.th≤_;omega⟩ | 1=>exact hro | 2=>exact hrw | 3=>exact hrv | j+4=>exact (show (0:Int)≤0∧(0:Int)≤18446744073709551615 from ⟨by decide,by decide⟩))
   repeat' (first
    | (with_reducible first | apply zY | apply zT | apply zM | apply zN | apply zO | refine qK ?_ | (show False;omega))
    | ((with_reducible first | apply zP | apply zQ | apply zR | apply zL)<;>intro h<;>try (exfalso;first | omega | exact h rfl | (revert h;decide) | (cases h;done)))
    | ((first | (with_reducible first | apply zW | apply zV | apply zU | apply zS | apply zX | show VX _ _ _ _ _ _ _ | show vstep _ _ _ _ _ | show vskip _ _ _ | show withV _ _ | apply qN | apply qR | refine zB default ?_ (by first | omega | (simp only [LN,e1];omega)) (by first | omega | (simp only [LN,e1];omega)) | refine zC default ?_ (by first | omega | (simp only [LN,e1];omega)) | refine qI ?_ (by first | decide | omega | assumption | (simp only [LN,e1];omega))) | ((with_reducible apply zD);(first | exact kv | exact kd)) | ((with_reducible apply zE);(first | exact kv | exact kd);rfl) | ((with_reducible apply zF);(first | exact kv | exact kd)) | ((with_reducible show pickE _ _ _);refine qA _ ?_));try simp -dsimp -implicitDefEqProofs (maxSteps:=1000000) (disch:=first | omega | (simp only [LN,e1];omega)) only [go_sem,e1])
   )
   all_goals first | omega | (simp [txE,wsE,joinL, *,decP_s,decP_0];done)
  ·have e1:IntKind.u64.wrap x.th=x.th:=by rw [wr64];omega
   have kd:=sDec [102,108,117,115,104] (by simp) [x.th,x.o] (by simp) (by intro j;match j with | 0=>exact ⟨h2.1,by show x.th≤_;omega⟩ | 1=>exact hro | j+2=>exact (show (0:Int)≤0∧(0:Int)≤18446744073709551615 from ⟨by decide,by decide⟩))
   repeat' (first
    | (with_reducible first | apply zY | apply zT | apply zM | apply zN | apply zO | refine qK ?_ | (show False;omega))
    | ((with_reducible first | apply zP | apply zQ | apply zR | apply zL)<;>intro h<;>try (exfalso;first | omega | exact h rfl | (revert h;decide) | (cases h;done)))
    | ((first | (with_reducible first | apply zW | apply zV | apply zU | apply zS | apply zX | show VX _ _ _ _ _ _ _ | show vstep _ _ _ _ _ | show vskip _ _ _ | show withV _ _ | apply qN | apply qR | refine zB default ?_ (by first | omega | (simp only [LN,e1];omega)) (by first | omega | (simp only [LN,e1];omega)) | refine zC default ?_ (by first | omega | (simp only [LN,e1];omega)) | refine qI ?_ (by first | decide | omega | assumption | (simp only [LN,e1];omega))) | ((with_reducible apply zD);(first | exact kv | exact kd)) | ((with_reducible apply zE);(first | exact kv | exact kd);rfl) | ((with_reducible apply zF);(first | exact kv | exact kd)) | ((with_reducible show pickE _ _ _);refine qA _ ?_));try simp -dsimp -implicitDefEqProofs (maxSteps:=1000000) (disch:=first | omega | (simp only [LN,e1];omega)) only [go_sem,e1])
   )
   all_goals first | omega | (simp [txE,wsE,joinL, *,decP_s,decP_0];done)
  ·have e1:IntKind.u64.wrap x.th=x.th:=by rw [wr64];omega
   have kd:=sDec [102,101,110,99,101] (by simp) [x.th] (by simp) (by intro j;match j with | 0=>exact ⟨h2.1,by show x.th≤_;omega⟩ | j+1=>exact (show (0:Int)≤0∧(0:Int)≤18446744073709551615 from ⟨by decide,by decide⟩))
   repeat' (first
    | (with_reducible first | apply zY | apply zT | apply zM | apply zN | apply zO | refine qK ?_ | (show False;omega))
    | ((with_reducible first | apply zP | apply zQ | apply zR | apply zL)<;>intro h<;>try (exfalso;first | omega | exact h rfl | (revert h;decide) | (cases h;done)))
    | ((first | (with_reducible first | apply zW | apply zV | apply zU | apply zS | apply zX | show VX _ _ _ _ _ _ _ | show vstep _ _ _ _ _ | show vskip _ _ _ | show withV _ _ | apply qN | apply qR | refine zB default ?_ (by first | omega | (simp only [LN,e1];omega)) (by first | omega | (simp only [LN,e1];omega)) | refine zC default ?_ (by first | omega | (simp only [LN,e1];omega)) | refine qI ?_ (by first | decide | omega | assumption | (simp only [LN,e1];omega))) | ((with_reducible apply zD);(first | exact kv | exact kd)) | ((with_reducible apply zE);(first | exact kv | exact kd);rfl) | ((with_reducible apply zF);(first | exact kv | exact kd)) | ((with_reducible show pickE _ _ _);refine qA _ ?_));try simp -dsimp -implicitDefEqProofs (maxSteps:=1000000) (disch:=first | omega | (simp only [LN,e1];omega)) only [go_sem,e1])
   )
   all_goals first | omega | (simp [txE,wsE,joinL, *,decP_s,decP_0];done)
  ·have e1:IntKind.u64.wrap x.ln=x.ln:=by rw [wr64];omega
   have e2:IntKind.u64.wrap x.n=x.n:=by rw [wr64];omega
   have kd:=sDec [119,114,105,116,101,98,97,99,107] (by simp) [x.ln,x.n] (by simp) (by intro j;match j with | 0=>exact ⟨h2.1,by show x.ln≤_;omega⟩ | 1=>exact ⟨h3.1,by show x.n≤_;omega⟩ | j+2=>exact (show (0:Int)≤0∧(0:Int)≤18446744073709551615 from ⟨by decide,by decide⟩))
   repeat' (first
    | (with_reducible first | apply zY | apply zT | apply zM | apply zN | apply zO | refine qK ?_ | (show False;omega))
    | ((with_reducible first | apply zP | apply zQ | apply zR | apply zL)<;>intro h<;>try (exfalso;first | omega | exact h rfl | (revert h;decide) | (cases h;done)))
    | ((first | (with_reducible first | apply zW | apply zV | apply zU | apply zS | apply zX | show VX _ _ _ _ _ _ _ | show vstep _ _ _ _ _ | show vskip _ _ _ | show withV _ _ | apply qN | apply qR | refine zB default ?_ (by first | omega | (simp only [LN,e1,e2];omega)) (by first | omega | (simp only [LN,e1,e2];omega)) | refine zC default ?_ (by first | omega | (simp only [LN,e1,e2];omega)) | refine qI ?_ (by first | decide | omega | assumption | (simp only [LN,e1,e2];omega))) | ((with_reducible apply zD);(first | exact kv | exact kd)) | ((with_reducible apply zE);(first | exact kv | exact kd);rfl) | ((with_reducible apply zF);(first | exact kv | exact kd)) | ((with_reducible show pickE _ _ _);refine qA _ ?_));try simp -dsimp -implicitDefEqProofs (maxSteps:=1000000) (disch:=first | omega | (simp only [LN,e1,e2];omega)) only [go_sem,e1,e2])
   )
   all_goals first | omega | (simp [txE,wsE,joinL, *,decP_s,decP_0];done)
  ·have ki:=lItoa x.n (by omega)
   have hl:=numL_len (n:=x.n) (by omega)
   repeat' (first
    | (with_reducible first | apply zY | apply zT | apply zM | apply zN | apply zO | refine qK ?_ | (show False;omega))
    | ((with_reducible first | apply zP | apply zQ | apply zR | apply zL)<;>intro h<;>try (exfalso;first | omega | exact h rfl | (revert h;decide) | (cases h;done)))
    | ((first | (with_reducible first | apply zW | apply zV | apply zU | apply zS | apply zX | show VX _ _ _ _ _ _ _ | show vstep _ _ _ _ _ | show vskip _ _ _ | show withV _ _ | apply qN | apply qR | refine zB default ?_ | refine zC default ?_ | refine qI ?_) | ((with_reducible apply zD);(first | exact kv | exact ki)) | ((with_reducible apply zE);(first | exact kv | exact ki);rfl) | ((with_reducible apply zF);(first | exact kv | exact ki)) | ((with_reducible show pickE _ _ _);refine qA _ ?_));try simp -dsimp -implicitDefEqProofs (maxSteps:=1000000) (disch:=first | omega | (simp only [LN];omega)) only [go_sem])
   )
   all_goals first | omega | (simp [txE,wsE,joinL, *];done)
  ·by_cases h0:x.ch.length=0
   ·have h00:x.ch=[]:=List.length_eq_zero_iff.1 h0
    repeat' (first
     | (with_reducible first | apply zY | apply zT | apply zM | apply zN | apply zO | refine qK ?_ | (show False;omega))
     | ((with_reducible first | apply zP | apply zQ | apply zR | apply zL)<;>intro h<;>try (exfalso;first | omega | exact h rfl | (revert h;decide) | (cases h;done)))
     | ((first | (with_reducible first | apply zW | apply zV | apply zU | apply zS | apply zX | show VX _ _ _ _ _ _ _ | show vstep _ _ _ _ _ | show vskip _ _ _ | show withV _ _ | apply qN | apply qR | refine zB default ?_ | refine zC default ?_ | refine qI ?_) | ((with_reducible apply zD);(exact kv)) | ((with_reducible apply zE);(exact kv);rfl) | ((with_reducible apply zF);(exact kv)) | ((with_reducible show pickE _ _ _);refine qA _ ?_));try simp -dsimp -implicitDefEqProofs (maxSteps:=1000000) (disch:=first | omega | (simp only [LN];omega)) only [go_sem])
    )
    all_goals first | omega | (simp [txE,wsE,joinL,chL, *];done)
   ·have ht:=crP_tx h h0
    rw [ht]
    repeat' (first
     | (with_reducible first | apply zY | apply zT | apply zM | apply zN | apply zO | refine qK ?_ | (show False;omega))
     | ((with_reducible first | apply zP | apply zQ | apply zR | apply zL)<;>intro h<;>try (exfalso;first | omega | exact h rfl | (revert h;decide) | (cases h;done)))
     | ((first | (with_reducible first | apply zW | apply zV | apply zU | apply zS | apply zX | show VX _ _ _ _ _ _ _ | show vstep _ _ _ _ _ | show vskip _ _ _ | show withV _ _ | apply qN | apply qR | refine zB default ?_ | refine zC default ?_ | refine qI ?_) | ((with_reducible apply zD);(exact kv)) | ((with_reducible apply zE);(exact kv);rfl) | ((with_reducible apply zF);(exact kv)) | ((with_reducible show pickE _ _ _);refine qA _ ?_));try simp -dsimp -implicitDefEqProofs (maxSteps:=1000000) (disch:=first | omega | (simp only [LN];omega)) only [go_sem])
    )
    all_goals try (exfalso;omega)
    refine r_loopA (α:=Nat) [70,71] (fun i b=>[(4,.sl b 1 0 (6+2*i)),(72,aI i)]) (fun i b=>[]) (fun i=>[.arr 1 ((crP x.ch i).map eB)]) (fun i=>i≤x.ch.length) (fun i=>x.ch.length - i) (0) ?h0_2 ?hs0_2 ?I_2 ?hI_2 ?round_2
    case hI_2=>intro x;(simp -dsimp -implicitDefEqProofs (maxSteps:=1000000) (disch:=first | omega | (simp only [LN];omega)) only [go_sem])<;>exact rfl
    case hs0_2=>refine wk_auto ?_;(simp -dsimp -implicitDefEqProofs (maxSteps:=1000000) (disch:=first | omega | (simp only [LN,crP_0];omega)) only [go_sem,crP_0])<;>(try omega)
    case h0_2=>exact Nat.zero_le _
    case round_2 =>
     intro i hi
     have hlen:=crP_len x.ch i hi
     by_cases hlt:i<x.ch.length
     ·have hs:crP x.ch (i+1)=crP x.ch i++[hexS.getD ((x.ch.getD i default).toNat / 16) 0,hexS.getD ((x.ch.getD i default).toNat % 16) 0]:=crP_s hlt
      have hb:=UInt8.toNat_lt (x.ch.getD i default)
      have e5:IntKind.u8.wrap (((x.ch.getD i default).toNat:Int) / 16)=(((x.ch.getD i default).toNat / 16:Nat):Int):=by rw [wr8];omega
      have e6:IntKind.u8.wrap ((BitVec.ofInt IntKind.u8.bits ((x.ch.getD i default).toNat:Int) &&& BitVec.ofInt IntKind.u8.bits 15).toNat:Int)=(((x.ch.getD i default).toNat % 16:Nat):Int):=by
       show IntKind.u8.wrap ((BitVec.ofInt 8 ((x.ch.getD i default).toNat:Int) &&& BitVec.ofInt 8 15).toNat:Int)=_
       rw [and15 (by omega),wr8];omega
      have e7:(((x.ch.getD i default).toNat:Int) / 16).toNat=(x.ch.getD i default).toNat / 16:=by omega
      have e8:(((x.ch.getD i default).toNat:Int) % 16).toNat=(x.ch.getD i default).toNat % 16:=by omega
      repeat' (first
       | (with_reducible first | apply zY | apply zT | apply zM | apply zN | apply zO | refine qK ?_ | (show False;omega))
       | ((with_reducible first | apply zP | apply zQ | apply zR | apply zL)<;>intro h<;>try (exfalso;first | omega | exact h rfl | (revert h;decide) | (cases h;done)))
       | ((first | (with_reducible first | apply zW | apply zV | apply zU | apply zS | apply zX | show VX _ _ _ _ _ _ _ | show vstep _ _ _ _ _ | show vskip _ _ _ | show withV _ _ | apply qN | apply qR | refine zB default ?_ (by first | omega | (simp only [LN,hlen,e5,e6,e7,e8];omega)) (by first | omega | (simp only [LN,hlen,e5,e6,e7,e8];omega)) | refine zC default ?_ (by first | omega | (simp only [LN,hlen,e5,e6,e7,e8];omega)) | refine qI ?_ (by first | decide | omega | assumption | (simp only [LN,hlen,e5,e6,e7,e8];omega))) | ((with_reducible show pickE _ _ _);refine qA _ ?_));try simp -dsimp -implicitDefEqProofs (maxSteps:=1000000) (disch:=first | omega | (simp only [LN,hlen,e5,e6,e7,e8];omega)) only [go_sem,hlen,e5,e6,e7,e8])
      )
      all_goals first | omega | (refine zZ (i+1) ?_ ?_ ?_;(omega);(show _<_;omega);(simp -dsimp -implicitDefEqProofs (maxSteps:=1000000) (disch:=first | omega | (simp only [LN,hs,List.map_append,List.map_cons,List.map_nil,hlen,hexS,e7,e8];omega)) only [go_sem,hs,List.map_append,List.map_cons,List.map_nil,hlen,hexS,e7,e8];try trivial))
     ·obtain rfl:i=x.ch.length:=by omega
      have ht2:List.take (6+2*x.ch.length) (crP x.ch x.ch.length)=crP x.ch x.ch.length:=List.take_of_length_le (by omega)
      repeat' (first
       | (with_reducible first | apply zY | apply zT | apply zM | apply zN | apply zO | refine qK ?_ | (show False;omega))
       | ((with_reducible first | apply zP | apply zQ | apply zR | apply zL)<;>intro h<;>try (exfalso;first | omega | exact h rfl | (revert h;decide) | (cases h;done)))
       | ((first | (with_reducible first | apply zW | apply zV | apply zU | apply zS | apply zX | show VX _ _ _ _ _ _ _ | show vstep _ _ _ _ _ | show vskip _ _ _ | show withV _ _ | apply qN | apply qR | refine zB default ?_ (by first | omega | (simp only [LN,hlen,ht2];omega)) (by first | omega | (simp only [LN,hlen,ht2];omega)) | refine zC default ?_ (by first | omega | (simp only [LN,hlen,ht2];omega)) | refine qI ?_ (by first | decide | omega | assumption | (simp only [LN,hlen,ht2];omega))) | ((with_reducible show pickE _ _ _);refine qA _ ?_));try simp -dsimp -implicitDefEqProofs (maxSteps:=1000000) (disch:=first | omega | (simp only [LN,hlen,ht2];omega)) only [go_sem,hlen,ht2])
      )
      all_goals first | rfl | omega
end Go.Proofs.YtckhjklcfagkoaaGreatDoor
