/- Contracts of functions of this program, and the plain facts that they rest on. No conditions. -/
import Derived.Test.YtckhjklcfagkoaaGreatDoorJScEQ
set_option linter.unusedSimpArgs false
set_option linter.unusedVariables false
namespace Go.Proofs.YtckhjklcfagkoaaGreatDoor
set_option maxHeartbeats 4000000
set_option maxRecDepth 100000
open Go Go.Ab
attribute [local irreducible] callK callF loopQ vstep vskip pickE hideP
open Go.RowKit
attribute [local go_sem] eE eT bs_inj ext_bs byteAt_bs
attribute [local irreducible] numL
def fV (ws:List (List UInt8)) (b:Bool):Ob:=.var [.p (.view 1 (ws.map eT)),.p (.v (.bool b))]
attribute [local go_sem] fV
theorem rdWord (w:List UInt8) (ws:List (List UInt8)) (b:Bool) (hl:ws.length≤1000):ACalls Tryz.prog 98 [.loc 0 0] [fV (w::ws) b] (.p (.v (.string (bs w)))) [fV ws b]:=by
 refine yA (E:=E) (fn:=Tryz.f98) 28 [.tmp 2] rfl rfl rfl rfl (by decide) rfl rfl ?_
 repeat' (first
  | (with_reducible first | apply zY | apply zT | apply zM | apply zN | apply zO | refine qK ?_ | (show False;omega))
  | ((with_reducible first | apply zP | apply zQ | apply zR | apply zL)<;>intro h)
  | ((first | (with_reducible first | apply zW | apply zV | apply zU | apply zS | apply zX | show VX _ _ _ _ _ _ _ | show vstep _ _ _ _ _ | show vskip _ _ _ | show withV _ _ | apply qN | apply qR | refine zB default ?_ (by first | omega | (simp only [LN,List.getD_cons_zero,List.drop_succ_cons,List.drop_zero];omega)) (by first | omega | (simp only [LN,List.getD_cons_zero,List.drop_succ_cons,List.drop_zero];omega)) | refine zC default ?_ (by first | omega | (simp only [LN,List.getD_cons_zero,List.drop_succ_cons,List.drop_zero];omega)) | refine qI ?_ (by first | decide | omega | assumption | (simp only [LN,List.getD_cons_zero,List.drop_succ_cons,List.drop_zero];omega))) | ((with_reducible show pickE _ _ _);refine qA _ ?_));try simp -dsimp -implicitDefEqProofs (maxSteps:=1000000) (disch:=first | omega | (simp only [LN,List.getD_cons_zero,List.drop_succ_cons,List.drop_zero];omega)) only [go_sem,List.getD_cons_zero,List.drop_succ_cons,List.drop_zero])
 )
theorem rdNum (n m:Int) (h1:0≤n∧n≤m) (hm:m≤18446744073709551615) (ws:List (List UInt8)) (b:Bool) (hl:ws.length≤1000):ACalls Tryz.prog 100 [.loc 0 0,.p (.v (.int .u64 m))] [fV (numL n::ws) b] (.p (.v (.int .u64 n))) [fV ws b]:=by
 refine yA (E:=E) (fn:=Tryz.f100) 36 [.tmp 4] rfl rfl rfl rfl (by decide) rfl rfl ?_
 have hz:=num_z (n:=n) h1.1
 have hl2:=numL_len (n:=n) (by omega)
 repeat' (first
  | (with_reducible first | apply zY | apply zT | apply zM | apply zN | apply zO | refine qK ?_ | (show False;omega))
  | ((with_reducible first | apply zP | apply zQ | apply zR | apply zL)<;>intro h<;>try (exfalso;first | omega | exact h rfl | (revert h;decide) | (cases h;done)))
  | ((first | (with_reducible first | apply zW | apply zV | apply zU | apply zS | apply zX | show VX _ _ _ _ _ _ _ | show vstep _ _ _ _ _ | show vskip _ _ _ | show withV _ _ | apply qN | apply qR | refine zB default ?_ | refine zC default ?_ | refine qI ?_) | ((with_reducible apply zD);(exact lParseU n (by omega))) | ((with_reducible apply zE);(exact lParseU n (by omega));rfl) | ((with_reducible apply zF);(exact lParseU n (by omega))) | (with_reducible first | apply zG | apply zH | apply zI) | ((with_reducible apply zJ);(first | exact rdWord (numL n) ws b hl)) | ((with_reducible show pickE _ _ _);refine qA _ ?_));try simp -dsimp -implicitDefEqProofs (maxSteps:=1000000) (disch:=first | omega | (simp only [LN];omega)) only [go_sem])
 )
 all_goals first | omega | (exfalso;exact hz (by omega) (by omega))
theorem rdThr (n:Int) (h1:0≤n∧n≤7) (ws:List (List UInt8)) (b:Bool) (hl:ws.length≤1000):ACalls Tryz.prog 99 [.loc 0 0] [fV (numL n::ws) b] (.p (.v (.int .i64 n))) [fV ws b]:=by
 refine yA (E:=E) (fn:=Tryz.f99) 6 [.tmp 2] rfl rfl rfl rfl (by decide) rfl rfl ?_
 have e1:IntKind.i64.wrap n=n:=by rw [IntKind.wrap_i64];omega
 repeat' (first
  | (with_reducible first | apply zY | apply zT | apply zM | apply zN | apply zO | refine qK ?_ | (show False;omega))
  | ((with_reducible first | apply zP | apply zQ | apply zR | apply zL)<;>intro h<;>try (exfalso;first | omega | exact h rfl | (revert h;decide) | (cases h;done)))
  | ((first | (with_reducible first | apply zW | apply zV | apply zU | apply zS | apply zX | show VX _ _ _ _ _ _ _ | show vstep _ _ _ _ _ | show vskip _ _ _ | show withV _ _ | apply qN | apply qR | refine zB default ?_ (by first | omega | (simp only [LN,e1];omega)) (by first | omega | (simp only [LN,e1];omega)) | refine zC default ?_ (by first | omega | (simp only [LN,e1];omega)) | refine qI ?_ (by first | decide | omega | assumption | (simp only [LN,e1];omega))) | (with_reducible first | apply zG | apply zH | apply zI) | ((with_reducible apply zJ);(first | exact rdNum n 7 h1 (by decide) ws b hl)) | ((with_reducible show pickE _ _ _);refine qA _ ?_));try simp -dsimp -implicitDefEqProofs (maxSteps:=1000000) (disch:=first | omega | (simp only [LN,e1];omega)) only [go_sem,e1])
 )
 all_goals first | omega
theorem idx_hex:∀ d:Fin 16,Lib.indexByte hexS (hexS.getD d.val 0)=(d.val:Int):=by decide
theorem lIdx (d:Nat) (h:d<16):PCalls Tryz.prog 113 [.v (.string (bs hexS)),.v (.int .u8 ((hexS.getD d 0).toNat:Nat))] (.v (.int .i64 d)):=by
 refine pcalls_val ⟨_,rfl,rfl,by decide⟩ (u:=.int .i64 d) (fun Z w=>by simp [Rep,oneB]) fun Z w vals hz hv=>?_
 have e:vals=[.string (bs hexS),.int .u8 ((hexS.getD d 0).toNat:Nat)]:=by
  simp only [Reps,Rep] at hv
  obtain ⟨_,_,rfl,⟨rfl,_⟩,_,_,rfl,⟨rfl,_⟩,rfl⟩:=hv
  rfl
 subst e
 have:=Tryz.strings_IndexByte (bs hexS) ((hexS.getD d 0).toNat:Int) w
 rw [show (bs hexS).data.toList=hexS from rfl,show (((hexS.getD d 0).toNat:Int)).toNat.toUInt8=hexS.getD d 0 by simp,idx_hex ⟨d,h⟩] at this
 exact this.mono fun e w' ⟨he,hw⟩=>⟨he,by rw [hw];exact Below.refl _ _⟩
def nib (c:List UInt8) (i:Nat):Nat:=if i % 2=0 then (c.getD (i / 2) 0).toNat / 16 else (c.getD (i / 2) 0).toNat % 16
theorem nib_lt (c:List UInt8) (i:Nat):nib c i<16:=by
 have:=UInt8.toNat_lt (c.getD (i / 2) 0)
 unfold nib;split<;>omega
theorem hexL_get:∀ (c:List UInt8) (i:Nat),i<2*c.length→(hexL c).getD i 0=hexS.getD (nib c i) 0
 | [],i,h=>by simp at h
 | b::c,0,_=>by simp [hexL,nib]
 | b::c,1,_=>by simp [hexL,nib]
 | b::c,i+2,h=>by
  have ih:=hexL_get c i (by simp at h;omega)
  have e1:(i+2) % 2=i % 2:=by omega
  have e2:(i+2) / 2=i / 2+1:=by omega
  have e3:(hexL (b::c)).getD (i+2) 0=(hexL c).getD i 0:=by simp [hexL]
  rw [e3,ih]
  unfold nib
  rw [e1,e2,List.getD_cons_succ]
def chP (c:List UInt8) (i:Nat):List UInt8:=(List.range c.length).map fun j=>if j<i / 2 then c.getD j 0 else if j=i / 2∧i % 2=1 then UInt8.ofNat ((c.getD j 0).toNat / 16) else 0
theorem chP_len (c:List UInt8) (i:Nat):(chP c i).length=c.length:=by simp [chP]
theorem chP_0 (c:List UInt8):(chP c 0).map eB=List.replicate c.length (PV.v (.int .u8 0)):=by
 apply List.ext_getElem (by simp [chP])
 intro i h1 h2
 simp [chP,eB]
theorem chP_get (c:List UInt8) (i:Nat) (h:i<2*c.length):((chP c i).getD (i / 2) default).toNat=if i % 2=1 then (c.getD (i / 2) 0).toNat / 16 else 0:=by
 have hb:=UInt8.toNat_lt (c.getD (i / 2) 0)
 have hj:i / 2<(List.range c.length).length:=by simp;omega
 rw [List.getD_eq_getElem?_getD,chP,List.getElem?_map,List.getElem?_eq_getElem hj]
 simp only [List.getElem_range,Option.map_some,Option.getD_some,Nat.lt_irrefl,if_false,true_and]
 split
 ·generalize c.getD (i / 2) 0=y at *;simp;omega
 ·rfl
theorem chP_s (c:List UInt8) (i:Nat) (h:i<2*c.length) (x:Int) (hx:x=if i % 2=1 then ((c.getD (i / 2) 0).toNat:Int) else ((c.getD (i / 2) 0).toNat / 16:Nat)):((chP c i).map eB).set (i / 2) (.v (.int .u8 x))=(chP c (i+1)).map eB:=by
 subst hx
 apply List.ext_getElem (by simp [chP])
 intro j h1 h2
 have hb:=UInt8.toNat_lt (c.getD (i / 2) 0)
 rw [List.getElem_set]
 simp only [chP,List.getElem_map,List.getElem_range,eB]
 by_cases e:i / 2=j
 ·subst e
  rw [if_pos rfl]
  by_cases hp:i % 2=1
  ·rw [if_pos hp,if_pos (by omega)]
  ·rw [if_neg hp,if_neg (by omega),if_pos (by omega)]
   congr 2
   generalize c.getD (i / 2) 0=y at *;simp;omega
 ·rw [if_neg e]
  by_cases hlt:j<i / 2
  ·rw [if_pos hlt,if_pos (by omega)]
  ·rw [if_neg hlt,if_neg (by omega),if_neg (by omega),if_neg (by omega)]
theorem chP_all (c:List UInt8):chP c (2*c.length)=c:=by
 apply List.ext_getElem (by simp [chP])
 intro j h1 h2
 simp only [chP,List.getElem_map,List.getElem_range]
 rw [if_pos (by omega)]
 simp [List.getD_eq_getElem?_getD,h2]
theorem or8 {a d:Nat} (ha:a<16) (hd:d<16):IntKind.u8.wrap ((BitVec.ofInt IntKind.u8.bits (IntKind.u8.wrap ((a:Int)*16)) ||| BitVec.ofInt IntKind.u8.bits (d:Int)).toNat:Int)=((a*16+d:Nat):Int):=by
 have key:∀ a d:Fin 16,(BitVec.ofNat 8 (a.val*16) ||| BitVec.ofNat 8 d.val).toNat=a.val*16+d.val:=by decide
 have e1:IntKind.u8.wrap ((a:Int)*16)=((a*16:Nat):Int):=by rw [wr8];omega
 rw [e1]
 show IntKind.u8.wrap ((BitVec.ofInt 8 ((a*16:Nat):Int) ||| BitVec.ofInt 8 (d:Int)).toNat:Int)=_
 rw [BitVec.ofInt_natCast,BitVec.ofInt_natCast,key ⟨a,ha⟩ ⟨d,hd⟩,wr8]
 simp only;omega
attribute [local irreducible] chP nib
theorem hex45 {c:List UInt8} (h:¬ c.length=0):¬ hexL c=[45]:=fun e=>by
 have:=congrArg List.length e
 rw [hexL_len] at this;simp at this;omega
theorem rdCh0 (ws:List (List UInt8)) (b:Bool) (hl:ws.length≤1000):ACalls Tryz.prog 101 [.loc 0 0] [fV ([45]::ws) b] (.p (.view 1 [])) [fV ws b]:=by
 refine yA (E:=E) (fn:=Tryz.f101) 61 [.tmp 2] rfl rfl rfl rfl (by decide) rfl rfl ?_
 repeat' (first
  | (with_reducible first | apply zY | apply zT | apply zM | apply zN | apply zO | refine qK ?_ | (show False;omega))
  | ((with_reducible first | apply zP | apply zQ | apply zR | apply zL)<;>intro h<;>try (exfalso;first | omega | exact h rfl | (revert h;decide) | (cases h;done)))
  | ((first | (with_reducible first | apply zW | apply zV | apply zU | apply zS | apply zX | show VX _ _ _ _ _ _ _ | show vstep _ _ _ _ _ | show vskip _ _ _ | show withV _ _ | apply qN | apply qR | refine zB default ?_ | refine zC default ?_ | refine qI ?_) | (with_reducible first | apply zG | apply zH | apply zI) | ((with_reducible apply zJ);(first | exact rdWord [45] ws b hl)) | ((with_reducible show pickE _ _ _);refine qA _ ?_));try simp -dsimp -implicitDefEqProofs (maxSteps:=1000000) (disch:=first | omega | (simp only [LN];omega)) only [go_sem])
 )
 all_goals first | omega | (exact absurd rfl h)
theorem rdCh1 (c:List UInt8) (h0:¬ c.length=0) (hc:c.length≤512) (ws:List (List UInt8)) (b:Bool) (hl:ws.length≤1000):ACalls Tryz.prog 101 [.loc 0 0] [fV (hexL c::ws) b] (.p (.view 1 (c.map eB))) [fV ws b]:=by
 refine yA (E:=E) (fn:=Tryz.f101) 61 [.tmp 2] rfl rfl rfl rfl (by decide) rfl rfl ?_
 have hlen:=hexL_len c
 have h45:=hex45 h0
 have e0:((2*c.length:Nat):Int).tmod 2=0:=by rw [show ((2*c.length:Nat):Int).tmod 2=((2*c.length % 2:Nat):Int) from rfl];omega
 have e1:((2*c.length:Nat):Int).tdiv 2=(c.length:Int):=by rw [show ((2*c.length:Nat):Int).tdiv 2=((2*c.length / 2:Nat):Int) from rfl];omega
 have e2:IntKind.i64.wrap (c.length:Int)=c.length:=by rw [IntKind.wrap_i64];omega
 have e3:IntKind.i64.wrap 0=0:=rfl
 have hcp:=chP_len c
 repeat' (first
  | (with_reducible first | apply zY | apply zT | apply zM | apply zN | apply zO | refine qK ?_ | (show False;omega))
  | ((with_reducible first | apply zP | apply zQ | apply zR | apply zL)<;>intro h<;>try (exfalso;first | omega | exact h rfl | (revert h;decide) | (cases h;done)))
  | ((first | (with_reducible first | apply zW | apply zV | apply zU | apply zS | apply zX | show VX _ _ _ _ _ _ _ | show vstep _ _ _ _ _ | show vskip _ _ _ | show withV _ _ | apply qN | apply qR | refine zB default ?_ (by first | omega | (simp only [LN,hlen,h45,e0,e1,e2,e3];omega)) (by first | omega | (simp only [LN,hlen,h45,e0,e1,e2,e3];omega)) | refine zC default ?_ (by first | omega | (simp only [LN,hlen,h45,e0,e1,e2,e3];omega)) | refine qI ?_ (by first | decide | omega | assumption | (simp only [LN,hlen,h45,e0,e1,e2,e3];omega))) | (with_reducible first | apply zG | apply zH | apply zI) | ((with_reducible apply zJ);(first | exact rdWord (hexL c) ws b hl)) | ((with_reducible show pickE _ _ _);refine qA _ ?_));try simp -dsimp -implicitDefEqProofs (maxSteps:=1000000) (disch:=first | omega | (simp only [LN,hlen,h45,e0,e1,e2,e3];omega)) only [go_sem,hlen,h45,e0,e1,e2,e3])
 )
 all_goals try (exfalso;first | omega | contradiction)
 refine r_loopA (α:=Nat) [0,3,4,33] (fun i b=>[(34,aI i)]) (fun i b=>[(4,.arr 1 ((chP c i).map eB))]) (fun i=>[]) (fun i=>i≤2*c.length) (fun i=>2*c.length - i) (0) ?h0_1 ?hs0_1 ?I_1 ?hI_1 ?round_1
 case hI_1=>intro x;(simp -dsimp -implicitDefEqProofs (maxSteps:=1000000) (disch:=first | omega | (simp only [LN];omega)) only [go_sem])<;>exact rfl
 case hs0_1=>refine wk_auto ?_;(simp -dsimp -implicitDefEqProofs (maxSteps:=1000000) (disch:=first | omega | (simp only [LN,chP_0];omega)) only [go_sem,chP_0])<;>(try omega)
 case h0_1=>exact Nat.zero_le _
 case round_1 =>
  intro i hi
  by_cases h:i<2*c.length
  ·have hg:=hexL_get c i h
   have ki:=lIdx (nib c i) (nib_lt c i)
   have hn:=nib_lt c i
   have hv:=chP_get c i h
   have hb:=UInt8.toNat_lt (c.getD (i / 2) 0)
   have d1:(i:Int).tdiv 2=((i / 2:Nat):Int):=rfl
   have d2:IntKind.i64.wrap ((i / 2:Nat):Int)=((i / 2:Nat):Int):=by rw [IntKind.wrap_i64];omega
   have d4:((i:Int) / 2).toNat=i / 2:=by omega
   have d3:IntKind.u8.wrap (nib c i:Int)=nib c i:=by rw [wr8];omega
   have hor:=or8 (a:=((chP c i).getD (i / 2) default).toNat) (d:=nib c i) (by rw [hv];split<;>omega) hn
   have hst:=chP_s c i h (((((chP c i).getD (i / 2) default).toNat*16+nib c i:Nat):Int)) (by
    rw [hv];unfold nib
    by_cases hp:i % 2=1
    ·rw [if_pos hp,if_pos hp,if_neg (by omega)];omega
    ·rw [if_neg hp,if_neg hp,if_pos (by omega)];simp)
   repeat' (first
    | (with_reducible first | apply zY | apply zT | apply zM | apply zN | apply zO | refine qK ?_ | (show False;omega))
    | ((with_reducible first | apply zP | apply zQ | apply zR | apply zL)<;>intro h<;>try (exfalso;first | omega | exact h rfl | (revert h;decide) | (cases h;done)))
    | ((first | (with_reducible first | apply zW | apply zV | apply zU | apply zS | apply zX | show VX _ _ _ _ _ _ _ | show vstep _ _ _ _ _ | show vskip _ _ _ | show withV _ _ | apply qN | apply qR | refine zB default ?_ (by first | omega | (simp only [LN,hlen,hg,hcp,d1,d2,d3,d4,hor];omega)) (by first | omega | (simp only [LN,hlen,hg,hcp,d1,d2,d3,d4,hor];omega)) | refine zC default ?_ (by first | omega | (simp only [LN,hlen,hg,hcp,d1,d2,d3,d4,hor];omega)) | refine qI ?_ (by first | decide | omega | assumption | (simp only [LN,hlen,hg,hcp,d1,d2,d3,d4,hor];omega))) | ((with_reducible apply zD);(exact ki)) | ((with_reducible apply zE);(exact ki);rfl) | ((with_reducible apply zF);(exact ki)) | ((with_reducible show pickE _ _ _);refine qA _ ?_));try simp -dsimp -implicitDefEqProofs (maxSteps:=1000000) (disch:=first | omega | (simp only [LN,hlen,hg,hcp,d1,d2,d3,d4,hor];omega)) only [go_sem,hlen,hg,hcp,d1,d2,d3,d4,hor])
   )
   all_goals first | omega | ((refine zZ (i+1) ?_ ?_ ?_;(omega);(show _<_;omega);(simp -dsimp -implicitDefEqProofs (maxSteps:=1000000) (disch:=first | omega | (simp only [LN,d4,hor];omega)) only [go_sem,d4,hor];try trivial));exact .inl (by rw [← Int.natCast_add];exact hst))
  ·obtain rfl:i=2*c.length:=by omega
   have ha:=chP_all c
   repeat' (first
    | (with_reducible first | apply zY | apply zT | apply zM | apply zN | apply zO | refine qK ?_ | (show False;omega))
    | ((with_reducible first | apply zP | apply zQ | apply zR | apply zL)<;>intro h<;>try (exfalso;first | omega | exact h rfl | (revert h;decide) | (cases h;done)))
    | ((first | (with_reducible first | apply zW | apply zV | apply zU | apply zS | apply zX | show VX _ _ _ _ _ _ _ | show vstep _ _ _ _ _ | show vskip _ _ _ | show withV _ _ | apply qN | apply qR | refine zB default ?_ (by first | omega | (simp only [LN,hlen,hcp,ha];omega)) (by first | omega | (simp only [LN,hlen,hcp,ha];omega)) | refine zC default ?_ (by first | omega | (simp only [LN,hlen,hcp,ha];omega)) | refine qI ?_ (by first | decide | omega | assumption | (simp only [LN,hlen,hcp,ha];omega))) | ((with_reducible show pickE _ _ _);refine qA _ ?_));try simp -dsimp -implicitDefEqProofs (maxSteps:=1000000) (disch:=first | omega | (simp only [LN,hlen,hcp,ha];omega)) only [go_sem,hlen,hcp,ha])
   )
   all_goals first | rfl | omega
theorem rdCh (c:List UInt8) (hc:c.length≤512) (ws:List (List UInt8)) (b:Bool) (hl:ws.length≤1000):ACalls Tryz.prog 101 [.loc 0 0] [fV (chL c::ws) b] (.p (.view 1 (c.map eB))) [fV ws b]:=by
 by_cases h0:c.length=0
 ·obtain rfl:c=[]:=List.length_eq_zero_iff.1 h0
  exact rdCh0 ws b hl
 ·rw [chL_e h0];exact rdCh1 c h0 hc ws b hl
end Go.Proofs.YtckhjklcfagkoaaGreatDoor
namespace Go.Proofs.YtckhjklcfagkoaaGreatDoor
set_option maxHeartbeats 4000000
set_option maxRecDepth 100000
open Go Go.Ab
attribute [local irreducible] callK callF loopQ vstep vskip pickE hideP
open Go.RowKit
attribute [local go_sem] eE eT bs_inj ext_bs byteAt_bs fV
attribute [local irreducible] numL
theorem tx_len5 {x:Ev} (h:okE x=true) (R:Rng x):5≤(txE x).length:=by
 have hk:=okE_t h
 have n1:=numL_len (n:=x.th) ⟨R.th.1,by have:=R.th.2;omega⟩
 have n6:=numL_len (n:=x.n) ⟨R.n.1,by have:=R.n.2;omega⟩
 have n5:=numL_len (n:=x.ln) ⟨R.ln.1,by have:=R.ln.2;omega⟩
 have hks:x.k=1∨x.k=2∨x.k=3∨x.k=4∨x.k=5∨x.k=6∨x.k=7:=by unfold okK at hk;omega
 rcases hks with h | h | h | h | h | h | h<;>simp [txE,wsE,joinL,h]<;>omega
theorem ev_1 {x:Ev} (h:okK x) (hk:x.k=1):x=⟨1,x.th,x.o,x.v,0,0,0,[]⟩∧0≤x.th∧x.th≤7:=by
 unfold okK at h
 obtain ⟨k,th,o,v,w,ln,n,ch⟩:=x
 simp only at *
 have h1:ch.length=0∧w=0∧ln=0∧n=0∧0≤th∧th≤7:=by omega
 obtain ⟨h1,rfl,rfl,rfl,h2⟩:=h1
 obtain rfl:=List.length_eq_zero_iff.1 h1
 exact ⟨by rw [hk],h2⟩
theorem ev_2 {x:Ev} (h:okK x) (hk:x.k=2):x=⟨2,x.th,x.o,x.v,x.w,0,0,[]⟩∧0≤x.th∧x.th≤7:=by
 unfold okK at h
 obtain ⟨k,th,o,v,w,ln,n,ch⟩:=x
 simp only at *
 have h1:ch.length=0∧ln=0∧n=0∧0≤th∧th≤7:=by omega
 obtain ⟨h1,rfl,rfl,h2⟩:=h1
 obtain rfl:=List.length_eq_zero_iff.1 h1
 exact ⟨by rw [hk],h2⟩
theorem ev_3 {x:Ev} (h:okK x) (hk:x.k=3):x=⟨3,x.th,x.o,0,0,0,0,[]⟩∧0≤x.th∧x.th≤7:=by
 unfold okK at h
 obtain ⟨k,th,o,v,w,ln,n,ch⟩:=x
 simp only at *
 have h1:ch.length=0∧v=0∧w=0∧ln=0∧n=0∧0≤th∧th≤7:=by omega
 obtain ⟨h1,rfl,rfl,rfl,rfl,h2⟩:=h1
 obtain rfl:=List.length_eq_zero_iff.1 h1
 exact ⟨by rw [hk],h2⟩
theorem ev_4 {x:Ev} (h:okK x) (hk:x.k=4):x=⟨4,x.th,0,0,0,0,0,[]⟩∧0≤x.th∧x.th≤7:=by
 unfold okK at h
 obtain ⟨k,th,o,v,w,ln,n,ch⟩:=x
 simp only at *
 have h1:ch.length=0∧o=0∧v=0∧w=0∧ln=0∧n=0∧0≤th∧th≤7:=by omega
 obtain ⟨h1,rfl,rfl,rfl,rfl,rfl,h2⟩:=h1
 obtain rfl:=List.length_eq_zero_iff.1 h1
 exact ⟨by rw [hk],h2⟩
theorem ev_5 {x:Ev} (h:okK x) (hk:x.k=5):x=⟨5,0,0,0,0,x.ln,x.n,[]⟩∧(0≤x.ln∧x.ln≤4095)∧0≤x.n∧x.n≤2147483647:=by
 unfold okK at h
 obtain ⟨k,th,o,v,w,ln,n,ch⟩:=x
 simp only at *
 have h1:ch.length=0∧th=0∧o=0∧v=0∧w=0∧(0≤ln∧ln≤4095)∧0≤n∧n≤2147483647:=by omega
 obtain ⟨h1,rfl,rfl,rfl,rfl,h2⟩:=h1
 obtain rfl:=List.length_eq_zero_iff.1 h1
 exact ⟨by rw [hk],h2⟩
theorem ev_6 {x:Ev} (h:okK x) (hk:x.k=6):x=⟨6,0,0,0,0,0,x.n,[]⟩∧-1≤x.n∧x.n≤2147483647:=by
 unfold okK at h
 obtain ⟨k,th,o,v,w,ln,n,ch⟩:=x
 simp only at *
 have h1:ch.length=0∧th=0∧o=0∧v=0∧w=0∧ln=0∧-1≤n∧n≤2147483647:=by omega
 obtain ⟨h1,rfl,rfl,rfl,rfl,rfl,h2⟩:=h1
 obtain rfl:=List.length_eq_zero_iff.1 h1
 exact ⟨by rw [hk],h2⟩
theorem ev_7 {x:Ev} (h:okK x) (hk:x.k=7):x=⟨7,0,0,0,0,0,0,x.ch⟩∧x.ch.length≤512:=by
 unfold okK at h
 obtain ⟨k,th,o,v,w,ln,n,ch⟩:=x
 simp only at *
 have h1:th=0∧o=0∧v=0∧w=0∧ln=0∧n=0∧ch.length≤512:=by omega
 obtain ⟨rfl,rfl,rfl,rfl,rfl,rfl,h2⟩:=h1
 exact ⟨by rw [hk],h2⟩
theorem num_m1:numL (-1)=[45,49]:=by simp [numL,Lib.itoa,Lib.decDigits]
theorem num_nm {n:Int} (h:0≤n):¬ numL n=[45,49]:=fun e=>by
 have h1:=parseU (n:=n)
 rw [numL_pos h] at e
 have h2:(Lib.decDigits n.toNat).getD 0 0=45:=by rw [e];rfl
 have key:∀ u:Nat,¬ (Lib.decDigits u).getD 0 0=45:=by
  intro u
  induction u using Nat.strongRecOn with
  | _ u ih =>
   intro hu
   by_cases h:u<10
   ·rw [Lib.decDigits,dif_pos h] at hu
    have:=congrArg UInt8.toNat hu
    simp at this;omega
   ·rw [Lib.decDigits,dif_neg h] at hu
    refine ih (u / 10) (by omega) ?_
    cases hd:Lib.decDigits (u / 10) with
    | nil=>exact absurd hd (dec_ne _)
    | cons c r=>rw [hd] at hu;exact hu
 exact key _ h2
theorem sLine (x:Ev) (R:Rng x) (hv:okE x=true):PCalls Tryz.prog 76 [.v (.string (bs (txE x)))] (.tup [eE x,.v (.bool true)]):=by
 refine yB (E:=E) (fn:=Tryz.f76) 102 [.cell 2 41,.tmp 3] rfl rfl rfl rfl (by decide) rfl ?_
 have hk:=okE_t hv
 have h5:=tx_len5 hv R
 have hle:=txE_len hv R
 have ks:=lSplitN (wsE x) (wsE_ne x).1 (fun w hw=>wsE_ns x 32 (.inl rfl) w hw) (wsE_ne x).2 (by unfold txE at hle;omega) (by unfold txE at h5;omega)
 have hro:=R.o
 have hrv:=R.v
 have hrw:=R.w
 have kv:=sValid x (by unfold okK at hk;omega)
 rw [hv] at kv
 unfold txE
 have hks:x.k=1∨x.k=2∨x.k=3∨x.k=4∨x.k=5∨x.k=6∨x.k=7:=by unfold okK at hk;omega
 rcases hks with h | h | h | h | h | h | h
 ·obtain ⟨e,h1,h2⟩:=ev_1 hk h
  generalize x.th=th at *
  generalize x.o=o at *
  generalize x.v=v at *
  subst e
  simp only [wsE,if_true,if_false,Int.reduceEq] at ks ⊢
  repeat' (first
   | (with_reducible first | apply zY | apply zT | apply zM | apply zN | apply zO | refine qK ?_ | (show False;omega))
   | ((with_reducible first | apply zP | apply zQ | apply zR | apply zL)<;>intro h<;>try (exfalso;first | omega | exact h rfl | (revert h;decide) | (cases h;done)))
   | ((first | (with_reducible first | apply zW | apply zV | apply zU | apply zS | apply zX | show VX _ _ _ _ _ _ _ | show vstep _ _ _ _ _ | show vskip _ _ _ | show withV _ _ | apply qN | apply qR | refine zB default ?_ | refine zC default ?_ | refine qI ?_) | ((with_reducible apply callK_to);exact kv;(focus (simp -dsimp -implicitDefEqProofs (maxSteps:=1000000) (disch:=first | omega | (simp only [LN];omega)) only [go_sem];done))) | ((with_reducible apply zD);(exact ks)) | ((with_reducible apply zE);(exact ks);rfl) | ((with_reducible apply zF);(exact ks)) | (with_reducible first | apply zG | apply zH | apply zI) | ((with_reducible apply zJ);(first | exact rdWord [115,116,111,114,101] [numL th,numL o,numL v] false (by simp) | exact rdThr th ⟨h1,h2⟩ [numL o,numL v] false (by simp) | exact rdNum o 18446744073709551615 hro (by decide) [numL v] false (by simp) | exact rdNum v 18446744073709551615 hrv (by decide) [] false (by simp))) | ((with_reducible show pickE _ _ _);refine qA _ ?_));try simp -dsimp -implicitDefEqProofs (maxSteps:=1000000) (disch:=first | omega | (simp only [LN];omega)) only [go_sem])
  )
  all_goals first | omega
 ·obtain ⟨e,h1,h2⟩:=ev_2 hk h
  generalize x.th=th at *
  generalize x.o=o at *
  generalize x.v=v at *
  generalize x.w=w at *
  subst e
  simp only [wsE,if_true,if_false,Int.reduceEq] at ks ⊢
  repeat' (first
   | (with_reducible first | apply zY | apply zT | apply zM | apply zN | apply zO | refine qK ?_ | (show False;omega))
   | ((with_reducible first | apply zP | apply zQ | apply zR | apply zL)<;>intro h<;>try (exfalso;first | omega | exact h rfl | (revert h;decide) | (cases h;done)))
   | ((first | (with_reducible first | apply zW | apply zV | apply zU | apply zS | apply zX | show VX _ _ _ _ _ _ _ | show vstep _ _ _ _ _ | show vskip _ _ _ | show withV _ _ | apply qN | apply qR | refine zB default ?_ | refine zC default ?_ | refine qI ?_) | ((with_reducible apply callK_to);exact kv;(focus (simp -dsimp -implicitDefEqProofs (maxSteps:=1000000) (disch:=first | omega | (simp only [LN];omega)) only [go_sem];done))) | ((with_reducible apply zD);(exact ks)) | ((with_reducible apply zE);(exact ks);rfl) | ((with_reducible apply zF);(exact ks)) | (with_reducible first | apply zG | apply zH | apply zI) | ((with_reducible apply zJ);(first | exact rdWord [99,97,115] [numL th,numL o,numL w,numL v] false (by simp) | exact rdThr th ⟨h1,h2⟩ [numL o,numL w,numL v] false (by simp) | exact rdNum o 18446744073709551615 hro (by decide) [numL w,numL v] false (by simp) | exact rdNum w 18446744073709551615 hrw (by decide) [numL v] false (by simp) | exact rdNum v 18446744073709551615 hrv (by decide) [] false (by simp))) | ((with_reducible show pickE _ _ _);refine qA _ ?_));try simp -dsimp -implicitDefEqProofs (maxSteps:=1000000) (disch:=first | omega | (simp only [LN];omega)) only [go_sem])
  )
  all_goals first | omega
 ·obtain ⟨e,h1,h2⟩:=ev_3 hk h
  generalize x.th=th at *
  generalize x.o=o at *
  subst e
  simp only [wsE,if_true,if_false,Int.reduceEq] at ks ⊢
  repeat' (first
   | (with_reducible first | apply zY | apply zT | apply zM | apply zN | apply zO | refine qK ?_ | (show False;omega))
   | ((with_reducible first | apply zP | apply zQ | apply zR | apply zL)<;>intro h<;>try (exfalso;first | omega | exact h rfl | (revert h;decide) | (cases h;done)))
   | ((first | (with_reducible first | apply zW | apply zV | apply zU | apply zS | apply zX | show VX _ _ _ _ _ _ _ | show vstep _ _ _ _ _ | show vskip _ _ _ | show withV _ _ | apply qN | apply qR | refine zB default ?_ | refine zC default ?_ | refine qI ?_) | ((with_reducible apply callK_to);exact kv;(focus (simp -dsimp -implicitDefEqProofs (maxSteps:=1000000) (disch:=first | omega | (simp only [LN];omega)) only [go_sem];done))) | ((with_reducible apply zD);(exact ks)) | ((with_reducible apply zE);(exact ks);rfl) | ((with_reducible apply zF);(exact ks)) | (with_reducible first | apply zG | apply zH | apply zI) | ((with_reducible apply zJ);(first | exact rdWord [102,108,117,115,104] [numL th,numL o] false (by simp) | exact rdThr th ⟨h1,h2⟩ [numL o] false (by simp) | exact rdNum o 18446744073709551615 hro (by decide) [] false (by simp))) | ((with_reducible show pickE _ _ _);refine qA _ ?_));try simp -dsimp -implicitDefEqProofs (maxSteps:=1000000) (disch:=first | omega | (simp only [LN];omega)) only [go_sem])
  )
  all_goals first | omega
 ·obtain ⟨e,h1,h2⟩:=ev_4 hk h
  generalize x.th=th at *
  subst e
  simp only [wsE,if_true,if_false,Int.reduceEq] at ks ⊢
  repeat' (first
   | (with_reducible first | apply zY | apply zT | apply zM | apply zN | apply zO | refine qK ?_ | (show False;omega))
   | ((with_reducible first | apply zP | apply zQ | apply zR | apply zL)<;>intro h<;>try (exfalso;first | omega | exact h rfl | (revert h;decide) | (cases h;done)))
   | ((first | (with_reducible first | apply zW | apply zV | apply zU | apply zS | apply zX | show VX _ _ _ _ _ _ _ | show vstep _ _ _ _ _ | show vskip _ _ _ | show withV _ _ | apply qN | apply qR | refine zB default ?_ | refine zC default ?_ | refine qI ?_) | ((with_reducible apply callK_to);exact kv;(focus (simp -dsimp -implicitDefEqProofs (maxSteps:=1000000) (disch:=first | omega | (simp only [LN];omega)) only [go_sem];done))) | ((with_reducible apply zD);(exact ks)) | ((with_reducible apply zE);(exact ks);rfl) | ((with_reducible apply zF);(exact ks)) | (with_reducible first | apply zG | apply zH | apply zI) | ((with_reducible apply zJ);(first | exact rdWord [102,101,110,99,101] [numL th] false (by simp) | exact rdThr th ⟨h1,h2⟩ [] false (by simp))) | ((with_reducible show pickE _ _ _);refine qA _ ?_));try simp -dsimp -implicitDefEqProofs (maxSteps:=1000000) (disch:=first | omega | (simp only [LN];omega)) only [go_sem])
  )
  all_goals first | omega
 ·obtain ⟨e,⟨h1,h2⟩,h3,h4⟩:=ev_5 hk h
  generalize x.ln=ln at *
  generalize x.n=n at *
  subst e
  simp only [wsE,if_true,if_false,Int.reduceEq] at ks ⊢
  have w1:IntKind.i64.wrap ln=ln:=by rw [IntKind.wrap_i64];omega
  have w2:IntKind.i64.wrap n=n:=by rw [IntKind.wrap_i64];omega
  repeat' (first
   | (with_reducible first | apply zY | apply zT | apply zM | apply zN | apply zO | refine qK ?_ | (show False;omega))
   | ((with_reducible first | apply zP | apply zQ | apply zR | apply zL)<;>intro h<;>try (exfalso;first | omega | exact h rfl | (revert h;decide) | (cases h;done)))
   | ((first | (with_reducible first | apply zW | apply zV | apply zU | apply zS | apply zX | show VX _ _ _ _ _ _ _ | show vstep _ _ _ _ _ | show vskip _ _ _ | show withV _ _ | apply qN | apply qR | refine zB default ?_ (by first | omega | (simp only [LN,w1,w2];omega)) (by first | omega | (simp only [LN,w1,w2];omega)) | refine zC default ?_ (by first | omega | (simp only [LN,w1,w2];omega)) | refine qI ?_ (by first | decide | omega | assumption | (simp only [LN,w1,w2];omega))) | ((with_reducible apply callK_to);exact kv;(focus (simp -dsimp -implicitDefEqProofs (maxSteps:=1000000) (disch:=first | omega | (simp only [LN,w1,w2];omega)) only [go_sem,w1,w2];done))) | ((with_reducible apply zD);(exact ks)) | ((with_reducible apply zE);(exact ks);rfl) | ((with_reducible apply zF);(exact ks)) | (with_reducible first | apply zG | apply zH | apply zI) | ((with_reducible apply zJ);(first | exact rdWord [119,114,105,116,101,98,97,99,107] [numL ln,numL n] false (by simp) | exact rdNum ln 4095 ⟨h1,h2⟩ (by decide) [numL n] false (by simp) | exact rdNum n 2147483647 ⟨h3,h4⟩ (by decide) [] false (by simp))) | ((with_reducible show pickE _ _ _);refine qA _ ?_));try simp -dsimp -implicitDefEqProofs (maxSteps:=1000000) (disch:=first | omega | (simp only [LN,w1,w2];omega)) only [go_sem,w1,w2])
  )
  all_goals first | omega
 ·obtain ⟨e,h1,h2⟩:=ev_6 hk h
  generalize x.n=n at *
  subst e
  simp only [wsE,if_true,if_false,Int.reduceEq] at ks ⊢
  by_cases hn:n=-1
  ·subst hn
   rw [num_m1] at ks ⊢
   repeat' (first
    | (with_reducible first | apply zY | apply zT | apply zM | apply zN | apply zO | refine qK ?_ | (show False;omega))
    | ((with_reducible first | apply zP | apply zQ | apply zR | apply zL)<;>intro h<;>try (exfalso;first | omega | exact h rfl | (revert h;decide) | (cases h;done)))
    | ((first | (with_reducible first | apply zW | apply zV | apply zU | apply zS | apply zX | show VX _ _ _ _ _ _ _ | show vstep _ _ _ _ _ | show vskip _ _ _ | show withV _ _ | apply qN | apply qR | refine zB default ?_ | refine zC default ?_ | refine qI ?_) | ((with_reducible apply callK_to);exact kv;(focus (simp -dsimp -implicitDefEqProofs (maxSteps:=1000000) (disch:=first | omega | (simp only [LN];omega)) only [go_sem];done))) | ((with_reducible apply zD);(exact ks)) | ((with_reducible apply zE);(exact ks);rfl) | ((with_reducible apply zF);(exact ks)) | (with_reducible first | apply zG | apply zH | apply zI) | ((with_reducible apply zJ);(first | exact rdWord [97,114,109] [[45,49]] false (by simp))) | ((with_reducible show pickE _ _ _);refine qA _ ?_));try simp -dsimp -implicitDefEqProofs (maxSteps:=1000000) (disch:=first | omega | (simp only [LN];omega)) only [go_sem])
   )
   all_goals first | omega
  ·have hnm:=num_nm (n:=n) (by omega)
   have w2:IntKind.i64.wrap n=n:=by rw [IntKind.wrap_i64];omega
   repeat' (first
    | (with_reducible first | apply zY | apply zT | apply zM | apply zN | apply zO | refine qK ?_ | (show False;omega))
    | ((with_reducible first | apply zP | apply zQ | apply zR | apply zL)<;>intro h<;>try (exfalso;first | omega | exact h rfl | (revert h;decide) | (cases h;done)))
    | ((first | (with_reducible first | apply zW | apply zV | apply zU | apply zS | apply zX | show VX _ _ _ _ _ _ _ | show vstep _ _ _ _ _ | show vskip _ _ _ | show withV _ _ | apply qN | apply qR | refine zB default ?_ (by first | omega | (simp only [LN,w2];omega)) (by first | omega | (simp only [LN,w2];omega)) | refine zC default ?_ (by first | omega | (simp only [LN,w2];omega)) | refine qI ?_ (by first | decide | omega | assumption | (simp only [LN,w2];omega))) | ((with_reducible apply callK_to);exact kv;(focus (simp -dsimp -implicitDefEqProofs (maxSteps:=1000000) (disch:=first | omega | (simp only [LN,w2];omega)) only [go_sem,w2];done))) | ((with_reducible apply zD);(exact ks)) | ((with_reducible apply zE);(exact ks);rfl) | ((with_reducible apply zF);(exact ks)) | (with_reducible first | apply zG | apply zH | apply zI) | ((with_reducible apply zJ);(first | exact rdWord [97,114,109] [numL n] false (by simp) | exact rdNum n 2147483647 ⟨by omega,h2⟩ (by decide) [] false (by simp))) | ((with_reducible show pickE _ _ _);refine qA _ ?_));try simp -dsimp -implicitDefEqProofs (maxSteps:=1000000) (disch:=first | omega | (simp only [LN,w2];omega)) only [go_sem,w2])
   )
   all_goals first | omega | contradiction
 ·obtain ⟨e,h1⟩:=ev_7 hk h
  generalize x.ch=ch at *
  subst e
  simp only [wsE,if_true,if_false,Int.reduceEq] at ks ⊢
  repeat' (first
   | (with_reducible first | apply zY | apply zT | apply zM | apply zN | apply zO | refine qK ?_ | (show False;omega))
   | ((with_reducible first | apply zP | apply zQ | apply zR | apply zL)<;>intro h<;>try (exfalso;first | omega | exact h rfl | (revert h;decide) | (cases h;done)))
   | ((first | (with_reducible first | apply zW | apply zV | apply zU | apply zS | apply zX | show VX _ _ _ _ _ _ _ | show vstep _ _ _ _ _ | show vskip _ _ _ | show withV _ _ | apply qN | apply qR | refine zB default ?_ | refine zC default ?_ | refine qI ?_) | ((with_reducible apply callK_to);exact kv;(focus (simp -dsimp -implicitDefEqProofs (maxSteps:=1000000) (disch:=first | omega | (simp only [LN];omega)) only [go_sem];done))) | ((with_reducible apply zD);(exact ks)) | ((with_reducible apply zE);(exact ks);rfl) | ((with_reducible apply zF);(exact ks)) | (with_reducible first | apply zG | apply zH | apply zI) | ((with_reducible apply zJ);(first | exact rdWord [99,114,97,115,104] [chL ch] false (by simp) | exact rdCh ch h1 [] false (by simp))) | ((with_reducible show pickE _ _ _);refine qA _ ?_));try simp -dsimp -implicitDefEqProofs (maxSteps:=1000000) (disch:=first | omega | (simp only [LN];omega)) only [go_sem])
  )
  all_goals first | omega
end Go.Proofs.YtckhjklcfagkoaaGreatDoor
