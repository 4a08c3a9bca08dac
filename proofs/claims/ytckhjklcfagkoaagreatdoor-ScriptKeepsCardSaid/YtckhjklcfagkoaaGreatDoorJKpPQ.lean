/- Contracts of functions of this program, and the plain facts that they rest on. No conditions. -/
import Derived.Test.YtckhjklcfagkoaaGreatDoorJKpBQ
import Derived.Test.YtckhjklcfagkoaaGreatDoorJScIQ
import Derived.LoopN
set_option linter.unusedSectionVars false
set_option linter.unusedSimpArgs false
set_option warn.classDefReducibility false
set_option linter.unusedVariables false
namespace Go.Proofs.YtckhjklcfagkoaaGreatDoor
set_option maxHeartbeats 4000000
set_option maxRecDepth 100000
open Go Go.Ab
attribute [local irreducible] callK callF loopQ vstep vskip pickE hideP
open Go.RowKit
noncomputable abbrev gS:Glob:=inferInstance
variable [NN]
noncomputable def gP:Glob where
 G:=fun Z w=>@Glob.G gS Z w∧(NN.n0=0∨Z (NN.n0 - 1))
 mono:=fun hz hk h=>⟨@Glob.mono gS _ _ _ _ hz hk h.1,h.2.imp id (hz _)⟩
 tab:=[]
 bld:=130
 slots:=slotOf [(62,25),(82,26),(31,26),(37,26),(81,6),(86,6),(38,6),(40,6),(35,6),(43,6),(11,26),(16,26),(28,28),(8,28),(15,26),(30,6),(50,2),(78,2),(13,2),(18,2)]
 ok:=fun _ h=>by simp [gfind] at h
theorem gPS:∀ Z w,@Glob.G gP Z w→@Glob.G gS Z w:=fun Z w h=>h.1
theorem gPN:∀ Z w,@Glob.G gP Z w→@Glob.G gN Z w:=fun Z w h=>h.2
theorem gPd:@Glob.dr gP→@Glob.dr gS:=fun h=>h
theorem gPe:@Glob.dr gP→@Glob.dr gN:=fun h=>h
theorem pl {f:FuncId} {args:List PV} {r:PV} (h:@PCalls gS Tryz.prog f args r):@PCalls gP Tryz.prog f args r:=pcalls_glob gPS gPd h
theorem al {f:FuncId} {args:List AV} {L L':List Ob} {r:AV} (h:@ACalls gS Tryz.prog f args L r L'):@ACalls gP Tryz.prog f args L r L':=acalls_glob gPS gPd h
theorem xn {f:FuncId} {args:List AV} {L:List Ob} {G:Type} {r:G→AV} {L':G→List Ob} (h:@ACallsX gN Tryz.prog f args L G r L'):@ACallsX gP Tryz.prog f args L G r L':=acallsx_glob gPN gPe h
noncomputable local instance (priority:=high) gPi:Glob:=gP
theorem slotsP (g:Nat):@Glob.slots gPi g=slotOf [(62,25),(82,26),(31,26),(37,26),(81,6),(86,6),(38,6),(40,6),(35,6),(43,6),(11,26),(16,26),(28,28),(8,28),(15,26),(30,6),(50,2),(78,2),(13,2),(18,2)] g:=rfl
theorem bldP:(@Glob.bld gPi:TypeId)=130:=rfl
attribute [local go_sem] slotsP bldP
theorem np_le:∀ Z w,ZOk Z w→NN.n0≤w.heap.size:=fun Z w h=>by
 rcases h.gl.2 with h0 | h0
 ·omega
 ·have:=h.lt _ h0;omega
section
attribute [local go_sem] eE eT bs_inj ext_bs byteAt_bs
attribute [local irreducible] numL
attribute [local go_sem] fV
attribute [local irreducible] chP nib
theorem rdCh1O (c:List UInt8) (h0:¬ c.length=0) (hc:c.length≤512) (ws:List (List UInt8)) (b:Bool) (hl:ws.length≤1000):ACalls Tryz.prog 101 [.loc 0 0] [fV (hexL c::ws) b] (.sl 1 1 0 c.length) [fV ws b,.arr 1 (c.map eB)]:=by
 refine yA (E:=E) (fn:=Tryz.f101) 61 [.tmp 2] rfl rfl rfl rfl (by decide) rfl rfl ?_
 have hlen:=hexL_len c
 have h45:=hex45 h0
 have e0:((2*c.length:Nat):Int).tmod 2=0:=by rw [show ((2*c.length:Nat):Int).tmod 2=((2*c.length % 2:Nat):Int) from rfl];omega
 have e1:((2*c.length:Nat):Int).tdiv 2=(c.length:Int):=by rw [show ((2*c.length:Nat):Int).tdiv 2=((2*c.length / 2:Nat):Int) from rfl];omega
 have e2:IntKind.i64.wrap (c.length:Int)=c.length:=by rw [IntKind.wrap_i64];omega
 have e3:IntKind.i64.wrap 0=0:=rfl
 have hcp:=chP_len c
 repeat' (first
  | (with_reducible first | apply zY | apply zT | apply zM | apply zN | apply zO | refine qK ?_ | (show False;omega))
  | ((with_reducible first | apply zP | apply zQ | apply zR | apply zL)<;>intro h<;>try (exfalso;first | omega | exact h rfl | (revert h;decide) | (cases h;done)))
  | ((first | (with_reducible first | apply zW | apply zV | apply zU | apply zS | apply zX | show VX _ _ _ _ _ _ _ | show vstep _ _ _ _ _ | show vskip _ _ _ | show withV _ _ | apply qN | apply qR | refine zB default ?_ (by first | omega | (simp only [LN,hlen,h45,e0,e1,e2,e3];omega)) (by first | omega | (simp only [LN,hlen,h45,e0,e1,e2,e3];omega)) | refine zC default ?_ (by first | omega | (simp only [LN,hlen,h45,e0,e1,e2,e3];omega)) | refine qI ?_ (by first | decide | omega | assumption | (simp only [LN,hlen,h45,e0,e1,e2,e3];omega))) | (with_reducible first | apply zG | apply zH | apply zI) | ((with_reducible apply zJ);(first | exact al (rdWord (hexL c) ws b hl))) | ((with_reducible show pickE _ _ _);refine qA _ ?_));try simp -dsimp -implicitDefEqProofs (maxSteps:=1000000) (disch:=first | omega | (simp only [LN,hlen,h45,e0,e1,e2,e3];omega)) only [go_sem,hlen,h45,e0,e1,e2,e3])
 )
 all_goals try (exfalso;first | omega | contradiction)
 refine r_loopA (α:=Nat) [0,3,4,33] (fun i b=>[(34,aI i)]) (fun i b=>[(4,.arr 1 ((chP c i).map eB))]) (fun i=>[]) (fun i=>i≤2*c.length) (fun i=>2*c.length - i) (0) ?h0_1 ?hs0_1 ?I_1 ?hI_1 ?round_1
 case hI_1=>intro x;(simp -dsimp -implicitDefEqProofs (maxSteps:=1000000) (disch:=first | omega | (simp only [LN];omega)) only [go_sem])<;>exact rfl
 case hs0_1=>refine wk_auto ?_;(simp -dsimp -implicitDefEqProofs (maxSteps:=1000000) (disch:=first | omega | (simp only [LN,chP_0];omega)) only [go_sem,chP_0])<;>(try omega)
 case h0_1=>exact Nat.zero_le _
 case round_1 =>
  intro i hi
  by_cases h:i<2*c.length
  ·have hg:=hexL_get c i h
   have ki:=pl (lIdx (nib c i) (nib_lt c i))
   have hn:=nib_lt c i
   have hv:=chP_get c i h
   have hb:=UInt8.toNat_lt (c.getD (i / 2) 0)
   have d1:(i:Int).tdiv 2=((i / 2:Nat):Int):=rfl
   have d2:IntKind.i64.wrap ((i / 2:Nat):Int)=((i / 2:Nat):Int):=by rw [IntKind.wrap_i64];omega
   have d4:((i:Int) / 2).toNat=i / 2:=by omega
   have d3:IntKind.u8.wrap (nib c i:Int)=nib c i:=by rw [wr8];omega
   have hor:=or8 (a:=((chP c i).getD (i / 2) default).toNat) (d:=nib c i) (by rw [hv];split<;>omega) hn
   have hst:=chP_s c i h (((((chP c i).getD (i / 2) default).toNat*16+nib c i:Nat):Int)) (by
    rw [hv];unfold nib
    by_cases hp:i % 2=1
    ·rw [if_pos hp,if_pos hp,if_neg (by omega)];omega
    ·rw [if_neg hp,if_neg hp,if_pos (by omega)];simp)
   repeat' (first
    | (with_reducible first | apply zY | apply zT | apply zM | apply zN | apply zO | refine qK ?_ | (show False;omega))
    | ((with_reducible first | apply zP | apply zQ | apply zR | apply zL)<;>intro h<;>try (exfalso;first | omega | exact h rfl | (revert h;decide) | (cases h;done)))
    | ((first | (with_reducible first | apply zW | apply zV | apply zU | apply zS | apply zX | show VX _ _ _ _ _ _ _ | show vstep _ _ _ _ _ | show vskip _ _ _ | show withV _ _ | apply qN | apply qR | refine zB default ?_ (by first | omega | (simp only [LN,hlen,hg,hcp,d1,d2,d3,d4,hor];omega)) (by first | omega | (simp only [LN,hlen,hg,hcp,d1,d2,d3,d4,hor];omega)) | refine zC default ?_ (by first | omega | (simp only [LN,hlen,hg,hcp,d1,d2,d3,d4,hor];omega)) | refine qI ?_ (by first | decide | omega | assumption | (simp only [LN,hlen,hg,hcp,d1,d2,d3,d4,hor];omega))) | ((with_reducible apply zD);(exact ki)) | ((with_reducible apply zE);(exact ki);rfl) | ((with_reducible apply zF);(exact ki)) | ((with_reducible show pickE _ _ _);refine qA _ ?_));try simp -dsimp -implicitDefEqProofs (maxSteps:=1000000) (disch:=first | omega | (simp only [LN,hlen,hg,hcp,d1,d2,d3,d4,hor];omega)) only [go_sem,hlen,hg,hcp,d1,d2,d3,d4,hor])
   )
   all_goals first | omega | ((refine zZ (i+1) ?_ ?_ ?_;(omega);(show _<_;omega);(simp -dsimp -implicitDefEqProofs (maxSteps:=1000000) (disch:=first | omega | (simp only [LN,d4,hor];omega)) only [go_sem,d4,hor];try trivial));exact .inl (by rw [← Int.natCast_add];exact hst))
  ·obtain rfl:i=2*c.length:=by omega
   have ha:=chP_all c
   repeat' (first
    | (with_reducible first | apply zY | apply zT | apply zM | apply zN | apply zO | refine qK ?_ | (show False;omega))
    | ((with_reducible first | apply zP | apply zQ | apply zR | apply zL)<;>intro h<;>try (exfalso;first | omega | exact h rfl | (revert h;decide) | (cases h;done)))
    | ((first | (with_reducible first | apply zW | apply zV | apply zU | apply zS | apply zX | show VX _ _ _ _ _ _ _ | show vstep _ _ _ _ _ | show vskip _ _ _ | show withV _ _ | apply qN | apply qR | refine zB default ?_ (by first | omega | (simp only [LN,hlen,hcp,ha];omega)) (by first | omega | (simp only [LN,hlen,hcp,ha];omega)) | refine zC default ?_ (by first | omega | (simp only [LN,hlen,hcp,ha];omega)) | refine qI ?_ (by first | decide | omega | assumption | (simp only [LN,hlen,hcp,ha];omega))) | ((with_reducible show pickE _ _ _);refine qA _ ?_));try simp -dsimp -implicitDefEqProofs (maxSteps:=1000000) (disch:=first | omega | (simp only [LN,hlen,hcp,ha];omega)) only [go_sem,hlen,hcp,ha])
   )
   all_goals first | rfl | omega
end
section
attribute [local go_sem] eE eT bs_inj ext_bs byteAt_bs fV
attribute [local irreducible] numL
attribute [local go_sem] eO
theorem sLineO (ch:List UInt8) (h1:ch.length≤512) (h0:¬ ch.length=0) (R:Rng ⟨7,0,0,0,0,0,0,ch⟩) (hv:okE ⟨7,0,0,0,0,0,0,ch⟩=true):ACalls Tryz.prog 76 [.p (.v (.string (bs (txE ⟨7,0,0,0,0,0,0,ch⟩))))] [] (.tup [eO ⟨7,0,0,0,0,0,0,ch⟩,.p (.v (.bool true))]) [.arr 1 (ch.map eB)]:=by
 refine yA (E:=E) (fn:=Tryz.f76) 102 [.cell 2 41,.tmp 3] rfl rfl rfl rfl (by decide) rfl rfl ?_
 have h5:=tx_len5 hv R
 have hle:=txE_len hv R
 have ks:=pl (lSplitN (wsE ⟨7,0,0,0,0,0,0,ch⟩) (wsE_ne _).1 (fun w hw=>wsE_ns _ 32 (.inl rfl) w hw) (wsE_ne _).2 (by unfold txE at hle;omega) (by unfold txE at h5;omega))
 have kv:=pl (sValid ⟨7,0,0,0,0,0,0,ch⟩ (by show ch.length≤_;omega))
 rw [hv] at kv
 have kc:=rdCh1O ch h0 h1 [] false (by simp)
 rw [← chL_e h0] at kc
 unfold txE
 simp only [wsE,if_true,if_false,Int.reduceEq] at ks ⊢
 repeat' (first
  | (with_reducible first | apply zY | apply zT | apply zM | apply zN | apply zO | refine qK ?_ | (show False;omega))
  | ((with_reducible first | apply zP | apply zQ | apply zR | apply zL)<;>intro h<;>try (exfalso;first | omega | exact h rfl | (revert h;decide) | (cases h;done)))
  | ((first | (with_reducible first | apply zW | apply zV | apply zU | apply zS | apply zX | show VX _ _ _ _ _ _ _ | show vstep _ _ _ _ _ | show vskip _ _ _ | show withV _ _ | apply qN | apply qR | refine zB default ?_ | refine zC default ?_ | refine qI ?_) | ((with_reducible apply callK_to);exact kv;(focus (simp -dsimp -implicitDefEqProofs (maxSteps:=1000000) (disch:=first | omega | (simp only [LN];omega)) only [go_sem];done))) | ((with_reducible apply zD);(first | exact ks | exact kv)) | ((with_reducible apply zE);(first | exact ks | exact kv);rfl) | ((with_reducible apply zF);(first | exact ks | exact kv)) | (with_reducible first | apply zG | apply zH | apply zI) | ((with_reducible apply zJ);(first | exact al (rdWord [99,114,97,115,104] [chL ch] false (by simp)) | exact kc)) | ((with_reducible show pickE _ _ _);refine qA _ ?_));try simp -dsimp -implicitDefEqProofs (maxSteps:=1000000) (disch:=first | omega | (simp only [LN];omega)) only [go_sem])
 )
 all_goals first | omega
end
theorem tup_rv {x:Ev} {Z:Nat→Prop} {lb:Lb} {w:World} {u:Value} (h:ARep Z lb w (.tup [eO x,.p (.v (.bool true))]) u):∃ g,ARep Z lb w (.sl 0 1 0 x.ch.length) g∧∀ Zn:Nat→Prop,(∀ b,Z b→Zn b)→Rep Zn w (.rv g (.view 1 (x.ch.map eB))) g→Rep Zn w (.tup [eR x g,.v (.bool true)]) u:=by
 simp only [ARep,AReps] at h
 obtain ⟨vs,⟨u0,_,rfl,h0,u1,_,rfl,h1,rfl⟩,rfl⟩:=h
 obtain ⟨g,k1,k2⟩:=eO_rv h0
 refine ⟨g,k1,fun Zn hz hr=>?_⟩
 simp only [Rep,Reps]
 simp only [Rep] at h1
 exact ⟨_,⟨u0,_,rfl,k2 Zn hz hr,u1,_,rfl,h1,rfl⟩,rfl⟩
theorem tup_rv0 {x:Ev} (hc:x.ch=[]) {Z:Nat→Prop} {w:World} {u:Value} (h:Rep Z w (.tup [eE x,.v (.bool true)]) u):∃ g,(∀ N,Nb N g)∧Rep Z w (.tup [eR x g,.v (.bool true)]) u:=by
 simp only [Rep,Reps] at h
 obtain ⟨vs,⟨u0,_,rfl,h0,u1,_,rfl,h1,rfl⟩,rfl⟩:=h
 obtain ⟨g,k1,k2⟩:=eE_rv0 hc h0
 refine ⟨g,k1,?_⟩
 simp only [Rep,Reps]
 exact ⟨_,⟨u0,_,rfl,k2,u1,_,rfl,h1,rfl⟩,rfl⟩
theorem sLineG (x:Ev) (R:Rng x) (hv:okE x=true):ACallsX Tryz.prog 76 [.p (.v (.string (bs (txE x))))] [] (fun g:{ g:Value // Nb NN.n0 g }=>.p (.tup [eR x g.1,.v (.bool true)])) (fun _=>[]):=by
 by_cases h0:x.ch.length=0
 ·exact acx_nil NN.n0 (pl (sLine x R hv)) fun Z w u h=>by
   obtain ⟨g,k1,k2⟩:=tup_rv0 (List.length_eq_zero_iff.1 h0) h
   exact ⟨g,k1 _,k2⟩
 ·have hk:=okE_t hv
  have h7:x.k=7:=by
   have hks:x.k=1∨x.k=2∨x.k=3∨x.k=4∨x.k=5∨x.k=6∨x.k=7:=by unfold okK at hk;omega
   rcases hks with h | h | h | h | h | h | h
   ·exact absurd (by rw [(ev_1 hk h).1];rfl) h0
   ·exact absurd (by rw [(ev_2 hk h).1];rfl) h0
   ·exact absurd (by rw [(ev_3 hk h).1];rfl) h0
   ·exact absurd (by rw [(ev_4 hk h).1];rfl) h0
   ·exact absurd (by rw [(ev_5 hk h).1];rfl) h0
   ·exact absurd (by rw [(ev_6 hk h).1];rfl) h0
   ·exact h
  obtain ⟨e,h1⟩:=ev_7 hk h7
  generalize x.ch=ch at *
  subst e
  have h:=acx_own (r':=fun _ g=>.tup [eR ⟨7,0,0,0,0,0,0,ch⟩ g,.v (.bool true)]) NN.n0 np_le (sLineO ch h1 h0 R hv).x (fun _=>(List.length_map ..).symm) (fun _ Z lb w u h=>tup_rv h)
  exact h.to (fun _=>Nat.le_refl _) fun g=>⟨⟨g.1.2,g.2⟩,rfl,rfl⟩
section
attribute [local go_sem] eE eT bs_inj ext_bs byteAt_bs eR pE
attribute [local irreducible] txL txE
theorem sParseG (vs:List Ev) (hR:∀ x,x∈vs→Rng x) (hv:∀ x,x∈vs→okE x=true) (hn:vs.length≤1000):ACallsX Tryz.prog 26 [.p (.v (.string (bs (txL vs))))] [] (fun g:OwnG vs=>.tup [.sl 0 8 0 vs.length,.p (.v (.int .i64 0)),.p (.v (.int .i64 0))]) (fun g:OwnG vs=>[.arr 8 (g.1.map pE)]):=by
 refine yC (E:=E) (fn:=Tryz.f26) 46 [.tmp 2,.tmp 3,.tmp 4] rfl rfl rfl rfl (by decide) rfl (fun _=>rfl) ?_
 repeat' (first
  | (with_reducible first | apply zY | apply zT | apply zM | apply zN | apply zO | refine qK ?_ | (show False;omega))
  | ((with_reducible first | apply zP | apply zQ | apply zR | apply zL)<;>intro h<;>try (exfalso;first | omega | exact h rfl | (revert h;decide) | (cases h;done)))
  | ((first | (with_reducible first | apply zW | apply zV | apply zU | apply zS | apply zX | show VX _ _ _ _ _ _ _ | show vstep _ _ _ _ _ | show vskip _ _ _ | show withV _ _ | apply qN | apply qR | refine zB default ?_ | refine zC default ?_ | refine qI ?_) | ((with_reducible show pickE _ _ _);refine qA _ ?_));try simp -dsimp -implicitDefEqProofs (maxSteps:=1000000) (disch:=first | omega | (simp only [LN];omega)) only [go_sem])
 )
 refine r_loopA (α:=(Nat × Bool × Nat) × List (Ev × Value)) [] (fun q b=>[(5,.sl b 8 0 q.1.1),(6,.p (.v (.string (bs (txL (vs.drop q.1.1)))))),(7,.p (.v (.bool q.1.2.1))),(8,aI q.1.2.2)]) (fun q b=>[]) (fun q=>[.arr 8 (q.2.map pE)]) (fun q=>(q.1.1≤vs.length∧(q.1.2.1=false→q.1.1=vs.length)∧q.1.2.2+q.1.2.1.toNat≤q.1.1+2)∧q.2.map Prod.fst=vs.take q.1.1∧∀ p,p∈q.2→Nb NN.n0 p.2) (fun q=>2*(vs.length - q.1.1)+q.1.2.1.toNat) (((0,true,1),[])) ?h0_2 ?hs0_2 ?I_2 ?hI_2 ?round_2
 case hI_2=>intro x;(simp -dsimp -implicitDefEqProofs (maxSteps:=1000000) (disch:=first | omega | (simp only [LN];omega)) only [go_sem])<;>exact rfl
 case hs0_2=>refine wk_auto ?_;(simp -dsimp -implicitDefEqProofs (maxSteps:=1000000) (disch:=first | omega | (simp only [LN,List.map_nil,List.drop_zero];omega)) only [go_sem,List.map_nil,List.drop_zero])<;>(try omega)
 case h0_2=>exact ⟨⟨Nat.zero_le _,fun h=>Bool.noConfusion h,by decide⟩,rfl,fun p h=>absurd h List.not_mem_nil⟩
 case round_2 =>
  rintro ⟨⟨j,m,a⟩,y⟩ ⟨⟨h1,h2,h3⟩,hy1,hy2⟩
  dsimp only at h1 h2 h3 hy1 hy2
  have hyl:y.length=j:=by
   have:=congrArg List.length hy1
   rw [List.length_map,List.length_take] at this;omega
  have hpos:=fun (x:Ev) (h:¬ txE x=[])=>List.length_pos_iff.2 h
  have htl:=txL_len (vs.drop (j+1)) (fun x hx=>hR x (List.mem_of_mem_drop hx))
  rw [List.length_drop] at htl
  cases m with
  | false =>
   obtain rfl:=h2 rfl
   repeat' (first
    | (with_reducible first | apply zY | apply zT | apply zM | apply zN | apply zO | refine qK ?_ | (show False;omega))
    | ((with_reducible first | apply zP | apply zQ | apply zR | apply zL)<;>intro h<;>try (exfalso;first | omega | exact h rfl | (revert h;decide) | (cases h;done)))
    | ((first | (with_reducible first | apply zW | apply zV | apply zU | apply zS | apply zX | show VX _ _ _ _ _ _ _ | show vstep _ _ _ _ _ | show vskip _ _ _ | show withV _ _ | apply qN | apply qR | refine zB default ?_ (by first | omega | (simp only [LN,hyl];omega)) (by first | omega | (simp only [LN,hyl];omega)) | refine zC default ?_ (by first | omega | (simp only [LN,hyl];omega)) | refine qI ?_ (by first | decide | omega | assumption | (simp only [LN,hyl];omega))) | ((with_reducible show pickE _ _ _);refine qA _ ?_));try simp -dsimp -implicitDefEqProofs (maxSteps:=1000000) (disch:=first | omega | (simp only [LN,hyl];omega)) only [go_sem,hyl])
   )
   all_goals first | omega | ((refine endX_i (⟨y,by rw [hy1,List.take_length],hy2⟩) ?_;simp -implicitDefEqProofs only [endA];(simp -dsimp -implicitDefEqProofs (maxSteps:=1000000) (disch:=first | omega | (simp only [LN,hyl];omega)) only [go_sem,hyl];try trivial)))
  | true =>
   by_cases hj:j<vs.length
   ·have hvx:=getD_all hv hj
    have hRx:=getD_all hR hj
    have hs:=txL_drop hj hvx
    have hle:=txE_len hvx hRx
    have ht:=fst_take hy1 hj
    obtain ⟨hne,h35⟩:=tx_hd hvx
    have hp0:=hpos _ hne
    simp only [Bool.toNat_true] at h3
    have kc:=pl (lCutH (txE (vs.getD j default)) (txL (vs.drop (j+1))) 10 (txE_ns _) (by omega))
    have kp:=sLineG (vs.getD j default) hRx hvx
    generalize vs.getD j default=x at *
    repeat' (first
     | (with_reducible first | apply zY | apply zT | apply zM | apply zN | apply zO | refine qK ?_ | (show False;omega))
     | ((with_reducible first | apply zP | apply zQ | apply zR | apply zL)<;>intro h<;>try (exfalso;first | omega | exact h rfl | (revert h;decide) | (cases h;done)))
     | ((with_reducible first | refine r_gr0 [77] ?_ | refine r_gr1 [77] ?_ | refine r_gr2 [77] ?_ | refine r_gr3 [77] ?_ | refine r_gr4 [77] ?_ | refine r_gr5 [77] ?_ | refine r_gr6 [77] ?_ | refine r_gr7 [77] ?_ | refine r_gr8 [77] ?_ | refine r_gr9 [77] ?_ | refine r_gr10 [77] ?_);simp -dsimp -implicitDefEqProofs (maxSteps:=1000000) (disch:=first | omega | (simp only [LN,hs,hne,h35,hyl];omega)) only [go_sem,hs,hne,h35,hyl])
     | ((first | (with_reducible first | apply zW | apply zV | apply zU | apply zS | apply zX | show VX _ _ _ _ _ _ _ | show vstep _ _ _ _ _ | show vskip _ _ _ | show withV _ _ | apply qN | apply qR | refine zB default ?_ (by first | omega | (simp only [LN,hs,hne,h35,hyl];omega)) (by first | omega | (simp only [LN,hs,hne,h35,hyl];omega)) | refine zC default ?_ (by first | omega | (simp only [LN,hs,hne,h35,hyl];omega)) | refine qI ?_ (by first | decide | omega | assumption | (simp only [LN,hs,hne,h35,hyl];omega))) | ((with_reducible apply zD);(exact kc)) | ((with_reducible apply zE);(exact kc);rfl) | ((with_reducible apply zF);(exact kc)) | ((with_reducible apply zK);(first | exact kp);intro gq) | ((with_reducible show pickE _ _ _);refine qA _ ?_));try simp -dsimp -implicitDefEqProofs (maxSteps:=1000000) (disch:=first | omega | (simp only [LN,hs,hne,h35,hyl];omega)) only [go_sem,hs,hne,h35,hyl])
    )
    all_goals first | omega | contradiction | (refine zZ ((j+1,true,a+1),y++[(x,gq.1)]) ⟨⟨by show j+1≤_;omega,fun h=>Bool.noConfusion h,by show a+1+1≤j+1+2;omega⟩,ht _,fun p hp=>(List.mem_append.1 hp).elim (hy2 p) fun hp=>by rw [List.mem_singleton.1 hp];exact gq.2⟩ (by show 2*(vs.length - (j+1))+1<2*(vs.length - j)+1;omega) ?_;(simp -dsimp -implicitDefEqProofs (maxSteps:=1000000) (disch:=first | omega | (simp only [LN,List.map_append,List.map_cons,List.map_nil,pE,hyl];omega)) only [go_sem,List.map_append,List.map_cons,List.map_nil,pE,hyl];try trivial))
   ·obtain rfl:j=vs.length:=by omega
    simp only [Bool.toNat_true] at h3
    have e0:txL (vs.drop vs.length)=[]:=by rw [List.drop_length];exact txL_nil
    have kc:=pl (lCutM [] 10 (by simp) (by decide))
    repeat' (first
     | (with_reducible first | apply zY | apply zT | apply zM | apply zN | apply zO | refine qK ?_ | (show False;omega))
     | ((with_reducible first | apply zP | apply zQ | apply zR | apply zL)<;>intro h<;>try (exfalso;first | omega | exact h rfl | (revert h;decide) | (cases h;done)))
     | ((first | (with_reducible first | apply zW | apply zV | apply zU | apply zS | apply zX | show VX _ _ _ _ _ _ _ | show vstep _ _ _ _ _ | show vskip _ _ _ | show withV _ _ | apply qN | apply qR | refine zB default ?_ (by first | omega | (simp only [LN,e0];omega)) (by first | omega | (simp only [LN,e0];omega)) | refine zC default ?_ (by first | omega | (simp only [LN,e0];omega)) | refine qI ?_ (by first | decide | omega | assumption | (simp only [LN,e0];omega))) | ((with_reducible apply zD);(exact kc)) | ((with_reducible apply zE);(exact kc);rfl) | ((with_reducible apply zF);(exact kc)) | ((with_reducible show pickE _ _ _);refine qA _ ?_));try simp -dsimp -implicitDefEqProofs (maxSteps:=1000000) (disch:=first | omega | (simp only [LN,e0];omega)) only [go_sem,e0])
    )
    all_goals first | omega | (exact absurd rfl h) | (refine zZ ((vs.length,false,a+1),y) ⟨⟨Nat.le_refl _,fun _=>rfl,by show a+1+0≤vs.length+2;omega⟩,hy1,hy2⟩ (by show 2*(vs.length - vs.length)+0<2*(vs.length - vs.length)+1;omega) ?_;(simp -dsimp -implicitDefEqProofs (maxSteps:=1000000) (disch:=first | omega | (simp only [LN,e0];omega)) only [go_sem,e0];try trivial))
end
theorem sParseR (vs:List Ev) (hR:∀ x,x∈vs→Rng x) (hv:∀ x,x∈vs→okE x=true) (hn:vs.length≤1000):ACallsX Tryz.prog 26 [.p (.v (.string (bs (txL vs))))] [] (fun g:{ p:OwnG vs × Value // Nb NN.n0 p.2 }=>.p (.tup [.rv g.1.2 (.view 8 (g.1.1.1.map pE)),.v (.int .i64 0),.v (.int .i64 0)])) (fun _=>[]) :=
 acx_own (n:=fun _=>vs.length) (r':=fun q g=>.tup [.rv g (.view 8 (q.1.map pE)),.v (.int .i64 0),.v (.int .i64 0)]) NN.n0 np_le (sParseG vs hR hv hn) (fun g=>by
  have:=congrArg List.length g.2.1
  rw [List.length_map] at this ⊢;exact this.symm) (fun q Z lb w u h=>by
  simp only [ARep,AReps,Rep] at h
  obtain ⟨_,⟨u0,_,rfl,h0,u1,_,rfl,h1,u2,_,rfl,h2,rfl⟩,rfl⟩:=h
  refine ⟨u0,by simpa only [ARep] using h0,fun Zn hz hr=>?_⟩
  simp only [Rep,Reps] at hr ⊢
  exact ⟨_,⟨u0,_,rfl,⟨rfl,hr.2⟩,u1,_,rfl,h1,u2,_,rfl,h2,rfl⟩,rfl⟩)
end Go.Proofs.YtckhjklcfagkoaaGreatDoor
namespace Go.Proofs.YtckhjklcfagkoaaGreatDoor
open Go Go.Ab
attribute [local irreducible] callK callF loopQ vstep vskip pickE hideP
open Go.RowKit
set_option maxRecDepth 100000
noncomputable local instance (priority:=high) glT:Glob where
 G:=fun _ _=>True
 mono:=fun _ _ _=>trivial
 tab:=[]
 ok:=fun _ h=>by simp [gfind] at h
structure LI (Z:Nat→Prop) (w0 w:World) (gs:List Value) (u:Value):Prop where
 tv:TV Z w gs u
 zlt:∀ b,Z b→b<w.heap.size
 os:w.os=w0.os
 tape:w.tape=w0.tape
 out:w.output=w0.output
 size:w0.heap.size≤w.heap.size
 bs:BsLe w0 w
 hp:∀ b,b<w0.heap.size→¬ Z b→w.heap[b]? = w0.heap[b]?
def FlatS (s:ASt):Prop:=s.L=[]∧∀ d x,tget s.t d=some x→∃ v,x=.p (.v v)
theorem st_flat {Z Z':Nat→Prop} {lb:Lb} {s:ASt} {a:Act} {w:World} (h:St Z' lb s a w) (hf:FlatS s) (hz:∀ b,Z b→b<w.heap.size):St Z [] s a w:=by
 obtain ⟨h1,h2⟩:=hf
 refine ⟨?_,fun d x hx=>?_,h.df,h.sz⟩
 ·rw [h1];exact ⟨rfl,by simp,by simp,by simp,hz,trivial⟩
 ·obtain ⟨u,k1,k2⟩:=h.tm d x hx
  obtain ⟨v,rfl⟩:=h2 d x hx
  exact ⟨u,k1,by simpa only [ARep,Rep] using k2⟩
theorem LI.ext {Z Z':Nat→Prop} {lb':Lb} {w0 w w':World} {gs:List Value} {u:Value} (h:LI Z w0 w gs u) (e:Ext 0 Z [] w Z' lb' w'):LI Z w0 w' gs u:=by
 obtain ⟨l,h1,h2⟩:=h.tv
 exact ⟨⟨l,h1,Rep.mono (fun _ h=>h) e.keep _ _ h2⟩,fun b hb=>Nat.lt_of_lt_of_le (h.zlt b hb) e.size,e.os.trans h.os,e.tape.trans h.tape,e.output.out.trans h.out,Nat.le_trans h.size e.size,fun b hb=>(e.bs b (Nat.lt_of_lt_of_le hb h.size)).trans (h.bs b hb),
  fun b hb hz=>(e.hp b (Nat.lt_of_lt_of_le hb h.size) (by simp)).trans (h.hp b hb hz)⟩
def lwp (Z:Nat→Prop) (w0:World) (gs:List Value) (u:Value) (P:Program) (c:Code) (QF:Exit→Act→World→Prop) (s:ASt):Prop :=
 ∀ a w,St Z [] s a w→LI Z w0 w gs u→c.wp P QF a w
def lthen (Z:Nat→Prop) (w0:World) (gs:List Value) (u:Value) (P:Program) (y:Code) (QF:Exit→Act→World→Prop):Exit→ASt→Prop
 | .normal,s=>∃ s1,Wk 0 s s1∧FlatS s1∧lwp Z w0 gs u P y QF s1
 | _,_=>False
section
variable {Z:Nat→Prop} {w0:World} {gs:List Value} {u:Value} {P:Program} {QF:Exit→Act→World→Prop} {s:ASt}
theorem l_seq {x y:Code} (h:awp P 0 x (lthen Z w0 gs u P y QF) s):lwp Z w0 gs u P (.seq x y) QF s:=by
 intro a w hs hl
 refine wp_seq (wp_mono (h.run Z [] a w hs) ?_)
 rintro e a' w' ⟨Z',lb',s',h1,h2,h3⟩
 cases e with
 | normal =>
  obtain ⟨s1,k1,k2,k3⟩:=h3
  obtain ⟨Z2,lb2,k4,k5⟩:=k1 Z' lb' a' w' h2
  have hl':=hl.ext h1
  exact k3 a' w' (st_flat k5 k2 hl'.zlt) hl'
 | _=>exact h3.elim
theorem l_end {x:Code} {s1:ASt} (h:awp P 0 x (fun e s'=>match e with | .normal=>Wk 0 s' s1 | _=>False) s) (hf:FlatS s1) (hq:∀ a w,St Z [] s1 a w→LI Z w0 w gs u→QF .normal a w):lwp Z w0 gs u P x QF s:=by
 intro a w hs hl
 refine wp_mono (h.run Z [] a w hs) ?_
 rintro e a' w' ⟨Z',lb',s',h1,h2,h3⟩
 cases e with
 | normal =>
  obtain ⟨Z2,lb2,k4,k5⟩:=h3 Z' lb' a' w' h2
  have hl':=hl.ext h1
  exact hq a' w' (st_flat k5 hf hl'.zlt) hl'
 | _=>exact h3.elim
theorem l_cond {t k:Nat} {y:Code} {b:Bool} (ht:tget s.t t=some (.p (.v (.bool b)))) (h1:b=true→lwp Z w0 gs u P y QF s) (h2:b=false→∀ a w,St Z [] s a w→LI Z w0 w gs u→QF (.exit k) a w):lwp Z w0 gs u P (.seq (.cond (.tmp t) .skip (.exit k)) y) QF s:=by
 intro a w hs hl
 obtain ⟨v,k1,k2⟩:=hs.tm t _ ht
 simp only [ARep,Rep] at k2
 obtain ⟨rfl,_⟩:=k2
 have he:a.eval (.tmp t)=.bool b:=by simp [Act.eval,k1]
 refine wp_seq (wp_cond he ?_)
 cases b with
 | true=>exact wp_skip (h1 rfl a w hs hl)
 | false=>exact wp_exit (h2 rfl a w hs hl)
theorem l_block {id:Nat} {c:Code} (h:lwp Z w0 gs u P c (Exit.inBlock id QF) s):lwp Z w0 gs u P (.block id c) QF s:=fun a w hs hl=>wp_block (h a w hs hl)
theorem l_seq2 {x y:Code} (h:lwp Z w0 gs u P x (Exit.then (y.wp P QF) QF) s):lwp Z w0 gs u P (.seq x y) QF s:=fun a w hs hl=>wp_seq (h a w hs hl)
theorem l_loop {α:Type} {c:Code} (S:α→ASt) (G:α→List Value) (p:α→Prop) (m:α→Nat)
  (round:∀ x,p x→lwp Z w0 (G x) u P c (fun e a w=>match e with | .normal=>∃ y,p y∧m y<m x∧St Z [] (S y) a w∧LI Z w0 w (G y) u | e=>QF e a w) (S x)) (x:α) (hp:p x):lwp Z w0 (G x) u P (.loop c) QF (S x):=by
 intro a w hs hl
 have key:∀ n x,m x<n→p x→∀ a w,St Z [] (S x) a w→LI Z w0 w (G x) u→Code.rounds P c QF n a w:=by
  intro n
  induction n with
  | zero=>intro x hm;omega
  | succ n ih =>
   intro x hm hp a w hs hl
   rw [rounds_succ]
   refine wp_mono (round x hp a w hs hl) ?_
   intro e a1 w1 h
   cases e with
   | normal=>obtain ⟨y,hy,hlt,h1,h2⟩:=h;exact ih y (by omega) hy a1 w1 h1 h2
   | _=>exact h
 exact wp_loop_rounds (m x+1) (key _ x (by omega) hp a w hs hl)
end
theorem tv_cells {Z:Nat→Prop} {w:World} {gs:List Value} {u:Value} (h:TV Z w gs u) {a:Addr} {m cap:Nat} (hu:u=.slice (some a) m cap) {k:Nat} (hk:k<gs.length) :
  ∃ x:Ev,Z a.block∧(gs.getD k (.slice none 0 0)).cells=#[gs.getD k (.slice none 0 0)]∧Rep Z w (.rv (gs.getD k (.slice none 0 0)) (.view 1 (x.ch.map eB))) (gs.getD k (.slice none 0 0))∧At w a.block (a.off+k*8) [.int .u8 x.k,.int .i64 x.th,.int .u64 x.o,.int .u64 x.v,.int .u64 x.w,.int .i64 x.ln,.int .i64 x.n,gs.getD k (.slice none 0 0)]:=by
 obtain ⟨l,hlg,h⟩:=h
 simp only [Rep] at h
 obtain ⟨_,hone,⟨vs,base,cap2,h1,rfl,_,h3,h4,h5⟩,hwr⟩:=h
 have hl:=h1.length
 rw [List.length_map,List.length_zip,hlg,Nat.min_self] at hl
 cases hu
 obtain ⟨h6,h7 | ⟨h7,h8z,h9⟩⟩:=h5
 ·omega
 ·obtain ⟨v,g1,g2⟩:=h1.get k (pE (l.getD k default,gs.getD k (.slice none 0 0))) (by rw [List.getElem?_map,zip_range hlg hk];rfl)
  have ha:=h9 k v g1
  generalize gs.getD k (.slice none 0 0)=g at *
  unfold pE eR at g2
  simp only [Rep,Reps] at g2
  obtain ⟨vs2,⟨u0,_,rfl,⟨rfl,_⟩,u1,_,rfl,⟨rfl,_⟩,u2,_,rfl,⟨rfl,_⟩,u3,_,rfl,⟨rfl,_⟩,u4,_,rfl,⟨rfl,_⟩,u5,_,rfl,⟨rfl,_⟩,u6,_,rfl,⟨rfl,_⟩,u7,_,rfl,⟨rfl,hg1,k7,kwr⟩,rfl⟩,rfl,hone2⟩:=g2
  refine ⟨l.getD k default,h8z,?_,?_,by simpa [vcells,Value.cells] using ha⟩
  ·obtain ⟨vs7,base7,cap7,_,rfl,_⟩:=k7;rfl
  ·simp only [Rep];exact ⟨trivial,hg1,k7,kwr⟩
theorem LI.put8 {Z:Nat→Prop} {w0 w:World} {gs:List Value} {u:Value} (h:LI Z w0 w gs u) {b off:Nat} {c:Array Value} {ty:TypeId} {fr:Nat × Nat} (hb:Z b) (hh:w.heap[b]? = some (.cells c ty fr)) (hf:Unfrozen fr c.size) {x:Int} (hx:c[off]? = some (.int .u8 x)) (y:UInt8) :
  LI Z w0 (wput w b (arrSplice c off [vB y])) gs u:=by
 have hlt:off<c.size:=by
  rcases Nat.lt_or_ge off c.size with h | h
  ·exact h
  ·rw [Array.getElem?_eq_none h] at hx;simp at hx
 have hcell:∀ b' o',(wput w b (arrSplice c off [vB y])).cell? ⟨b',o',none⟩=if b'=b∧o'=off then some (vB y) else w.cell? ⟨b',o',none⟩:=by
  intro b' o'
  by_cases hbb:b'=b
  ·subst hbb
   simp only [World.cell?,put_heap hh,hh,true_and,Option.isSome_none,Bool.false_eq_true,if_false]
   rw [arrSplice_get _ _ _ _ (by have:[vB y].length=1:=rfl;omega)]
   by_cases ho:o'=off
   ·subst ho;simp
   ·rw [if_neg (by have:[vB y].length=1:=rfl;omega),if_neg ho]
  ·rw [if_neg (fun h=>hbb h.1)]
   exact cell_of_heap (put_heap_other hbb)
 have hold:w.cell? ⟨b,off,none⟩=some (.int .u8 x):=by simp [World.cell?,hh,hx]
 refine ⟨tv_st h.tv ?_ ?_ rfl fun a m cap e k hk=>.inl ⟨fun j v h1 h2 hv=>?_,rfl⟩,fun b' hb'=>by rw [put_size];exact h.zlt b' hb',h.os,h.tape,h.out,by rw [put_size];exact h.size,fun b' hb'=>?_,fun b' hb' hz=>?_⟩
 ·intro b' o' x' hx'
  rw [hcell]
  by_cases hbo:b'=b∧o'=off
  ·rw [if_pos hbo];exact .inr ⟨y,rfl⟩
  ·rw [if_neg hbo];exact .inl hx'
 ·intro b' hb' arr ty' fr' h1 h2
  by_cases hbb:b'=b
  ·subst hbb
   rw [hh] at h1;cases h1
   exact ⟨_,_,_,put_heap hh,by rw [arrSplice_size];exact hf⟩
  ·exact ⟨arr,ty',fr',(put_heap_other hbb).trans h1,h2⟩
 ·rw [hcell]
  by_cases hbo:a.block=b∧a.off+k*8+j=off
  ·exfalso
   rw [hbo.1,hbo.2,hold] at hv
   cases hv
   obtain ⟨xe,_,hg,hr,hat⟩:=tv_cells h.tv e hk
   have hgs:∀ x,gs.getD k (.slice none 0 0)≠.int .u8 x:=by
    intro x hx
    simp only [Rep] at hr
    obtain ⟨_,_,⟨vs7,base7,cap7,_,e7,_⟩,_⟩:=hr
    rw [hx] at e7;cases e7
   generalize gs.getD k (.slice none 0 0)=g at *
   have h8:j=1∨j=2∨j=3∨j=4∨j=5∨j=6∨j=7:=by omega
   rw [← hbo.1,← hbo.2] at hold
   have hj:=hat j
   rcases h8 with rfl | rfl | rfl | rfl | rfl | rfl | rfl
   all_goals
    have:=hj _ rfl
    rw [hold] at this
    first | (cases this;done) | (simp only [Option.some.injEq] at this;exact hgs x this.symm)
  ·rw [if_neg hbo];exact hv
 ·by_cases hbb:b'=b
  ·subst hbb
   rw [← h.bs b' hb',bsize_of (put_heap hh),bsize_of hh,arrSplice_size]
  ·rw [← h.bs b' hb'];simp only [bsize,put_heap_other hbb]
 ·rw [put_heap_other (fun e=>hz (by rw [e];exact hb))];exact h.hp b' hb' hz
theorem LI.putZ {Z:Nat→Prop} {w0 w:World} {gs:List Value} {u:Value} (h:LI Z w0 w gs u) {a:Addr} {m cap:Nat} (hu:u=.slice (some a) m cap) {i:Nat} (hi:i<gs.length) {c:Array Value} {ty:TypeId} {fr:Nat × Nat} (hh:w.heap[a.block]? = some (.cells c ty fr)) (hf:Unfrozen fr c.size) :
  a.off+i*8+8≤c.size∧LI Z w0 (wput w a.block (arrSplice c (a.off+i*8) (.int .u8 0::zc))) (gs.set i (.slice none 0 0)) u:=by
 obtain ⟨xe,hb,hg,hr,hat⟩:=tv_cells h.tv hu hi
 have hgs:∀ x,gs.getD i (.slice none 0 0)≠.int .u8 x:=by
  intro x hx
  simp only [Rep] at hr
  obtain ⟨_,_,⟨vs7,base7,cap7,_,e7,_⟩,_⟩:=hr
  rw [hx] at e7;cases e7
 have hsz:a.off+i*8+8≤c.size:=by
  have:=hat 7 _ rfl
  simp only [World.cell?,hh,Option.isSome_none,Bool.false_eq_true,if_false] at this
  rcases Nat.lt_or_ge (a.off+i*8+7) c.size with h | h
  ·omega
  ·rw [Array.getElem?_eq_none h] at this;simp at this
 have hln:(Value.int .u8 0::zc).length=8:=rfl
 refine ⟨hsz,?_⟩
 have hcell:∀ b' o',(wput w a.block (arrSplice c (a.off+i*8) (.int .u8 0::zc))).cell? ⟨b',o',none⟩=if b'=a.block∧a.off+i*8≤o'∧o'<a.off+i*8+8 then (Value.int .u8 0::zc)[o' - (a.off+i*8)]? else w.cell? ⟨b',o',none⟩:=by
  intro b' o'
  by_cases hbb:b'=a.block
  ·subst hbb
   simp only [World.cell?,put_heap hh,hh,true_and,Option.isSome_none,Bool.false_eq_true,if_false]
   rw [arrSplice_get _ _ _ _ (by omega)]
   rfl
  ·rw [if_neg (fun h=>hbb h.1)]
   exact cell_of_heap (put_heap_other hbb)
 generalize gs.getD i (.slice none 0 0)=g at *
 refine ⟨tv_st h.tv ?_ ?_ (List.length_set ..) fun a' m' cap' e k hk=>?_,fun b' hb'=>by rw [put_size];exact h.zlt b' hb',h.os,h.tape,h.out,by rw [put_size];exact h.size,fun b' hb'=>?_,fun b' hb' hz=>?_⟩
 ·intro b' o' x' hx'
  rw [hcell]
  by_cases hbo:b'=a.block∧a.off+i*8≤o'∧o'<a.off+i*8+8
  ·rw [if_pos hbo]
   obtain ⟨rfl,h1,h2⟩:=hbo
   obtain ⟨j,rfl⟩:∃ j,o'=a.off+i*8+j:=⟨o' - (a.off+i*8),by omega⟩
   have h8:j=0∨j=1∨j=2∨j=3∨j=4∨j=5∨j=6∨j=7:=by omega
   have hj:=hat j
   rw [Nat.add_sub_cancel_left]
   rcases h8 with rfl | rfl | rfl | rfl | rfl | rfl | rfl | rfl
   ·exact .inr ⟨0,rfl⟩
   all_goals
    exfalso
    have:=hj _ rfl
    rw [hx'] at this
    first | (cases this;done) | (simp only [Option.some.injEq] at this;exact hgs x' this.symm)
  ·rw [if_neg hbo];exact .inl hx'
 ·intro b' hb' arr ty' fr' h1 h2
  by_cases hbb:b'=a.block
  ·subst hbb
   rw [hh] at h1;cases h1
   exact ⟨_,_,_,put_heap hh,by rw [arrSplice_size];exact hf⟩
  ·exact ⟨arr,ty',fr',(put_heap_other hbb).trans h1,h2⟩
 ·rw [hu] at e
  cases e
  by_cases hki:k=i
  ·subst hki
   refine .inr ⟨fun j v hv=>?_,by simp [List.getD_eq_getElem?_getD,hi]⟩
   have hj7:j<7:=by
    rcases Nat.lt_or_ge j 7 with h | h
    ·exact h
    ·rw [List.getElem?_eq_none (by simpa [zc] using h)] at hv;simp at hv
   rw [hcell,if_pos ⟨rfl,by omega,by omega⟩,show a.off+k*8+(j+1) - (a.off+k*8)=j+1 by omega]
   exact hv
  ·refine .inl ⟨fun j v h1 h2 hv=>?_,by simp [List.getD_eq_getElem?_getD,List.getElem?_set_ne (fun e=>hki e.symm)]⟩
   rw [hcell,if_neg (by omega)];exact hv
 ·by_cases hbb:b'=a.block
  ·subst hbb
   rw [← h.bs a.block hb',bsize_of (put_heap hh),bsize_of hh,arrSplice_size]
  ·rw [← h.bs b' hb'];simp only [bsize,put_heap_other hbb]
 ·rw [put_heap_other (fun e=>hz (by rw [e];exact hb))];exact h.hp b' hb' hz
end Go.Proofs.YtckhjklcfagkoaaGreatDoor
