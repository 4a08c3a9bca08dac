/- strings.Builder's writing methods at this program, with the frame that the walk needs. No conditions beyond the bounds. -/
import Derived.Test.YtckhjklcfagkoaaGreatDoorJShelfQ
import Derived.Test.YtckhjklcfagkoaaGreatDoorAc4
import Derived.Lib.Walk
import Derived.WalkKit
import Derived.BigCall
import Derived.BigGuard
import Derived.Test.YtckhjklcfagkoaaGreatDoorJScIQ
import Derived.Test.YtckhjklcfagkoaaGreatDoorJScMQ
set_option linter.unusedVariables false
namespace Go.Ab
set_option maxRecDepth 100000
open Go.RowKit Go.Shelf Go.Lib Go.Proofs
theorem Tryz.bInfo:(Tryz.prog.info? 5).map (fun i=>(i.zero,i.size,i.bytes))=some (some (.int .u8 0),1,1):=by kernel_rfl
theorem Tryz.bSize:(Tryz.prog.info? 130).map (·.size)=some 2:=by kernel_rfl
theorem Tryz.bLies:liesAt Tryz.prog Tryz.prog.depth 130 (2 / Tryz.prog.cellsOf 130) 0 130 1=true:=by kernel_rfl
set_option maxHeartbeats 1000000 in
theorem Tryz.b_used (b:Nat) (w:World) (h0:w.cell? ⟨b,0,none⟩=some (.pointer (some ⟨b,0,none⟩))) :
  Calls Tryz.prog 93 #[.pointer (some ⟨b,0,none⟩)] w fun e w'=>e=.returned (.tuple #[])∧w'=w:=by
 obtain ⟨j,hj,_⟩:=Option.map_eq_some_iff.1 Tryz.bSize
 go_enter Tryz.func93,Tryz.ntmps93
 go_wp2
 rw [Lib.run_neq_ptr_same w _ Tryz.underlying128 hj]
 go_wp2
 go_end0
 exact ⟨rfl,rfl⟩
set_option maxHeartbeats 1000000 in
theorem Tryz.b_fresh (b:Nat) (w:World) (h0:w.cell? ⟨b,0,none⟩=some (.pointer none)) (hsh:w.shape? b=some (130,2)) (hfz:w.frozen? ⟨b,0,none⟩=false) :
  Calls Tryz.prog 93 #[.pointer (some ⟨b,0,none⟩)] w fun e w'=>e=.returned (.tuple #[])∧w'=w.setCell ⟨b,0,none⟩ (.pointer (some ⟨b,0,none⟩)):=by
 obtain ⟨j,hj,hjs⟩:=Option.map_eq_some_iff.1 Tryz.bSize
 go_enter Tryz.func93,Tryz.ntmps93
 go_wp2
 rw [Lib.run_to_unsafe w ⟨b,0,none⟩ Tryz.underlying128 Tryz.underlying172 hj (by rw [hjs];decide) hsh (Nat.zero_lt_succ 1)]
 simp only [Result.andThen]
 rw [Oper.upon_value]
 go_wp2
 rw [run_callFunc_extern Tryz.func107 (by kernel_rfl) (by kernel_rfl) (by kernel_rfl) (e:=Extern.AbiNoEscape.same) (by kernel_rfl)]
 rw [Lib.run_noEscape]
 simp only [Result.andThen]
 rw [Oper.upon_value]
 go_wp2
 rw [Lib.run_from_unsafe w ⟨b,0,none⟩ Tryz.underlying172 Tryz.underlying128 hj hsh Tryz.bLies]
 simp only [Result.andThen]
 rw [Oper.upon_value]
 go_wp2
 go_end0
 exact ⟨rfl,rfl⟩
theorem Tryz.b_check (b:Nat) (p v:Value) (bs:List Value) (w:World) (hp:p=.pointer none∨p=.pointer (some ⟨b,0,none⟩)) (h:BAt 130 5 b p v bs w) :
  Calls Tryz.prog 93 #[.pointer (some ⟨b,0,none⟩)] w fun e w'=>e=.returned (.tuple #[])∧BAt 130 5 b (.pointer (some ⟨b,0,none⟩)) v bs w'∧BFr b v v w w'∧w'.heap.size=w.heap.size:=by
 have c0:w.cell? ⟨b,0,none⟩=some p:=by rw [Lib.cell_of_heap h.blk];rfl
 rcases hp with rfl | rfl
 ·refine (Tryz.b_fresh b w c0 (by simp [World.shape?,h.blk]) (Lib.frozen_of_heap h.blk 0)).mono ?_
  rintro e w' ⟨rfl,rfl⟩
  have hb':(w.setCell ⟨b,0,none⟩ (.pointer (some ⟨b,0,none⟩))).heap[b]? = some (.cells #[.pointer (some ⟨b,0,none⟩),v] 130 (0,0)):=by
   simp [World.setCell,Array.getElem?_modify,h.blk]
  have hoth:∀ k,k≠b→(w.setCell ⟨b,0,none⟩ (.pointer (some ⟨b,0,none⟩))).heap[k]? = w.heap[k]?:=fun k hk=>by
   simp only [World.setCell,Array.getElem?_modify]
   rw [if_neg (fun e=>hk e.symm)]
  refine ⟨rfl,⟨hb',⟨h.own.1,?_⟩,h.ne⟩,⟨rfl,rfl,rfl,by simp [World.setCell],fun k _ hk _=>hoth k hk,fun k hk=>.inl hk,fun k _=>?_⟩,by simp [World.setCell]⟩
  ·rcases h.own.2 with hn | ⟨g,cap,cur,fz,hv,h0,hg,r⟩
   ·exact .inl hn
   ·refine .inr ⟨g,cap,cur,fz,hv,h0,?_,r⟩
    rw [hoth g (fun e=>h.ne (by rw [hv,e];rfl))];exact hg
  ·by_cases hk:k=b
   ·subst hk;rw [bsize_row hb',bsize_row h.blk];rfl
   ·exact bsize_eq (hoth k hk)
 ·refine (Tryz.b_used b w c0).mono ?_
  rintro e w' ⟨rfl,rfl⟩
  exact ⟨rfl,h,⟨rfl,rfl,rfl,Nat.le_refl _,fun _ _ _ _=>rfl,fun k hk=>.inl hk,fun _ _=>rfl⟩,rfl⟩
set_option maxHeartbeats 2000000 in
theorem Tryz.b_writeString (b:Nat) (p v:Value) (bs:List Value) (s:ByteArray) (w:World) (hp:p=.pointer none∨p=.pointer (some ⟨b,0,none⟩)) (h:BAt 130 5 b p v bs w)
  (hlen:bs.length+s.size≤140737488355328) :
  Calls Tryz.prog 71 #[.pointer (some ⟨b,0,none⟩),.string s] w fun e w'=>e=.returned (.tuple #[.int .i64 s.size,.nilIface])∧∃ v',BAt 130 5 b (.pointer (some ⟨b,0,none⟩)) v' (bs++strCells s) w'∧BFr b v v' w w':=by
 obtain ⟨i0,hi,hz0,hz1,hz2⟩:=info_parts Tryz.bInfo
 go_enter Tryz.func71,Tryz.ntmps71
 go_wp2_with (go_at_call 93;refine (Tryz.b_check b p v bs _ hp h).mono ?_)
 rintro e w1 ⟨rfl,h1,f1,s1⟩
 have c0:w1.cell? ⟨b,0,none⟩=some (.pointer (some ⟨b,0,none⟩)):=by rw [Lib.cell_of_heap h1.blk];rfl
 have c1:w1.cell? ⟨b,1,none⟩=some v:=by rw [Lib.cell_of_heap h1.blk];rfl
 go_wp2_with (at_builtin;refine wpList_append_stringX _ rfl _ _ 33 9 rfl 5 i0 Tryz.underlying33 Tryz.underlying9 hi hz0 hz1 hz2 _ _ _ rfl h1.own s rfl ?c3 ?c4 ?_)
 case c3=>unfold maxLen;omega
 case c4=>omega
 intro v' w2 hown' hgrow
 have hlt:b<w1.heap.size:=by
  rcases Nat.lt_or_ge b w1.heap.size with h' | h'
  ·exact h'
  ·have:=h1.blk;simp [Array.getElem?_eq_none h'] at this
 have hb2:w2.heap[b]? = some (.cells #[.pointer (some ⟨b,0,none⟩),v] 130 (0,0)):=by
  rw [hgrow.by_.block b hlt (fun e=>h1.ne e.symm)]
  exact h1.blk
 have d0:w2.cell? ⟨b,0,none⟩=some (.pointer (some ⟨b,0,none⟩)):=by rw [Lib.cell_of_heap hb2];rfl
 have d1:w2.cell? ⟨b,1,none⟩=some v:=by rw [Lib.cell_of_heap hb2];rfl
 have f1':w2.frozen? ⟨b,1,none⟩=false:=Lib.frozen_of_heap hb2 1
 obtain ⟨ao,n',cap,rfl⟩:∃ ao n' cap,v'=.slice ao n' cap:=by
  rcases hown'.2 with ⟨hv,_⟩ | ⟨g,cap,cur,fz,hv,_⟩
  ·exact ⟨_,_,_,hv⟩
  ·exact ⟨_,_,_,hv⟩
 obtain ⟨r1,r2⟩:=b_store h1 (bs':=bs++strCells s) (by simpa [Lib.strCells_length] using hown') hgrow
 have r3:=f1.trans s1 rfl r2
 clear hgrow hown' r2
 go_wp2
 go_ret2
 exact ⟨rfl,_,r1,r3⟩
set_option maxHeartbeats 2000000 in
theorem Tryz.b_writeByte (b:Nat) (p v:Value) (bs:List Value) (c:Int) (w:World) (hp:p=.pointer none∨p=.pointer (some ⟨b,0,none⟩)) (h:BAt 130 5 b p v bs w)
  (hlen:bs.length+1≤140737488355328) :
  Calls Tryz.prog 73 #[.pointer (some ⟨b,0,none⟩),.int .u8 c] w fun e w'=>e=.returned .nilIface∧∃ v',BAt 130 5 b (.pointer (some ⟨b,0,none⟩)) v' (bs++[.int .u8 c]) w'∧BFr b v v' w w':=by
 obtain ⟨i0,hi,hz0,hz1,hz2⟩:=info_parts Tryz.bInfo
 go_enter Tryz.func73,Tryz.ntmps73
 go_wp2_with (go_at_call 93;refine (Tryz.b_check b p v bs _ hp h).mono ?_)
 rintro e w1 ⟨rfl,h1,f1,s1⟩
 replace s1:=s1.symm
 have c0:w1.cell? ⟨b,0,none⟩=some (.pointer (some ⟨b,0,none⟩)):=by rw [Lib.cell_of_heap h1.blk];rfl
 have c1:w1.cell? ⟨b,1,none⟩=some v:=by rw [Lib.cell_of_heap h1.blk];rfl
 have hlt:b<w1.heap.size:=by
  rcases Nat.lt_or_ge b w1.heap.size with h' | h'
  ·exact h'
  ·have:=h1.blk;simp [Array.getElem?_eq_none h'] at this
 go_wp2_with (at_builtin;refine wpList_append_X _ rfl _ _ 33 rfl 5 i0 (.int .u8 0) Tryz.underlying33 hi hz0 hz1 hz2 rfl _ _ _ rfl (h1.own.alloc _) ⟨w1.heap.size,0,none⟩ 1 1 [.int .u8 c] rfl rfl ?c1 ?c2 ?c3 ?c4 ?_)
 case c1 =>
  intro j u hj
  match j,hj with
  | 0,hj=>simp at hj;subst hj;simp [Addr.add]
 case c2=>intro u hu;simp at hu;subst hu;rfl
 case c3=>unfold maxLen;omega
 case c4=>omega
 intro v' w2 hown' hgrow
 have hgrow1:GrownX w1 w2 v v':=by
  have hal:∀ (o:Obj) k,k<w1.heap.size→(w1.alloc o).heap[k]? = w1.heap[k]?:=fun o k hk=>Lib.alloc_old w1 o k hk
  refine ⟨⟨hgrow.by_.os,hgrow.by_.tape,hgrow.by_.output,by have:=hgrow.by_.size;simp at this;omega,fun k hk hkv=>?_⟩,fun k hk=>(hgrow.blk k hk).imp id fun h=>by simp at h;omega,fun k hk=>?_⟩
  ·rw [hgrow.by_.block k (by simp;omega) hkv];exact hal _ k hk
  ·rw [hgrow.bs k (by simp;omega)];exact bsize_eq (hal _ k hk)
 have hb2:w2.heap[b]? = some (.cells #[.pointer (some ⟨b,0,none⟩),v] 130 (0,0)):=by
  rw [hgrow1.by_.block b hlt (fun e=>h1.ne e.symm)]
  exact h1.blk
 have d0:w2.cell? ⟨b,0,none⟩=some (.pointer (some ⟨b,0,none⟩)):=by rw [Lib.cell_of_heap hb2];rfl
 have d1:w2.cell? ⟨b,1,none⟩=some v:=by rw [Lib.cell_of_heap hb2];rfl
 have f1':w2.frozen? ⟨b,1,none⟩=false:=Lib.frozen_of_heap hb2 1
 obtain ⟨g,cap,rfl⟩:∃ g cap,v'=.slice (some ⟨g,0,none⟩) (bs.length+1) cap:=by
  rcases hown'.2 with ⟨_,h0⟩ | ⟨g,cap,cur,fz,hv,_⟩
  ·omega
  ·exact ⟨g,cap,hv⟩
 obtain ⟨r1,r2⟩:=b_store h1 (bs':=bs++[.int .u8 c]) (by simpa using hown') hgrow1
 have r3:=f1.trans s1.symm rfl r2
 clear hgrow hgrow1 hown' r2
 go_wp2
 go_ret
 exact ⟨rfl,_,r1,r3⟩
end Go.Ab
set_option linter.unusedSimpArgs false
namespace Go.Proofs.YtckhjklcfagkoaaGreatDoor
set_option maxHeartbeats 4000000
set_option maxRecDepth 100000
open Go Go.Ab
attribute [local irreducible] callK callF loopQ vstep vskip pickE hideP
open Go.RowKit
attribute [local go_sem] eE rE eT bs_inj ext_bs byteAt_bs
def fewE (l:List Ev) (n:Nat):List Ev:=(l.take n).map plE
theorem getD_in {l:List Ev} {i:Nat} (h:i<l.length):l.getD i default∈l:=by
 rw [List.getD_eq_getElem?_getD,List.getElem?_eq_getElem h];exact List.getElem_mem h
theorem map_take2 {β:Type} {f:Ev→β} {l:List Ev} {i:Nat} (h:i<l.length):(l.take (i+1)).map f=(l.take i).map f++[f (l.getD i default)]:=by
 rw [yE default h,List.map_append];rfl
theorem bFew (l:List Ev) (n:Nat) (hn:n≤1000) (hc:∀ x,x∈l→x.ch.length≤140737488355328):PCalls Tryz.prog 10 [.view 8 (l.map rE),.v (.int .i64 n)] (.view 8 ((fewE l n).map rE)):=by
 refine yD ⟨_,rfl,rfl,by decide⟩ fun hf=>?_
 simp only [go_sem,big] at hf
 refine yB (E:=E) (fn:=Tryz.f10) 28 [.tmp 4] rfl rfl rfl rfl (by decide) rfl ?_
 repeat' (first
  | (with_reducible first | apply zY | apply zT | apply zM | apply zN | apply zO | refine qK ?_ | (show False;omega))
  | ((with_reducible first | apply zP | apply zQ | apply zR | apply zL)<;>intro h)
  | ((first | (with_reducible first | apply zW | apply zV | apply zU | apply zS | apply zX | show VX _ _ _ _ _ _ _ | show vstep _ _ _ _ _ | show vskip _ _ _ | show withV _ _ | apply qN | apply qR | refine zB default ?_ | refine zC default ?_ | refine qI ?_) | ((with_reducible show pickE _ _ _);refine qA _ ?_));try simp -dsimp -implicitDefEqProofs (maxSteps:=1000000) (disch:=first | omega | (simp only [LN];omega)) only [go_sem])
 )
 refine r_loopA (α:=Nat) [0,1] (fun i b=>[(5,.sl b 8 0 i),(6,aI i)]) (fun i b=>[]) (fun i=>[.arr 8 ((fewE l i).map rE)]) (fun i=>i≤l.length∧i≤n) (fun i=>n - i) (0) ?h0_1 ?hs0_1 ?I_1 ?hI_1 ?round_1
 case hI_1=>intro x;(simp -dsimp -implicitDefEqProofs (maxSteps:=1000000) (disch:=first | omega | (simp only [LN];omega)) only [go_sem])<;>exact rfl
 case hs0_1=>refine wk_auto ?_;(simp -dsimp -implicitDefEqProofs (maxSteps:=1000000) (disch:=first | omega | (simp only [LN,fewE,List.take_zero,List.map_nil];omega)) only [go_sem,fewE,List.take_zero,List.map_nil])<;>(try omega)
 case h0_1=>exact ⟨Nat.zero_le _,Nat.zero_le _⟩
 case round_1 =>
  rintro i ⟨h1,h2⟩
  have hlen:(fewE l i).length=i:=by unfold fewE;rw [List.length_map,List.length_take];omega
  by_cases h:i<l.length∧i<n
  ·obtain ⟨h3,h4⟩:=h
   have kp:=bPlain (l.getD i default) (hc _ (getD_in h3))
   have hs:(fewE l (i+1)).map rE=(fewE l i).map rE++[rE (plE (l.getD i default))]:=by unfold fewE;rw [map_take2 h3,List.map_append];rfl
   generalize hxx:l.getD i default=x at *
   repeat' (first
    | (with_reducible first | apply zY | apply zT | apply zM | apply zN | apply zO | refine qK ?_ | (show False;omega))
    | ((with_reducible first | apply zP | apply zQ | apply zR | apply zL)<;>intro h<;>try (exfalso;first | omega | exact h rfl | (revert h;decide) | (cases h;done)))
    | ((first | (with_reducible first | apply zW | apply zV | apply zU | apply zS | apply zX | show VX _ _ _ _ _ _ _ | show vstep _ _ _ _ _ | show vskip _ _ _ | show withV _ _ | apply qN | apply qR | refine zB default ?_ (by first | omega | (simp only [LN,hxx,hlen];omega)) (by first | omega | (simp only [LN,hxx,hlen];omega)) | refine zC default ?_ (by first | omega | (simp only [LN,hxx,hlen];omega)) | refine qI ?_ (by first | decide | omega | assumption | (simp only [LN,hxx,hlen];omega))) | ((with_reducible apply zD);(exact kp)) | ((with_reducible apply zE);(exact kp);rfl) | ((with_reducible apply zF);(exact kp)) | ((with_reducible show pickE _ _ _);refine qA _ ?_));try simp -dsimp -implicitDefEqProofs (maxSteps:=1000000) (disch:=first | omega | (simp only [LN,hxx,hlen];omega)) only [go_sem,hxx,hlen])
   )
   all_goals first | omega | (refine zZ (i+1) ?_ ?_ ?_;(omega);(show _<_;omega);(simp -dsimp -implicitDefEqProofs (maxSteps:=1000000) (disch:=first | omega | (simp only [LN,hs];omega)) only [go_sem,hs];try trivial))
  ·have he:fewE l i=fewE l n:=by
    unfold fewE
    by_cases h5:i<n
    ·rw [show i=l.length by omega,List.take_length,List.take_of_length_le (by omega)]
    ·rw [show i=n by omega]
   have ht:List.take i ((fewE l n).map rE)=(fewE l n).map rE:=List.take_of_length_le (by rw [List.length_map,← he,hlen];omega)
   repeat' (first
    | (with_reducible first | apply zY | apply zT | apply zM | apply zN | apply zO | refine qK ?_ | (show False;omega))
    | ((with_reducible first | apply zP | apply zQ | apply zR | apply zL)<;>intro h<;>try (exfalso;first | omega | exact h rfl | (revert h;decide) | (cases h;done)))
    | ((first | (with_reducible first | apply zW | apply zV | apply zU | apply zS | apply zX | show VX _ _ _ _ _ _ _ | show vstep _ _ _ _ _ | show vskip _ _ _ | show withV _ _ | apply qN | apply qR | refine zB default ?_ (by first | omega | (simp only [LN,he,ht];omega)) (by first | omega | (simp only [LN,he,ht];omega)) | refine zC default ?_ (by first | omega | (simp only [LN,he,ht];omega)) | refine qI ?_ (by first | decide | omega | assumption | (simp only [LN,he,ht];omega))) | ((with_reducible show pickE _ _ _);refine qA _ ?_));try simp -dsimp -implicitDefEqProofs (maxSteps:=1000000) (disch:=first | omega | (simp only [LN,he,ht];omega)) only [go_sem,he,ht])
   )
   all_goals first | omega | rfl | (rw [← he];exact hlen)
theorem dWS (b s:List UInt8) (n:Nat) (hn:n=b.length) (h0:n+s.length≠0) (hlen:n+s.length≤1000000000) :
  ACalls Tryz.prog 71 [.loc 0 0,.p (.v (.string (bs s)))] [.bld 130 (.sl 1 1 0 n),.byt 5 b] (.p (.tup [.v (.int .i64 s.length),.v .nilIface])) [.bld 130 (.sl 2 1 0 (b++s).length),.dead,.byt 5 (b++s)]:=by
 subst hn
 have:=ac_writeStringE (P:=Tryz.prog) (f:=71) ⟨_,rfl,rfl,by decide⟩ (fun b p v b2 s w hp h hl=>Tryz.b_writeString b p v b2 s w hp h hl) b (bs s) (by rw [bs_size];exact h0) (by rw [bs_size];omega)
 rw [bs_size] at this;exact this
theorem dWB (b:List UInt8) (n:Nat) (hn:n=b.length) (h0:n≠0) (hlen:n≤1000000000) :
  ACalls Tryz.prog 73 [.loc 0 0,.p (.v (.int .u8 10))] [.bld 130 (.sl 1 1 0 n),.byt 5 b] (.p (.v .nilIface)) [.bld 130 (.sl 2 1 0 (b++[10]).length),.dead,.byt 5 (b++[10])]:=by
 subst hn
 exact ac_writeByte (P:=Tryz.prog) (f:=73) ⟨_,rfl,rfl,by decide⟩ (fun b p v b2 c w hp h hl=>Tryz.b_writeByte b p v b2 c w hp h hl) b 10 (by decide) h0 (by omega)
theorem dSt (b:List UInt8) (n:Nat) (hn:n=b.length) (h0:n≠0) :
  ACalls Tryz.prog 74 [.loc 0 0] [.bld 130 (.sl 1 1 0 n),.byt 5 b] (.p (.v (.string (bs b)))) [.bld 130 (.sl 2 1 0 b.length),.dead,.byt 5 b]:=by
 subst hn
 exact ac_string (P:=Tryz.prog) (f:=74) ⟨_,rfl,rfl,by decide⟩ (fun b p v l w h hl=>b_string Tryz.lays169 Tryz.Builder_Extra_169 b p v l w h hl) b h0
theorem dSt0:ACalls Tryz.prog 74 [.loc 0 0] [.bld 130 (.p (.v (.slice none 0 0)))] (.p (.v (.string ⟨#[]⟩))) [.bld 130 (.p (.v (.slice none 0 0)))] :=
 ac_string0 (P:=Tryz.prog) (f:=74) ⟨_,rfl,rfl,by decide⟩ (fun b p w h=>b_string0 Tryz.lays169 Tryz.Builder_Extra_169 b p w h)
theorem txL_take {l:List Ev} {i:Nat} (h:i<l.length):txL (l.take (i+1))=txL (l.take i)++lnE (l.getD i default):=by
 rw [yE default h,txL_app];simp [txL]
theorem txL_filter:∀ l:List Ev,txL (l.filter fun x=>okE x)=txL l
 | []=>rfl
 | x::l=>by
  have ih:=txL_filter l
  cases h:okE x with
  | true=>rw [List.filter_cons_of_pos (by simpa using h),txL,txL,ih]
  | false=>rw [List.filter_cons_of_neg (by simp [h]),txL,ih,lnE,h];rfl
attribute [local irreducible] txL
theorem txE_pos {x:Ev} (h:okE x=true) (R:Rng x):0<(txE x).length:=by have:=tx_len5 h R;omega
theorem sTextL1 (l:List Ev) (hn:l.length≤1000) (hR:∀ x,x∈l→Rng x∧x.ch.length≤1000000) (hne:¬ txL l=[]):PCalls Tryz.prog 25 [.view 8 (l.map eE)] (.v (.string (bs (txL l)))):=by
 refine yD ⟨_,rfl,rfl,by decide⟩ fun hf=>?_
 simp only [go_sem,big] at hf
 refine yB (E:=E) (fn:=Tryz.f25) 20 [.tmp 2] rfl rfl rfl rfl (by decide) rfl ?_
 have h0:txL []=[]:=txL_nil
 have hlpos:(txL l).length≠0:=fun e=>hne (List.length_eq_zero_iff.1 e)
 repeat' (first
  | (with_reducible first | apply zY | apply zT | apply zM | apply zN | apply zO | refine qK ?_ | (show False;omega))
  | ((with_reducible first | apply zP | apply zQ | apply zR | apply zL)<;>intro h)
  | ((first | (with_reducible first | apply zW | apply zV | apply zU | apply zS | apply zX | show VX _ _ _ _ _ _ _ | show vstep _ _ _ _ _ | show vskip _ _ _ | show withV _ _ | apply qN | apply qR | refine zB default ?_ | refine zC default ?_ | refine qI ?_) | ((with_reducible show pickE _ _ _);refine qA _ ?_));try simp -dsimp -implicitDefEqProofs (maxSteps:=1000000) (disch:=first | omega | (simp only [LN];omega)) only [go_sem])
 )
 refine r_loopA (α:=Nat) [3,6,7] (fun i b=>[(8,aI i)]) (fun i b=>[(3,.bld 130 (.sl b 1 0 (txL (l.take i)).length))]) (fun i=>[.byt 5 (txL (l.take i))]) (fun i=>i≤l.length) (fun i=>l.length - i) (0) ?h0_3 ?hs0_3 ?I_3 ?hI_3 ?round_3
 case hI_3=>intro x;(simp -dsimp -implicitDefEqProofs (maxSteps:=1000000) (disch:=first | omega | (simp only [LN];omega)) only [go_sem])<;>exact rfl
 case hs0_3=>refine wk_auto ?_;(simp -dsimp -implicitDefEqProofs (maxSteps:=1000000) (disch:=first | omega | (simp only [LN,List.take_zero,h0,List.length_nil];omega)) only [go_sem,List.take_zero,h0,List.length_nil])<;>(try omega)
 case h0_3=>exact Nat.zero_le _
 case round_3 =>
  intro i h1
  have htl:=txL_len (l.take i) (fun x hx=>(hR x (List.mem_of_mem_take hx)).1)
  rw [List.length_take,Nat.min_eq_left h1] at htl
  by_cases h3:i<l.length
  ·obtain ⟨g1,g2⟩:=hR _ (getD_in h3)
   have kv:=sValid (l.getD i default) g2
   have kt:=sText (l.getD i default) g1 g2
   have hs:=txL_take h3
   generalize hxx:l.getD i default=x at *
   generalize txL (l.take i)=q at *
   cases hv:okE x with
   | true =>
    have e:txV x=txE x:=by unfold txV;rw [hv];rfl
    have hln:lnE x=txE x++[10]:=by unfold lnE;rw [hv];rfl
    have hp:=txE_pos hv g1
    have hle:=txE_len hv g1
    rw [hv] at kv
    rw [e] at kt
    rw [hln,← List.append_assoc] at hs
    have kw:=dWS q (txE x) q.length rfl (by omega) (by omega)
    have kb:=dWB (q++txE x) (q.length+(txE x).length) (by rw [List.length_append]) (by omega) (by omega)
    repeat' (first
     | (with_reducible first | apply zY | apply zT | apply zM | apply zN | apply zO | refine qK ?_ | (show False;omega))
     | ((with_reducible first | apply zP | apply zQ | apply zR | apply zL)<;>intro h<;>try (exfalso;first | omega | exact h rfl | (revert h;decide) | (cases h;done)))
     | ((first | (with_reducible first | apply zW | apply zV | apply zU | apply zS | apply zX | show VX _ _ _ _ _ _ _ | show vstep _ _ _ _ _ | show vskip _ _ _ | show withV _ _ | apply qN | apply qR | refine zB default ?_ (by first | omega | (simp only [LN,hxx];omega)) (by first | omega | (simp only [LN,hxx];omega)) | refine zC default ?_ (by first | omega | (simp only [LN,hxx];omega)) | refine qI ?_ (by first | decide | omega | assumption | (simp only [LN,hxx];omega))) | ((with_reducible apply zD);(first | exact kv | exact kt)) | ((with_reducible apply zE);(first | exact kv | exact kt);rfl) | ((with_reducible apply zF);(first | exact kv | exact kt)) | (with_reducible first | apply zG | apply zH | apply zI) | ((with_reducible apply zJ);(first | exact kw | exact kb)) | ((with_reducible show pickE _ _ _);refine qA _ ?_));try simp -dsimp -implicitDefEqProofs (maxSteps:=1000000) (disch:=first | omega | (simp only [LN,hxx];omega)) only [go_sem,hxx])
    )
    all_goals first | omega | (refine zZ (i+1) ?_ ?_ ?_;(omega);(show _<_;omega);(simp -dsimp -implicitDefEqProofs (maxSteps:=1000000) (disch:=first | omega | (simp only [LN,hs];omega)) only [go_sem,hs];try trivial))
   | false =>
    have hln:lnE x=[]:=by unfold lnE;rw [hv];rfl
    rw [hv] at kv
    rw [hln,List.append_nil] at hs
    repeat' (first
     | (with_reducible first | apply zY | apply zT | apply zM | apply zN | apply zO | refine qK ?_ | (show False;omega))
     | ((with_reducible first | apply zP | apply zQ | apply zR | apply zL)<;>intro h<;>try (exfalso;first | omega | exact h rfl | (revert h;decide) | (cases h;done)))
     | ((first | (with_reducible first | apply zW | apply zV | apply zU | apply zS | apply zX | show VX _ _ _ _ _ _ _ | show vstep _ _ _ _ _ | show vskip _ _ _ | show withV _ _ | apply qN | apply qR | refine zB default ?_ (by first | omega | (simp only [LN,hxx];omega)) (by first | omega | (simp only [LN,hxx];omega)) | refine zC default ?_ (by first | omega | (simp only [LN,hxx];omega)) | refine qI ?_ (by first | decide | omega | assumption | (simp only [LN,hxx];omega))) | ((with_reducible apply zD);(exact kv)) | ((with_reducible apply zE);(exact kv);rfl) | ((with_reducible apply zF);(exact kv)) | ((with_reducible show pickE _ _ _);refine qA _ ?_));try simp -dsimp -implicitDefEqProofs (maxSteps:=1000000) (disch:=first | omega | (simp only [LN,hxx];omega)) only [go_sem,hxx])
    )
    all_goals first | omega | (refine zZ (i+1) ?_ ?_ ?_;(omega);(show _<_;omega);(simp -dsimp -implicitDefEqProofs (maxSteps:=1000000) (disch:=first | omega | (simp only [LN,hs];omega)) only [go_sem,hs];try trivial))
  ·obtain rfl:i=l.length:=by omega
   have ht:=List.take_length (l:=l)
   have ks:=dSt (txL l) _ rfl hlpos
   repeat' (first
    | (with_reducible first | apply zY | apply zT | apply zM | apply zN | apply zO | refine qK ?_ | (show False;omega))
    | ((with_reducible first | apply zP | apply zQ | apply zR | apply zL)<;>intro h<;>try (exfalso;first | omega | exact h rfl | (revert h;decide) | (cases h;done)))
    | ((first | (with_reducible first | apply zW | apply zV | apply zU | apply zS | apply zX | show VX _ _ _ _ _ _ _ | show vstep _ _ _ _ _ | show vskip _ _ _ | show withV _ _ | apply qN | apply qR | refine zB default ?_ (by first | omega | (simp only [LN,ht];omega)) (by first | omega | (simp only [LN,ht];omega)) | refine zC default ?_ (by first | omega | (simp only [LN,ht];omega)) | refine qI ?_ (by first | decide | omega | assumption | (simp only [LN,ht];omega))) | (with_reducible first | apply zG | apply zH | apply zI) | ((with_reducible apply zJ);(first | exact ks)) | ((with_reducible show pickE _ _ _);refine qA _ ?_));try simp -dsimp -implicitDefEqProofs (maxSteps:=1000000) (disch:=first | omega | (simp only [LN,ht];omega)) only [go_sem,ht])
   )
   all_goals first | omega | rfl
theorem tx_none {l:List Ev} (h:txL l=[]) (hR:∀ x,x∈l→Rng x):∀ x,x∈l→okE x=false:=by
 intro x hx
 cases hv:okE x with
 | false=>rfl
 | true =>
  exfalso
  obtain ⟨a,b,rfl⟩:=List.append_of_mem hx
  rw [txL_app] at h
  have h2:txL (x::b)=[]:=by
   have:=List.append_eq_nil_iff.1 h
   exact this.2
  have h3:lnE x++txL b=[]:=by have:=h2;unfold txL at this;exact this
  have h4:=(List.append_eq_nil_iff.1 h3).1
  unfold lnE at h4;rw [hv] at h4;simp at h4
theorem sTextL0 (l:List Ev) (hn:l.length≤1000) (hR:∀ x,x∈l→Rng x∧x.ch.length≤1000000) (he:txL l=[]):PCalls Tryz.prog 25 [.view 8 (l.map eE)] (.v (.string (bs (txL l)))):=by
 refine yD ⟨_,rfl,rfl,by decide⟩ fun hf=>?_
 simp only [go_sem,big] at hf
 refine yB (E:=E) (fn:=Tryz.f25) 20 [.tmp 2] rfl rfl rfl rfl (by decide) rfl ?_
 have hno:=tx_none he (fun x hx=>(hR x hx).1)
 rw [he]
 repeat' (first
  | (with_reducible first | apply zY | apply zT | apply zM | apply zN | apply zO | refine qK ?_ | (show False;omega))
  | ((with_reducible first | apply zP | apply zQ | apply zR | apply zL)<;>intro h)
  | ((first | (with_reducible first | apply zW | apply zV | apply zU | apply zS | apply zX | show VX _ _ _ _ _ _ _ | show vstep _ _ _ _ _ | show vskip _ _ _ | show withV _ _ | apply qN | apply qR | refine zB default ?_ | refine zC default ?_ | refine qI ?_) | ((with_reducible show pickE _ _ _);refine qA _ ?_));try simp -dsimp -implicitDefEqProofs (maxSteps:=1000000) (disch:=first | omega | (simp only [LN];omega)) only [go_sem])
 )
 refine r_loopA (α:=Nat) [3,6,7] (fun i b=>[(8,aI i)]) (fun i b=>[(3,.bld 130 (.p (.v (.slice none 0 0))))]) (fun i=>[]) (fun i=>i≤l.length) (fun i=>l.length - i) (0) ?h0_4 ?hs0_4 ?I_4 ?hI_4 ?round_4
 case hI_4=>intro x;(simp -dsimp -implicitDefEqProofs (maxSteps:=1000000) (disch:=first | omega | (simp only [LN];omega)) only [go_sem])<;>exact rfl
 case hs0_4=>refine wk_auto ?_;(simp -dsimp -implicitDefEqProofs (maxSteps:=1000000) (disch:=first | omega | (simp only [LN];omega)) only [go_sem])<;>(try omega)
 case h0_4=>exact Nat.zero_le _
 case round_4 =>
  intro i h1
  by_cases h3:i<l.length
  ·obtain ⟨g1,g2⟩:=hR _ (getD_in h3)
   have kv:=sValid (l.getD i default) g2
   rw [hno _ (getD_in h3)] at kv
   repeat' (first
    | (with_reducible first | apply zY | apply zT | apply zM | apply zN | apply zO | refine qK ?_ | (show False;omega))
    | ((with_reducible first | apply zP | apply zQ | apply zR | apply zL)<;>intro h<;>try (exfalso;first | omega | exact h rfl | (revert h;decide) | (cases h;done)))
    | ((first | (with_reducible first | apply zW | apply zV | apply zU | apply zS | apply zX | show VX _ _ _ _ _ _ _ | show vstep _ _ _ _ _ | show vskip _ _ _ | show withV _ _ | apply qN | apply qR | refine zB default ?_ | refine zC default ?_ | refine qI ?_) | ((with_reducible apply zD);(exact kv)) | ((with_reducible apply zE);(exact kv);rfl) | ((with_reducible apply zF);(exact kv)) | ((with_reducible show pickE _ _ _);refine qA _ ?_));try simp -dsimp -implicitDefEqProofs (maxSteps:=1000000) (disch:=first | omega | (simp only [LN];omega)) only [go_sem])
   )
   all_goals first | omega | (refine zZ (i+1) ?_ ?_ ?_;(omega);(show _<_;omega);(simp -dsimp -implicitDefEqProofs (maxSteps:=1000000) (disch:=first | omega | (simp only [LN];omega)) only [go_sem];try trivial))
  ·obtain rfl:i=l.length:=by omega
   repeat' (first
    | (with_reducible first | apply zY | apply zT | apply zM | apply zN | apply zO | refine qK ?_ | (show False;omega))
    | ((with_reducible first | apply zP | apply zQ | apply zR | apply zL)<;>intro h<;>try (exfalso;first | omega | exact h rfl | (revert h;decide) | (cases h;done)))
    | ((first | (with_reducible first | apply zW | apply zV | apply zU | apply zS | apply zX | show VX _ _ _ _ _ _ _ | show vstep _ _ _ _ _ | show vskip _ _ _ | show withV _ _ | apply qN | apply qR | refine zB default ?_ | refine zC default ?_ | refine qI ?_) | (with_reducible first | apply zG | apply zH | apply zI) | ((with_reducible apply zJ);(first | exact dSt0)) | ((with_reducible show pickE _ _ _);refine qA _ ?_));try simp -dsimp -implicitDefEqProofs (maxSteps:=1000000) (disch:=first | omega | (simp only [LN];omega)) only [go_sem])
   )
   all_goals first | omega | rfl
theorem sTextL (l:List Ev) (hn:l.length≤1000) (hR:∀ x,x∈l→Rng x∧x.ch.length≤1000000):PCalls Tryz.prog 25 [.view 8 (l.map eE)] (.v (.string (bs (txL l)))):=by
 by_cases h:txL l=[]
 ·exact sTextL0 l hn hR h
 ·exact sTextL1 l hn hR h
end Go.Proofs.YtckhjklcfagkoaaGreatDoor
