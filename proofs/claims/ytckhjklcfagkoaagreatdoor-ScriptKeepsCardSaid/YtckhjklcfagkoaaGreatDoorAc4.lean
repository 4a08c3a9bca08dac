/- Part 4 of a framework of lemmas that the proofs of this seat use: what a function computes, told by plain values. No conditions. -/
import Derived.Test.YtckhjklcfagkoaaGreatDoorAc3
import Derived.Shelf.Strings.BuilderF
import Derived.Lib.FrozenHead2
import Derived.Shelf.Strings.BuilderK
import Derived.Laws.IdiomRangeMap
import Derived.Sort.Row
namespace Go.Ab
open Go.RowKit Go.Shelf Go.Lib Go.Proofs
structure GrownX (w w':World) (v v':Value):Prop where
 by_:w.grownBy w' v.ownBlock
 blk:∀ k,v'.ownBlock=some k→v.ownBlock=some k∨w.heap.size≤k
 bs:∀ k,k<w.heap.size→bsize w' k=bsize w k
theorem bsize_eq {w w':World} {k:Nat} (h:w'.heap[k]? = w.heap[k]?):bsize w' k=bsize w k:=by simp only [bsize,h]
theorem heap_old {w:World} {o:Obj} {k:Nat} (h:k<w.heap.size):(w.drew.alloc o).heap[k]? = w.heap[k]?:=by
 show (w.heap.push o)[k]? = _
 rw [Array.getElem?_push_lt h]
 simp [h]
theorem bsize_row {w:World} {k:Nat} {c:Array Value} {e:TypeId} {fz:Nat × Nat} (h:w.heap[k]? = some (.cells c e fz)):bsize w k=c.size:=by simp [bsize,h]
section
variable {P:Program} (w:World)
theorem run_append_stringX (t u ty e:TypeId) (i:TypeInfo) (ht:P.underlying t=some (.slice e)) (hu:P.underlying u=some .string) (hi:P.info? e=some i) (hz:i.zero=some (.int .u8 0))
  (hsize:i.size=1) (hby:i.bytes=1)
  (v:Value) (n:Nat) (xs:List Value) (hown:w.ownsRowF 0 e 1 v n xs) (s:ByteArray)
  (h63:n+s.size≤maxLen) (hbytes:n+s.size≤140737488355328) :
  ∃ v' w',(Builtin.append_ #[t,u] ty #[v,.string s]).run P w=.ok v' w'∧w'.ownsRowF 0 e 1 v' (n+s.size) (xs++strCells s)∧GrownX w w' v v':=by
 rcases hown.2 with ⟨rfl,rfl⟩ | ⟨g,cap,cur,fz,rfl,hbg,hg,hfz,hnc,hcm,hcs,htake⟩
 ·obtain ⟨v',w',h1,h2,h3,h4⟩:=run_append_own_string (P:=P) w w.heap.size t u ty e i ht hu hi hz hsize hby (.slice none 0 0) 0 xs ⟨hown.1,.inl ⟨rfl,rfl⟩⟩ s h63 hbytes (Nat.le_refl _)
  refine ⟨v',w',h1,World.ownsRowF_of ⟨h2.1,h2.2.imp id fun ⟨g,cap,cur,a,b,r⟩=>⟨g,cap,cur,a,Nat.zero_le _,r⟩⟩,h3,fun k hk=>.inr ?_,fun k hk=>bsize_eq (h3.block k hk (by simp [Value.ownBlock]))⟩
  exact ((World.ownsRowF_of h2).lt k hk).1
 ·have hsmall:n+s.size≤9223372036854775807:=by simp only [maxLen] at h63;omega
  have hxl:xs.length=n:=by simpa using hown.1
  have hlen:(xs++strCells s).length=(n+s.size)*1:=by rw [List.length_append,hxl,strCells_length,Nat.mul_one]
  by_cases hroom:n+s.size≤cap
  ·have hcs':cur.size=cap:=by simpa using hcs
   have hr:=run_append_room_stringF (P:=P) w t u ty e i ht hu hi hsize g n cap cur fz hg (by simpa using hfz) s hroom (by omega)
   have hsz:(cur.toList.take n++strCells s++cur.toList.drop (n+s.size)).toArray.size=cap:=by
    simp only [List.size_toArray,List.length_append,List.length_take,List.length_drop,Array.length_toList,strCells_length]
    omega
   refine ⟨_,_,hr,⟨hlen,.inr ⟨g,cap,_,fz,rfl,hbg,setRow_heap w g cur _ e _ hg,by omega,hroom,hcm,by rw [hsz,Nat.mul_one],?_⟩⟩,⟨rfl,rfl,rfl,by simp,fun k _ hk=>setRow_other w g k _ (fun e=>hk (by simp [Value.ownBlock,e]))⟩,fun k hk=>.inl hk,fun k hk=>?_⟩
   ·have ht':cur.toList.take n=xs:=by simpa using htake
    rw [ht',← hlen]
    exact List.take_left
   ·by_cases hkg:k=g
    ·subst hkg
     rw [bsize_row (setRow_heap w k cur _ e _ hg),bsize_row hg,hsz,hcs']
    ·exact bsize_eq (setRow_other w g k _ hkg)
  ·have holds:∀ j u,xs[j]? = some u→w.cell? ((⟨g,0,none⟩:Addr).add j)=some u:=hown.cells (g:=g) rfl
   have hr:=run_append_grow_string (P:=P) w t u ty e i (.int .u8 0) ht hu hi hz ⟨g,0,none⟩ n cap xs (by rw [hsize];simpa using hxl) holds s (by omega) (by omega) (by rw [hby];exact growslice_fits (by omega) (by omega))
   have hge:=grownCap_ge w (n+s.size) cap e
   have hcm2:grownCap w (n+s.size) cap e≤maxLen:=grownCap_le_maxLen w (n+s.size) cap e h63
   refine ⟨_,_,hr,⟨hlen,.inr ⟨w.heap.size,_,_,(0,0),rfl,Nat.zero_le _,heap_alloc_new w.drew _,Nat.zero_le _,hge,hcm2,?_,?_⟩⟩,⟨rfl,rfl,rfl,by simp,fun k hk _=>heap_old hk⟩,fun k hk=>.inr ?_,fun k hk=>bsize_eq (heap_old hk)⟩
   ·have hz1:(Value.int IntKind.u8 0).cells.size=1:=rfl
    simp only [Array.size_append,List.size_toArray,size_zeroCells,hz1,hxl,strCells_length]
    omega
   ·simp only [Array.toList_append,List.append_assoc]
    rw [← List.append_assoc,← hlen]
    exact List.take_left
   ·simp [Value.ownBlock] at hk;omega
theorem run_append_X (t ty e:TypeId) (i:TypeInfo) (z:Value) (ht:P.underlying t=some (.slice e)) (hi:P.info? e=some i) (hz:i.zero=some z)
  (hsize:i.size=1) (hby:i.bytes=1) (hzs:z.cells.size=1)
  (v:Value) (n:Nat) (xs:List Value) (hown:w.ownsRowF 0 e 1 v n xs)
  (a:Addr) (m c:Nat) (news:List Value) (hl:news.length=m*1) (hnews:∀ j u,news[j]? = some u→w.cell? (a.add j)=some u) (h1:∀ u∈news,u.oneCell'=true)
  (h63:n+m≤maxLen) (hbytes:(n+m)*1≤140737488355328) :
  ∃ v' w',(Builtin.append_ #[t,t] ty #[v,.slice (some a) m c]).run P w=.ok v' w'∧w'.ownsRowF 0 e 1 v' (n+m) (xs++news)∧GrownX w w' v v':=by
 rcases hown.2 with ⟨rfl,rfl⟩ | ⟨g,cap,cur,fz,rfl,hbg,hg,hfz,hnc,hcm,hcs,htake⟩
 ·obtain ⟨v',w',r1,h2,h3,r4⟩:=run_append_own (P:=P) w w.heap.size t ty e i z 1 1 ht hi hz hsize hby hzs (by decide) (.slice none 0 0) 0 xs ⟨hown.1,.inl ⟨rfl,rfl⟩⟩ a m c news hl hnews h1 h63 hbytes (Nat.le_refl _)
  refine ⟨v',w',r1,World.ownsRowF_of ⟨h2.1,h2.2.imp id fun ⟨g,cap,cur,a,b,r⟩=>⟨g,cap,cur,a,Nat.zero_le _,r⟩⟩,h3,fun k hk=>.inr ?_,fun k hk=>bsize_eq (h3.block k hk (by simp [Value.ownBlock]))⟩
  exact ((World.ownsRowF_of h2).lt k hk).1
 ·have hsmall:n+m≤9223372036854775807:=by simp only [maxLen] at h63;omega
  have hlen:(xs++news).length=(n+m)*1:=by rw [List.length_append,hown.1,hl,Nat.add_mul]
  have hcs':cur.size=cap:=by simpa using hcs
  have hnl:news.length=m:=by omega
  by_cases hroom:n+m≤cap
  ·have hr:=run_append_roomF (P:=P) w t ty e i ht hi g n cap cur fz hg (by rw [hsize];exact hfz) a m c news (by rw [hsize];exact hl) hnews h1 hroom (by rw [hsize];omega)
   rw [hsize] at hr
   have hsz:(cur.toList.take (n*1)++news++cur.toList.drop (n*1+news.length)).toArray.size=cap:=by
    simp only [List.size_toArray,List.length_append,List.length_take,List.length_drop,Array.length_toList]
    omega
   refine ⟨_,_,hr,⟨hlen,.inr ⟨g,cap,_,fz,rfl,hbg,setRow_heap w g cur _ e _ hg,by omega,hroom,hcm,by rw [hsz,Nat.mul_one],?_⟩⟩,⟨rfl,rfl,rfl,by simp,fun k _ hk=>setRow_other w g k _ (fun e=>hk (by simp [Value.ownBlock,e]))⟩,fun k hk=>.inl hk,fun k hk=>?_⟩
   ·rw [htake,← hlen]
    exact List.take_left
   ·by_cases hkg:k=g
    ·subst hkg
     rw [bsize_row (setRow_heap w k cur _ e _ hg),bsize_row hg,hsz,hcs']
    ·exact bsize_eq (setRow_other w g k _ hkg)
  ·have holds:∀ j u,xs[j]? = some u→w.cell? ((⟨g,0,none⟩:Addr).add j)=some u:=hown.cells (g:=g) rfl
   have hr:=run_append_grow (P:=P) w t ty e i z ht hi hz ⟨g,0,none⟩ n cap xs (by rw [hsize];exact hown.1) holds a m c news (by rw [hsize];exact hl) hnews (by omega) (by omega) (growslice_fits (by omega) (by rw [hby];exact hbytes))
   have hge:=grownCap_ge w (n+m) cap e
   have hcm2:grownCap w (n+m) cap e≤maxLen:=grownCap_le_maxLen w (n+m) cap e h63
   refine ⟨_,_,hr,⟨hlen,.inr ⟨w.heap.size,_,_,(0,0),rfl,Nat.zero_le _,heap_alloc_new w.drew _,Nat.zero_le _,hge,hcm2,?_,?_⟩⟩,⟨rfl,rfl,rfl,by simp,fun k hk _=>heap_old hk⟩,fun k hk=>.inr ?_,fun k hk=>bsize_eq (heap_old hk)⟩
   ·simp only [Array.size_append,List.size_toArray,size_zeroCells,hzs,hown.1,hl,← Nat.add_mul]
    omega
   ·simp only [Array.toList_append,List.append_assoc]
    rw [← List.append_assoc,← hlen]
    exact List.take_left
   ·simp [Value.ownBlock] at hk;omega
theorem wpList_append_stringX {ops:Array Oper} {rest:List Oper} {o:Oper} {a:Act} {Q:Exit→Act→World→Prop} (hgd:o.guard=none) (sl x:Operand) (t u:TypeId)
  (ho:o.op=.call { callee:=.builtin .append,args:=#[sl,x],argTypes:=#[t,u] })
  (e:TypeId) (i:TypeInfo) (ht:P.underlying t=some (.slice e)) (hu:P.underlying u=some .string) (hi:P.info? e=some i) (hz:i.zero=some (.int .u8 0))
  (hsize:i.size=1) (hby:i.bytes=1)
  (v:Value) (n:Nat) (xs:List Value) (hs:a.eval sl=v) (hown:w.ownsRowF 0 e 1 v n xs) (s:ByteArray) (hx:a.eval x=.string s)
  (h63:n+s.size≤maxLen) (hbytes:n+s.size≤140737488355328)
  (h:∀ v' w',w'.ownsRowF 0 e 1 v' (n+s.size) (xs++strCells s)→GrownX w w' v v'→wpList P ops Q rest (a.put o.dst v') w'):wpList P ops Q (o::rest) a w:=by
 refine wpList_plain hgd fun K hK=>?_
 obtain ⟨v',w',hr,h2,h3⟩:=run_append_stringX (P:=P) w t u o.type e i ht hu hi hz hsize hby v n xs hown s h63 hbytes
 unfold Oper.wp execOp
 simp only [ho,resolve,invoke,builtin,Sem.run_bind,Sem.run_pure,Result.andThen_ok,List.map_toArray,List.map_cons,List.map_nil,hs,hx,hr]
 exact hK _ _ (h v' w' h2 h3)
theorem wpList_append_X {ops:Array Oper} {rest:List Oper} {o:Oper} {a:Act} {Q:Exit→Act→World→Prop} (hgd:o.guard=none) (s x:Operand) (t:TypeId)
  (ho:o.op=.call { callee:=.builtin .append,args:=#[s,x],argTypes:=#[t,t] })
  (e:TypeId) (i:TypeInfo) (z:Value) (ht:P.underlying t=some (.slice e)) (hi:P.info? e=some i) (hz:i.zero=some z)
  (hsize:i.size=1) (hby:i.bytes=1) (hzs:z.cells.size=1)
  (v:Value) (n:Nat) (xs:List Value) (hs:a.eval s=v) (hown:w.ownsRowF 0 e 1 v n xs)
  (ad:Addr) (m c:Nat) (news:List Value) (hx:a.eval x=.slice (some ad) m c) (hl:news.length=m*1) (hnews:∀ j u,news[j]? = some u→w.cell? (ad.add j)=some u) (h1:∀ u∈news,u.oneCell'=true)
  (h63:n+m≤maxLen) (hbytes:(n+m)*1≤140737488355328)
  (h:∀ v' w',w'.ownsRowF 0 e 1 v' (n+m) (xs++news)→GrownX w w' v v'→wpList P ops Q rest (a.put o.dst v') w'):wpList P ops Q (o::rest) a w:=by
 refine wpList_plain hgd fun K hK=>?_
 obtain ⟨v',w',hr,h2,h3⟩:=run_append_X (P:=P) w t o.type e i z ht hi hz hsize hby hzs v n xs hown ad m c news hl hnews h1 h63 hbytes
 unfold Oper.wp execOp
 simp only [ho,resolve,invoke,builtin,Sem.run_bind,Sem.run_pure,Result.andThen_ok,List.map_toArray,List.map_cons,List.map_nil,hs,hx,hr]
 exact hK _ _ (h v' w' h2 h3)
end
structure BAt (T e:TypeId) (b:Nat) (p v:Value) (bs:List Value) (w:World):Prop where
 blk:w.heap[b]? = some (.cells #[p,v] T (0,0))
 own:w.ownsRowF 0 e 1 v bs.length bs
 ne:v.ownBlock≠some b
structure BFr (b:Nat) (v v':Value) (w w':World):Prop where
 os:w'.os=w.os
 tape:w'.tape=w.tape
 output:w'.output=w.output
 size:w.heap.size≤w'.heap.size
 other:∀ k,k<w.heap.size→k≠b→v.ownBlock≠some k→w'.heap[k]? = w.heap[k]?
 row:∀ k,v'.ownBlock=some k→v.ownBlock=some k∨w.heap.size≤k
 bs:∀ k,k<w.heap.size→bsize w' k=bsize w k
theorem BFr.trans {b:Nat} {v v1 v2:Value} {w w1 w2:World} (h:BFr b v v1 w w1) (hs:w1.heap.size=w.heap.size) (hv:v1=v) (k:BFr b v1 v2 w1 w2):BFr b v v2 w w2:=by
 subst hv
 exact ⟨k.os.trans h.os,k.tape.trans h.tape,k.output.trans h.output,by have:=k.size;omega,fun q hq hb hr=>(k.other q (by omega) hb hr).trans (h.other q hq hb hr),fun q hq=>(k.row q hq).imp id fun h=>by omega,fun q hq=>(k.bs q (by omega)).trans (h.bs q hq)⟩
theorem b_store {T e:TypeId} {b:Nat} {p v v':Value} {bs bs':List Value} {w w2:World} (h:BAt T e b p v bs w) (hown:w2.ownsRowF 0 e 1 v' bs'.length bs') (hg:GrownX w w2 v v') :
  BAt T e b p v' bs' (w2.setCell ⟨b,1,none⟩ v')∧BFr b v v' w (w2.setCell ⟨b,1,none⟩ v'):=by
 have hlt:b<w.heap.size:=by
  rcases Nat.lt_or_ge b w.heap.size with h' | h'
  ·exact h'
  ·have:=h.blk;simp [Array.getElem?_eq_none h'] at this
 have hb2:w2.heap[b]? = some (.cells #[p,v] T (0,0)):=by rw [hg.by_.block b hlt (fun e=>h.ne e.symm)];exact h.blk
 have hne':v'.ownBlock≠some b:=fun hv=>by
  rcases hg.blk b hv with h1 | h1
  ·exact h.ne h1
  ·omega
 have hb3:(w2.setCell ⟨b,1,none⟩ v').heap[b]? = some (.cells #[p,v'] T (0,0)):=by simp [World.setCell,Array.getElem?_modify,hb2]
 have hoth:∀ k,k≠b→(w2.setCell ⟨b,1,none⟩ v').heap[k]? = w2.heap[k]?:=fun k hk=>by
  simp only [World.setCell,Array.getElem?_modify]
  rw [if_neg (fun e=>hk e.symm)]
 refine ⟨⟨hb3,⟨hown.1,?_⟩,hne'⟩,⟨hg.by_.os,hg.by_.tape,hg.by_.output,by have:=hg.by_.size;simpa [World.setCell] using this,fun k hk hkb hkv=>(hoth k hkb).trans (hg.by_.block k hk (fun e=>hkv e.symm)),hg.blk,fun k hk=>?_⟩⟩
 ·rcases hown.2 with hn | ⟨g,cap,cur,fz,hv,h0,hgg,r⟩
  ·exact .inl hn
  ·refine .inr ⟨g,cap,cur,fz,hv,h0,?_,r⟩
   rw [hoth g (fun e=>hne' (by rw [hv,e];rfl))];exact hgg
 ·by_cases hkb:k=b
  ·subst hkb;rw [bsize_row hb3,bsize_row h.blk];rfl
  ·exact (bsize_eq (hoth k hkb)).trans (hg.bs k hk)
end Go.Ab
namespace Go.Ab
open Go.RowKit Go.Shelf Go.Lib Go.Proofs
section
variable {P:Program} {ρ:Ren}
set_option maxHeartbeats 1000000 in
set_option maxRecDepth 100000 in
theorem b_string (L:Lays.n169 P ρ) (X:Builder.Extra P ρ) (b:Nat) (p v:Value) (l:List UInt8) (w:World) (h:BAt (ρ.t 72) (ρ.t 5) b p v (Lib.byteCells l) w) (h0:l≠[]) :
  Calls P (ρ.f 169) #[.pointer (some ⟨b,0,none⟩)] w fun e w'=>e=.returned (.string ⟨l.toArray⟩)∧BAt (ρ.t 72) (ρ.t 5) b p v (Lib.byteCells l) w'∧BFr b v v w w':=by
 obtain ⟨hbk,hown,hne⟩:=h
 have hl0:l.length≠0:=by simpa using h0
 rw [Lib.byteCells_length] at hown
 obtain ⟨g,cap,cur,fz,rfl,hbg,hg,hfz,hnc,hcm,hcs,htake⟩:∃ g cap cur fz,v=.slice (some ⟨g,0,none⟩) l.length cap∧0≤g∧w.heap[g]? = some (.cells cur (ρ.t 5) fz)∧fz.2≤l.length*1∧l.length≤cap∧cap≤maxLen∧cur.size=cap*1∧cur.toList.take (l.length*1)=Lib.byteCells l:=by
  rcases hown.2 with ⟨_,hz⟩ | ⟨g,cap,cur,fz,hv,r⟩
  ·exact absurd hz hl0
  ·exact ⟨g,cap,cur,fz,hv,r⟩
 have c1:w.drew.cell? ⟨b,1,none⟩=some (.slice (some ⟨g,0,none⟩) l.length cap):=by
  have:w.drew.heap[b]? = some (.cells #[p,.slice (some ⟨g,0,none⟩) l.length cap] (ρ.t 72) (0,0)):=hbk
  rw [Lib.cell_of_heap this];rfl
 have hSD:(Builtin.unsafeSliceData_ #[(ρ.t 37)] (ρ.t 127) #[.slice (some ⟨g,0,none⟩) l.length cap]).run P w.drew=.ok (.pointer (some ⟨g,0,none⟩)) w.drew :=
  Lib.run_unsafeSliceData_row _ _ _ _ _ _ (by omega)
 have hUS:(Builtin.unsafeString_ #[(ρ.t 127),(ρ.t 3)] (ρ.t 9) #[.pointer (some ⟨g,0,none⟩),.int .i64 l.length]).run P w.drew=.ok (.string ⟨l.toArray⟩) (w.drew.freeze ⟨g,0,none⟩ l.length):=by
  refine Lib.run_unsafeString_row w.drew (ρ.t 127) (ρ.t 3) (ρ.t 9) (ρ.t 5) L.t127 X.cellsByte g cur.size (by have hg':w.drew.heap[g]? = some (.cells cur (ρ.t 5) fz):=hg;simp [World.shape?,hg']) l h0 (by omega) (by unfold maxLen at hcm;omega) ?_
  intro j x hx
  have:=hown.cells (g:=g) rfl j (.int .u8 x.toNat) (by simp [Lib.byteCells,hx])
  exact this
 have hgb:g≠b:=fun e=>hne (by rw [e];rfl)
 have hoth:∀ k,k≠g→(w.drew.freeze ⟨g,0,none⟩ l.length).heap[k]? = w.heap[k]?:=fun k hk=>by
  simp only [World.freeze,if_neg hl0,Array.getElem?_modify]
  rw [if_neg (fun e=>hk e.symm)];rfl
 have hgg:∃ fz',(w.drew.freeze ⟨g,0,none⟩ l.length).heap[g]? = some (.cells cur (ρ.t 5) fz')∧fz'.2≤l.length:=by
  have hg':w.drew.heap[g]? = some (.cells cur (ρ.t 5) fz):=hg
  refine ⟨if fz.1 == fz.2 then (0,0+l.length) else (min fz.1 0,max fz.2 (0+l.length)),?_,?_⟩
  ·simp only [World.freeze,if_neg hl0,Array.getElem?_modify,if_pos,hg',Option.map_some]
  ·split
   ·simp
   ·simp only [Nat.zero_add];omega
 obtain ⟨fz',hg2,hf2⟩:=hgg
 have hkeep:BAt (ρ.t 72) (ρ.t 5) b p (.slice (some ⟨g,0,none⟩) l.length cap) (Lib.byteCells l) (w.drew.freeze ⟨g,0,none⟩ l.length) :=
  ⟨(hoth b (Ne.symm hgb)).trans hbk,by rw [Lib.byteCells_length];exact ⟨hown.1,.inr ⟨g,cap,cur,fz',rfl,hbg,hg2,by omega,hnc,hcm,hcs,htake⟩⟩,hne⟩
 have hfr:BFr b (.slice (some ⟨g,0,none⟩) l.length cap) (.slice (some ⟨g,0,none⟩) l.length cap) w (w.drew.freeze ⟨g,0,none⟩ l.length):=by
  refine ⟨?_,?_,?_,?_,fun k _ _ hk=>hoth k (fun e=>hk (by rw [e];rfl)),fun k hk=>.inl hk,fun k hk=>?_⟩
  ·simp only [World.freeze,if_neg hl0];rfl
  ·simp only [World.freeze,if_neg hl0];rfl
  ·simp only [World.freeze,if_neg hl0];rfl
  ·simp only [World.freeze,if_neg hl0,Array.size_modify];exact Nat.le_refl _
  ·by_cases hkg:k=g
   ·subst hkg;rw [bsize_row hg2,bsize_row hg]
   ·exact bsize_eq (hoth k hkg)
 clear hoth hg2
 have mixed:=L.mixed
 have t72:=L.t72;have a72:=L.a72;have z72:=L.z72;have v72:=L.v72;have u72:=run_underlying L.t72
 have t70:=L.t70;have a70:=L.a70;have z70:=L.z70;have v70:=L.v70;have u70:=run_underlying L.t70
 have t37:=L.t37;have a37:=L.a37;have z37:=L.z37;have v37:=L.v37;have u37:=run_underlying L.t37
 have t127:=L.t127;have a127:=L.a127;have z127:=L.z127;have v127:=L.v127;have u127:=run_underlying L.t127
 have t3:=L.t3;have a3:=L.a3;have z3:=L.z3;have v3:=L.v3;have u3:=run_underlying L.t3
 have t9:=L.t9;have a9:=L.a9;have z9:=L.z9;have v9:=L.v9;have u9:=run_underlying L.t9
 have t5:=X.t5;have a5:=X.a5;have z5:=X.z5;have v5:=X.v5;have u5:=run_underlying X.t5
 go_enter L.f169,Body.n169_ntmps ρ
 go_wp2
 go_region_o
 all_goals (go_wp2;go_ret;exact ⟨rfl,hkeep,hfr⟩)
end
section
theorem bcells_eq (l:List UInt8):Lib.byteCells l=l.map fun x=>Value.int .u8 (x.toNat:Int):=rfl
section
variable [Glob]
theorem bld_start {Z:Nat→Prop} {lb:Lb} {w:World} {T e:TypeId} {bs:List UInt8} (hne:bs≠[]) (o:Own Z lb ([Ob.bld T (.sl 1 1 0 bs.length),.byt e bs].map some) w) :
  ∃ b g p v,lb=[some (some b),some (some g)]∧¬ Z b∧¬ Z g∧b<w.heap.size∧g<w.heap.size∧(p=.pointer none∨p=.pointer (some ⟨b,0,none⟩))∧v.ownBlock=some g∧BAt T e b p v (Lib.byteCells bs) w:=by
 obtain ⟨x,h1,h2⟩:=o.obj 0 _ rfl
 obtain ⟨y,k1,k2⟩:=o.obj 1 _ rfl
 cases x with
 | none=>exact h2.elim
 | some b =>
 cases y with
 | none=>exact absurd k2 hne
 | some g =>
 obtain ⟨hz,hlt,p,v,hb,hp,hv,hcap⟩:=h2
 obtain ⟨kz,klt,cur,fz,hg,hfz,htake⟩:=k2
 have hlen:=o.len
 have hlb:lb=[some (some b),some (some g)]:=by
  match lb,hlen,h1,k1 with
  | [x,y],_,h1,k1=>simp at h1 k1;rw [h1,k1]
 have hne:b≠g:=fun e=>by
  have:=o.inj 0 1 _ _ b rfl rfl trivial trivial h1 (by rw [e];exact k1)
  omega
 simp only [ARep] at hv
 rcases hv with ⟨_,_,h3,_⟩ | ⟨g',cap,h3,rfl,h5,h6⟩
 ·rw [k1] at h3;simp at h3
 ·rw [k1] at h3
  obtain rfl:g=g':=by simpa using h3
  obtain ⟨c1,c2,c3⟩:=hcap _ _ _ rfl
  have hbs:bsize w g=cur.size:=bsize_row hg
  simp only at c3
  refine ⟨b,g,p,_,hlb,hz,kz,hlt,klt,hp,rfl,hb,⟨by simp,.inr ⟨g,cap,cur,fz,by simp [Lib.byteCells_length],Nat.zero_le _,hg,by rw [Lib.byteCells_length];omega,by rw [Lib.byteCells_length];exact h5,by simpa [maxLen] using c1,by omega,?_⟩⟩,fun e=>hne (by simp [Value.ownBlock] at e;exact e.symm)⟩
  rw [Lib.byteCells_length,Nat.mul_one]
  exact htake
theorem bld_startE {Z:Nat→Prop} {lb:Lb} {w:World} {T e:TypeId} {bs:List UInt8} (o:Own Z lb ([Ob.bld T (.sl 1 1 0 bs.length),.byt e bs].map some) w) :
  ∃ b gg p v,lb=[some (some b),some gg]∧¬ Z b∧(∀ g,gg=some g→¬ Z g)∧b<w.heap.size∧(p=.pointer none∨p=.pointer (some ⟨b,0,none⟩))∧v.ownBlock=gg∧BAt T e b p v (Lib.byteCells bs) w:=by
 by_cases hne:bs=[]
 ·obtain ⟨x,h1,h2⟩:=o.obj 0 _ rfl
  obtain ⟨y,k1,k2⟩:=o.obj 1 _ rfl
  cases y with
  | some g =>
   cases x with
   | none=>exact h2.elim
   | some b =>
   obtain ⟨hz,hlt,p,v,hb,hp,hv,hcap⟩:=h2
   obtain ⟨kz,klt,cur,fz,hg,hfz,htake⟩:=k2
   have hlen:=o.len
   have hlb:lb=[some (some b),some (some g)]:=by
    match lb,hlen,h1,k1 with
    | [x,y],_,h1,k1=>simp at h1 k1;rw [h1,k1]
   have hne:b≠g:=fun e=>by
    have:=o.inj 0 1 _ _ b rfl rfl trivial trivial h1 (by rw [e];exact k1)
    omega
   simp only [ARep] at hv
   rcases hv with ⟨_,_,h3,_⟩ | ⟨g',cap,h3,rfl,h5,h6⟩
   ·rw [k1] at h3;simp at h3
   ·rw [k1] at h3
    obtain rfl:g=g':=by simpa using h3
    obtain ⟨c1,c2,c3⟩:=hcap _ _ _ rfl
    have hbs:bsize w g=cur.size:=bsize_row hg
    simp only at c3
    refine ⟨b,some g,p,_,hlb,hz,fun g' e=>by cases e;exact kz,hlt,hp,rfl,hb,⟨by simp,.inr ⟨g,cap,cur,fz,by simp [Lib.byteCells_length],Nat.zero_le _,hg,by rw [Lib.byteCells_length];omega,by rw [Lib.byteCells_length];exact h5,by simpa [maxLen] using c1,by omega,?_⟩⟩,fun e=>hne (by simp [Value.ownBlock] at e;exact e.symm)⟩
    rw [Lib.byteCells_length,Nat.mul_one]
    exact htake
  | none =>
   cases x with
   | none=>exact h2.elim
   | some b =>
   obtain ⟨hz,hlt,p,v,hb,hp,hv,hcap⟩:=h2
   have hlen:=o.len
   have hlb:lb=[some (some b),some none]:=by
    match lb,hlen,h1,k1 with
    | [x,y],_,h1,k1=>simp at h1 k1;rw [h1,k1]
   simp only [ARep] at hv
   rcases hv with ⟨_,_,_,rfl⟩ | ⟨g',cap,h3,_⟩
   ·subst hne
    exact ⟨b,none,p,_,hlb,hz,(fun g' e=>by cases e),hlt,hp,rfl,hb,⟨rfl,.inl ⟨rfl,rfl⟩⟩,by simp [Value.ownBlock]⟩
   ·rw [k1] at h3;simp at h3
 ·obtain ⟨b,g,p,v,h1,h2,h3,h4,h5,h6,h7,h8⟩:=bld_start hne o
  exact ⟨b,some g,p,v,h1,h2,fun g' e=>by cases e;exact h3,h4,h6,h7,h8⟩
theorem bld_fresh {Z:Nat→Prop} {lb:Lb} {w:World} {T e:TypeId} (o:Own Z lb ([Ob.bld T (.p (.v (.slice none 0 0)))].map some) w) :
  ∃ b p,lb=[some (some b)]∧¬ Z b∧b<w.heap.size∧(p=.pointer none∨p=.pointer (some ⟨b,0,none⟩))∧BAt T e b p (.slice none 0 0) (Lib.byteCells []) w:=by
 obtain ⟨x,h1,h2⟩:=o.obj 0 _ rfl
 cases x with
 | none=>exact h2.elim
 | some b =>
 obtain ⟨hz,hlt,p,v,hb,hp,hv,hcap⟩:=h2
 have hlen:=o.len
 have hlb:lb=[some (some b)]:=by
  match lb,hlen,h1 with
  | [x],_,h1=>simp at h1;rw [h1]
 simp only [ARep,Rep] at hv
 obtain ⟨rfl,_⟩:=hv
 exact ⟨b,p,hlb,hz,hlt,hp,hb,⟨rfl,.inl ⟨rfl,rfl⟩⟩,by simp [Value.ownBlock]⟩
theorem bld_end [Quick] {Z:Nat→Prop} {lb:Lb} {w w':World} {T e:TypeId} {b:Nat} {p v v':Value} {bs:List UInt8} {D:List Ob} {L:List (Option Ob)} (hD:∀ o,o∈D→o=.dead) (hl:lb.length=D.length+1) (h0:lb[0]? = some (some (some b)))
  (hz:¬ Z b) (hlt:b<w.heap.size) (hvg:∀ g,v.ownBlock=some g→¬ Z g∧∃ i:Nat,lb[i]? = some (some (some g))) (o:Own Z lb L w) (hp:p=.pointer none∨p=.pointer (some ⟨b,0,none⟩)) (A:BAt T e b p v' (Lib.byteCells bs) w') (F:BFr b v v' w w') (hne:bs≠[]) (hnn:∀ x,x∈lb→x≠none) :
  ∃ lb',Own Z lb' ((.bld T (.sl (D.length+1) 1 0 bs.length)::(D++[.byt e bs])).map some) w'∧w'.os=w.os∧w'.tape=w.tape∧OutD w w'∧w.heap.size≤w'.heap.size∧Keep Z w w'∧(∀ b,Z b→Z b)∧(∀ b,Z b→b<w.heap.size→Z b∨∃ i:Nat,lb[i]? = some (some (some b)))∧BsLe w w' ∧
  (∀ b,b<w.heap.size→(∀ i:Nat,lb[i]?≠some (some (some b)))→w'.heap[b]? = w.heap[b]?)∧(∀ (i:Nat) b,lb'[i]? = some (some (some b))→(∃ j:Nat,lb[j]? = some (some (some b)))∨w.heap.size≤b) ∧
  (∀ (i:Nat) x,i<D.length+1→lb[i]? = some (some x)→lb'[i]? = some (some x)):=by
 obtain ⟨hbk,hown,hnb⟩:=A
 have hl0:bs.length≠0:=by simpa using hne
 rw [Lib.byteCells_length] at hown
 obtain ⟨g,cap,cur,fz,rfl,hbg,hg,hfz,hnc,hcm,hcs,htake⟩:∃ g cap cur fz,v'=.slice (some ⟨g,0,none⟩) bs.length cap∧0≤g∧w'.heap[g]? = some (.cells cur e fz)∧fz.2≤bs.length*1∧bs.length≤cap∧cap≤maxLen∧cur.size=cap*1∧cur.toList.take (bs.length*1)=Lib.byteCells bs:=by
  rcases hown.2 with ⟨_,hz⟩ | ⟨g,cap,cur,fz,hv,r⟩
  ·exact absurd hz hl0
  ·exact ⟨g,cap,cur,fz,hv,r⟩
 have hgb:g≠b:=fun e=>hnb (by rw [e];rfl)
 have hzg:¬ Z g:=by
  rcases F.row g rfl with h | h
  ·exact (hvg g h).1
  ·exact fun hz=>by have:=o.zlt.lt g hz;omega
 have hglt:g<w'.heap.size:=by
  rcases Nat.lt_or_ge g w'.heap.size with h | h
  ·exact h
  ·simp [Array.getElem?_eq_none h] at hg
 have hbs:bsize w' g=cur.size:=bsize_row hg
 have hkeep:Keep Z w w':=fun k hk=>F.other k (o.zlt.lt k hk) (fun e=>hz (e ▸ hk)) (fun e=>(hvg k e).1 hk)
 have hg1:(lb++[some (some g)])[D.length+1]? = some (some (some g)):=by rw [List.getElem?_append_right (by omega),hl];simp
 have hold:∀ (i:Nat) x,i<D.length+1→lb[i]? = some x→(lb++[some (some g)])[i]? = some x:=fun i x hi h=>by rw [List.getElem?_append_left (by omega)];exact h
 have hb1:=hold 0 _ (by omega) h0
 have hget:∀ (i:Nat) ob,((.bld T (.sl (D.length+1) 1 0 bs.length)::(D++[.byt e bs])).map some)[i]? = some (some ob)→(i=0∧ob=.bld T (.sl (D.length+1) 1 0 bs.length))∨(i<D.length+1∧ob=.dead)∨(i=D.length+1∧ob=.byt e bs):=fun i ob hi=>by
  cases i with
  | zero=>simp at hi;exact .inl ⟨rfl,hi.symm⟩
  | succ i =>
   rw [List.map_cons,List.getElem?_cons_succ,List.getElem?_map] at hi
   rcases Nat.lt_or_ge i D.length with h | h
   ·rw [List.getElem?_append_left h] at hi
    simp at hi
    exact .inr (.inl ⟨by omega,hD _ (List.mem_of_getElem? hi)⟩)
   ·rw [List.getElem?_append_right h] at hi
    rcases Nat.eq_zero_or_pos (i - D.length) with h' | h'
    ·rw [h'] at hi;simp at hi;exact .inr (.inr ⟨by omega,hi.symm⟩)
    ·rw [List.getElem?_eq_none (by simp;omega)] at hi;simp at hi
 refine ⟨lb++[some (some g)],⟨by simp [hl],?_,?_,?_,⟨fun k hk=>Nat.lt_of_lt_of_le (o.zlt.lt k hk) F.size,Glob.mono (fun _ h=>h) hkeep o.zlt.gl⟩⟩,F.os,F.tape,OutD.quick F.output,F.size,hkeep,fun _ h=>h,fun _ h _=>.inl h,fun k hk=>F.bs k hk,fun k hk hn=>F.other k hk (fun e=>hn 0 (by rw [e];exact h0)) (fun e=>?_),fun i k hi=>?_,fun i x hi h=>hold i _ hi h⟩
 ·intro i ob hi
  rcases hget i ob hi with ⟨rfl,rfl⟩ | ⟨h1,rfl⟩ | ⟨rfl,rfl⟩
  ·refine ⟨some b,hb1,hz,Nat.lt_of_lt_of_le hlt F.size,p,_,hbk,hp,?_,?_⟩
   ·simp only [ARep]
    exact .inr ⟨g,cap,hg1,by simp,hnc,by omega⟩
   ·intro a n c hv
    simp only [Value.slice.injEq,Option.some.injEq] at hv
    obtain ⟨rfl,rfl,rfl⟩:=hv
    exact ⟨by simpa [maxLen] using hcm,hglt,by simp only;omega⟩
  ·rcases Nat.lt_or_ge i lb.length with hi' | hi'
   ·have h2:lb[i]? = some lb[i]:=List.getElem?_eq_getElem hi'
    cases hx:lb[i] with
    | some x=>exact ⟨x,hold i _ h1 (by rw [h2,hx]),trivial⟩
    | none=>exact absurd hx (hnn _ (List.getElem_mem hi'))
   ·omega
  ·exact ⟨some g,hg1,hzg,hglt,cur,fz,hg,by omega,by rw [← bcells_eq,← htake,Nat.mul_one]⟩
 ·intro i hi
  rcases Nat.lt_or_ge i (((.bld T (.sl (D.length+1) 1 0 bs.length)::(D++[.byt e bs])).map some).length) with h | h
  ·rw [List.getElem?_eq_getElem h,List.getElem_map] at hi;simp at hi
  ·rw [List.getElem?_eq_none h] at hi;simp at hi
 ·intro i j o1 o2 k hi hj l1 l2 e1 e2
  rcases hget i o1 hi with ⟨rfl,rfl⟩ | ⟨_,rfl⟩ | ⟨rfl,rfl⟩
  ·rcases hget j o2 hj with ⟨rfl,rfl⟩ | ⟨_,rfl⟩ | ⟨rfl,rfl⟩
   ·rfl
   ·exact l2.elim
   ·rw [hb1] at e1;rw [hg1] at e2;simp at e1 e2;omega
  ·exact l1.elim
  ·rcases hget j o2 hj with ⟨rfl,rfl⟩ | ⟨_,rfl⟩ | ⟨rfl,rfl⟩
   ·rw [hb1] at e2;rw [hg1] at e1;simp at e1 e2;omega
   ·exact l2.elim
   ·rfl
 ·obtain ⟨_,i,hi⟩:=hvg k e
  exact hn i hi
 ·rcases Nat.lt_or_ge i lb.length with h | h
  ·rw [List.getElem?_append_left h] at hi;exact .inl ⟨i,hi⟩
  ·rw [List.getElem?_append_right h] at hi
   rcases Nat.eq_zero_or_pos (i - lb.length) with h' | h'
   ·rw [h'] at hi;simp at hi;subst hi
    rcases F.row g rfl with h2 | h2
    ·exact .inl (hvg g h2).2
    ·exact .inr h2
   ·rw [List.getElem?_eq_none (by simp;omega)] at hi;simp at hi
end
variable {P:Program}
theorem str_bytes (s:ByteArray):Lib.strCells s=Lib.byteCells s.data.toList:=rfl
theorem bcells_app (a b:List UInt8):Lib.byteCells a++Lib.byteCells b=Lib.byteCells (a++b):=by simp [Lib.byteCells]
section
variable [Glob]
theorem ac_writeStringE [Quick] {f:FuncId} {T e:TypeId} (hc:Callable P f) (hW:∀ (b:Nat) (p v:Value) (bs:List Value) (s:ByteArray) (w:World),(p=.pointer none∨p=.pointer (some ⟨b,0,none⟩))→BAt T e b p v bs w→bs.length+s.size≤140737488355328→Calls P f #[.pointer (some ⟨b,0,none⟩),.string s] w fun x w'=>x=.returned (.tuple #[.int .i64 s.size,.nilIface])∧∃ v',BAt T e b (.pointer (some ⟨b,0,none⟩)) v' (bs++Lib.strCells s) w'∧BFr b v v' w w') (bs:List UInt8) (s:ByteArray) (h0:bs.length+s.size≠0) (hlen:bs.length+s.size≤140737488355328) :
  ACalls P f [.loc 0 0,.p (.v (.string s))] [.bld T (.sl 1 1 0 bs.length),.byt e bs] (.p (.tup [.v (.int .i64 s.size),.v .nilIface])) [.bld T (.sl 2 1 0 (bs++s.data.toList).length),.dead,.byt e (bs++s.data.toList)]:=by
 refine ⟨hc,by simp,fun Z lb w vals o hv=>?_⟩
 obtain ⟨b,gg,p,v,rfl,hz,hzg,hlt,hp,hvg,hB⟩:=bld_startE o
 simp only [AReps,ARep,Rep] at hv
 obtain ⟨_,_,rfl,⟨b',hb',rfl⟩,_,_,rfl,⟨rfl,_⟩,rfl⟩:=hv
 obtain rfl:b=b':=by simpa using hb'
 refine (hW b p _ (Lib.byteCells bs) s w hp hB (by simpa [Lib.byteCells] using hlen)).mono ?_
 rintro e' w' ⟨rfl,v',hA,hF⟩
 rw [str_bytes,bcells_app] at hA
 have hd:bs++s.data.toList≠[]:=fun e=>h0 (by
  have h1:(bs++s.data.toList).length=0:=by rw [e];rfl
  rw [List.length_append,Array.length_toList] at h1
  exact h1)
 obtain ⟨lb',o',r1,r2,r3,r4,r5,r6,r7,r8,r9,r10,r11⟩:=bld_end (D:=[.dead]) (by simp) (by simp) (by rfl) hz hlt (fun k hk=>by rw [hvg] at hk;subst hk;exact ⟨hzg k rfl,1,rfl⟩) o (.inr rfl) hA hF hd (by simp)
 exact ⟨_,Z,lb',rfl,o',by simp only [ARep,Rep,Reps];exact ⟨_,⟨_,_,rfl,⟨rfl,rfl⟩,_,_,rfl,⟨rfl,rfl⟩,rfl⟩,rfl⟩,r1,r2,r3,r4,r5,r6,r7,r8,r9,r10,fun i x hi h=>r11 i x (by simpa using hi) h⟩
theorem ac_writeByte [Quick] {f:FuncId} {T e:TypeId} (hc:Callable P f) (hW:∀ (b:Nat) (p v:Value) (bs:List Value) (c:Int) (w:World),(p=.pointer none∨p=.pointer (some ⟨b,0,none⟩))→BAt T e b p v bs w→bs.length+1≤140737488355328→Calls P f #[.pointer (some ⟨b,0,none⟩),.int .u8 c] w fun x w'=>x=.returned .nilIface∧∃ v',BAt T e b (.pointer (some ⟨b,0,none⟩)) v' (bs++[.int .u8 c]) w'∧BFr b v v' w w') (bs:List UInt8) (c:Int) (hc0:0≤c∧c≤255) (h0:bs.length≠0) (hlen:bs.length+1≤140737488355328) :
  ACalls P f [.loc 0 0,.p (.v (.int .u8 c))] [.bld T (.sl 1 1 0 bs.length),.byt e bs] (.p (.v .nilIface)) [.bld T (.sl 2 1 0 (bs++[UInt8.ofNat c.toNat]).length),.dead,.byt e (bs++[UInt8.ofNat c.toNat])]:=by
 refine ⟨hc,by simp,fun Z lb w vals o hv=>?_⟩
 obtain ⟨b,g,p,v,rfl,hz,hzg,hlt,hgl,hp,hvg,hB⟩:=bld_start (fun e=>h0 (by rw [e];rfl)) o
 simp only [AReps,ARep,Rep] at hv
 obtain ⟨_,_,rfl,⟨b',hb',rfl⟩,_,_,rfl,⟨rfl,_⟩,rfl⟩:=hv
 obtain rfl:b=b':=by simpa using hb'
 refine (hW b p _ (Lib.byteCells bs) c w hp hB (by simpa [Lib.byteCells] using hlen)).mono ?_
 rintro e' w' ⟨rfl,v',hA,hF⟩
 have e1:[Value.int .u8 c]=Lib.byteCells [UInt8.ofNat c.toNat]:=by
  have:((UInt8.ofNat c.toNat).toNat:Int)=c:=by simp;omega
  show [Value.int .u8 c]=[Value.int .u8 ((UInt8.ofNat c.toNat).toNat:Int)]
  rw [this]
 rw [e1,bcells_app] at hA
 obtain ⟨lb',o',r1,r2,r3,r4,r5,r6,r7,r8,r9,r10,r11⟩:=bld_end (D:=[.dead]) (by simp) (by simp) (by rfl) hz hlt (fun k hk=>by rw [hvg] at hk;simp at hk;subst hk;exact ⟨hzg,1,rfl⟩) o (.inr rfl) hA hF (by simp) (by simp)
 exact ⟨_,Z,lb',rfl,o',by simp [ARep,Rep,oneB],r1,r2,r3,r4,r5,r6,r7,r8,r9,r10,fun i x hi h=>r11 i x (by simpa using hi) h⟩
theorem ac_string [Quick] {f:FuncId} {T e:TypeId} (hc:Callable P f) (hW:∀ (b:Nat) (p v:Value) (l:List UInt8) (w:World),BAt T e b p v (Lib.byteCells l) w→l≠[]→Calls P f #[.pointer (some ⟨b,0,none⟩)] w fun x w'=>x=.returned (.string ⟨l.toArray⟩)∧BAt T e b p v (Lib.byteCells l) w'∧BFr b v v w w') (bs:List UInt8) (h0:bs.length≠0) :
  ACalls P f [.loc 0 0] [.bld T (.sl 1 1 0 bs.length),.byt e bs] (.p (.v (.string ⟨bs.toArray⟩))) [.bld T (.sl 2 1 0 bs.length),.dead,.byt e bs]:=by
 refine ⟨hc,by simp,fun Z lb w vals o hv=>?_⟩
 obtain ⟨b,g,p,v,rfl,hz,hzg,hlt,hgl,hp,hvg,hB⟩:=bld_start (fun e=>h0 (by rw [e];rfl)) o
 simp only [AReps,ARep] at hv
 obtain ⟨_,_,rfl,⟨b',hb',rfl⟩,rfl⟩:=hv
 obtain rfl:b=b':=by simpa using hb'
 have hd:bs≠[]:=fun e=>h0 (by simp [e])
 refine (hW b p _ bs w hB hd).mono ?_
 rintro e' w' ⟨rfl,hA,hF⟩
 obtain ⟨lb',o',r1,r2,r3,r4,r5,r6,r7,r8,r9,r10,r11⟩:=bld_end (D:=[.dead]) (by simp) (by simp) (by rfl) hz hlt (fun k hk=>by rw [hvg] at hk;simp at hk;subst hk;exact ⟨hzg,1,rfl⟩) o hp hA hF hd (by simp)
 exact ⟨_,Z,lb',rfl,o',by simp [ARep,Rep,oneB],r1,r2,r3,r4,r5,r6,r7,r8,r9,r10,fun i x hi h=>r11 i x (by simpa using hi) h⟩
end
end
end Go.Ab
namespace Go.Ab
open Go.RowKit Go.Shelf Go.Lib Go.Proofs
section
variable {P:Program} {ρ:Ren}
set_option maxHeartbeats 1000000 in
set_option maxRecDepth 100000 in
theorem b_string0 (L:Lays.n169 P ρ) (X:Builder.Extra P ρ) (b:Nat) (p:Value) (w:World) (h:BAt (ρ.t 72) (ρ.t 5) b p (.slice none 0 0) (Lib.byteCells []) w) :
  Calls P (ρ.f 169) #[.pointer (some ⟨b,0,none⟩)] w fun e w'=>e=.returned (.string ⟨#[]⟩)∧w'.heap=w.heap∧w'.os=w.os∧w'.tape=w.tape∧w'.output=w.output:=by
 obtain ⟨hbk,hown,hne⟩:=h
 have c1:w.drew.cell? ⟨b,1,none⟩=some (.slice none 0 0):=by
  have:w.drew.heap[b]? = some (.cells #[p,.slice none 0 0] (ρ.t 72) (0,0)):=hbk
  rw [Lib.cell_of_heap this];rfl
 have hSD:(Builtin.unsafeSliceData_ #[(ρ.t 37)] (ρ.t 127) #[.slice none 0 0]).run P w.drew=.ok (.pointer none) w.drew :=
  Lib.run_unsafeSliceData_nil _ _ _ _ _
 have hUS:(Builtin.unsafeString_ #[(ρ.t 127),(ρ.t 3)] (ρ.t 9) #[.pointer none,.int .i64 0]).run P w.drew=.ok (.string ⟨#[]⟩) w.drew:=rfl
 have mixed:=L.mixed
 have t72:=L.t72;have a72:=L.a72;have z72:=L.z72;have v72:=L.v72;have u72:=run_underlying L.t72
 have t70:=L.t70;have a70:=L.a70;have z70:=L.z70;have v70:=L.v70;have u70:=run_underlying L.t70
 have t37:=L.t37;have a37:=L.a37;have z37:=L.z37;have v37:=L.v37;have u37:=run_underlying L.t37
 have t127:=L.t127;have a127:=L.a127;have z127:=L.z127;have v127:=L.v127;have u127:=run_underlying L.t127
 have t3:=L.t3;have a3:=L.a3;have z3:=L.z3;have v3:=L.v3;have u3:=run_underlying L.t3
 have t9:=L.t9;have a9:=L.a9;have z9:=L.z9;have v9:=L.v9;have u9:=run_underlying L.t9
 have t5:=X.t5;have a5:=X.a5;have z5:=X.z5;have v5:=X.v5;have u5:=run_underlying X.t5
 go_enter L.f169,Body.n169_ntmps ρ
 go_wp2
 go_region_o
 all_goals (go_wp2;go_ret;exact ⟨rfl,rfl,rfl,rfl,rfl⟩)
end
variable {P:Program}
section
variable [Glob]
theorem ac_string0 [Quick] {f:FuncId} {T e:TypeId} (hc:Callable P f) (hW:∀ (b:Nat) (p:Value) (w:World),BAt T e b p (.slice none 0 0) (Lib.byteCells []) w→Calls P f #[.pointer (some ⟨b,0,none⟩)] w fun x w'=>x=.returned (.string ⟨#[]⟩)∧w'.heap=w.heap∧w'.os=w.os∧w'.tape=w.tape∧w'.output=w.output) :
  ACalls P f [.loc 0 0] [.bld T (.p (.v (.slice none 0 0)))] (.p (.v (.string ⟨#[]⟩))) [.bld T (.p (.v (.slice none 0 0)))]:=by
 refine ⟨hc,by simp,fun Z lb w vals o hv=>?_⟩
 obtain ⟨b,p,rfl,hz,hlt,hp,hB⟩:=bld_fresh (e:=e) o
 simp only [AReps,ARep] at hv
 obtain ⟨_,_,rfl,⟨b',hb',rfl⟩,rfl⟩:=hv
 obtain rfl:b=b':=by simpa using hb'
 refine (hW b p w hB).mono ?_
 rintro e' w' ⟨rfl,h1,h2,h3,h4⟩
 refine ⟨_,Z,_,rfl,o.heap h1 h2 h3 (OutD.quick h4),by simp [ARep,Rep,oneB],h2,h3,OutD.quick h4,by rw [h1];exact Nat.le_refl _,fun k _=>by rw [h1],fun _ h=>h,fun _ h _=>.inl h,fun k _=>by simp [bsize,h1],fun k _ _=>by rw [h1],fun i k hi=>.inl ⟨i,hi⟩,fun _ _ _ h=>h⟩
end
end Go.Ab
namespace Go.Ab
section
variable [Glob]
def rowP (c0 c1:Value):Nat→List AV
 | 0=>[]
 | k+1=>.p (.v c0)::.p (.v c1)::rowP c0 c1 k
def rowV (c0 c1:Value):Nat→List Value
 | 0=>[]
 | k+1=>c0::c1::rowV c0 c1 k
end
theorem rowP_rep {Z:Nat→Prop} {lb:Lb} {w:World} {c0 c1:Value} (h0:oneB c0=true) (h1:oneB c1=true):∀ k,AReps Z lb w (rowP c0 c1 k) (rowV c0 c1 k)
 | 0=>rfl
 | k+1=>⟨_,_,rfl,by simp [ARep,Rep,h0],_,_,rfl,by simp [ARep,Rep,h1],rowP_rep h0 h1 k⟩
theorem rowV_one {c0 c1:Value} (h0:oneB c0=true) (h1:oneB c1=true):∀ k,AllOne (rowV c0 c1 k)
 | 0=>fun x hx=>by simp [rowV] at hx
 | k+1=>fun x hx=>by
  simp only [rowV,List.mem_cons] at hx
  rcases hx with rfl | rfl | hx
  ·exact h0
  ·exact h1
  ·exact rowV_one h0 h1 k x hx
theorem rowV_get {c0 c1:Value}:∀ (k j q:Nat) (u:Value),q<2→(rowV c0 c1 k)[j*2+q]? = some u→j<k∧u=(if q=0 then c0 else c1)
 | 0,j,q,u,_,h=>by simp [rowV] at h
 | k+1,0,q,u,hq,h=>by
  rcases (by omega:q=0∨q=1) with rfl | rfl<;>simp [rowV] at h<;>subst h<;>exact ⟨by omega,rfl⟩
 | k+1,j+1,q,u,hq,h=>by
  rw [show (j+1)*2+q=(j*2+q)+2 by omega,rowV,List.getElem?_cons_succ,List.getElem?_cons_succ] at h
  have:=rowV_get k j q u hq h
  exact ⟨by omega,this.2⟩
theorem rep_pair {Z:Nat→Prop} {w:World} {c0 c1:Value}:∀ (n:Nat) (vs:List Value),Reps Z w (List.replicate n (.agg [.v c0,.v c1])) vs→∀ j,j<n→∃ u,vs[j]? = some u∧vcells u=[c0,c1]
 | 0,_,_,j,hj=>absurd hj (by omega)
 | n+1,vs,h,j,hj=>by
  simp only [List.replicate_succ,Reps] at h
  obtain ⟨u,us,rfl,h1,h2⟩:=h
  cases j with
  | zero =>
   refine ⟨u,rfl,?_⟩
   simp only [Rep,Reps] at h1
   obtain ⟨_,⟨_,_,rfl,⟨rfl,_⟩,_,_,rfl,⟨rfl,_⟩,rfl⟩,rfl,_⟩:=h1
   rfl
  | succ j =>
   obtain ⟨u',h3,h4⟩:=rep_pair n us h2 j (by omega)
   exact ⟨u',by simpa using h3,h4⟩
section
variable [Glob]
theorem st_pvar {Z:Nat→Prop} {lb:Lb} {s:ASt} {a:Act} {w:World} (h:St Z lb s a w) {i n K:Nat} {c0 c1:Value} (hi:s.L[i]? = some (some (.arr 2 (List.replicate n (.agg [.v c0,.v c1]))))) (hn:0<n) (h0:oneB c0=true) (h1:oneB c1=true) :
  St Z lb { s with L:=setL s.L i (some (.pvar (2*n) (rowP c0 c1 K))) } a w:=by
 obtain ⟨o,tm,df,sz⟩:=h
 rw [setL_eq]
 have hlt:i<s.L.length:=by
  rcases Nat.lt_or_ge i s.L.length with h' | h'
  ·exact h'
  ·simp [List.getElem?_eq_none h'] at hi
 refine ⟨⟨by simp [o.len],fun j ob hj=>?_,fun j hj=>?_,fun j k o1 o2 b hj hk hl1 hl2 hb1 hb2=>?_,o.zlt⟩,tm,df,sz⟩
 ·by_cases hij:i=j
  ·subst hij
   rw [List.getElem?_set_self hlt] at hj
   simp only [Option.some.injEq] at hj
   subst hj
   obtain ⟨x,g1,g2⟩:=o.obj i _ hi
   cases x with
   | none =>
    obtain ⟨e,_⟩:=g2
    have:=congrArg List.length e
    simp at this;omega
   | some b =>
    obtain ⟨q1,q2,vs,arr,ty,fr,q3,q4,q5,q6,q7,q8,q9,q10⟩:=g2
    have hvl:vs.length=n:=by rw [q3.length];simp
    refine ⟨_,g1,q1,q2,rowV c0 c1 K,arr,ty,fr,rowP_rep h0 h1 K,rowV_one h0 h1 K,q6,q7,by omega,fun j u hj hu=>?_⟩
    have hd:=Nat.div_add_mod j 2
    have hm:=Nat.mod_lt j (show 0<2 by decide)
    rw [show j=j / 2*2+j % 2 by omega] at hu ⊢
    obtain ⟨_,rfl⟩:=rowV_get K (j / 2) (j % 2) u hm hu
    obtain ⟨u',hu',hc⟩:=rep_pair n vs q3 (j / 2) (by omega)
    refine q8 (j / 2) u' hu' (j % 2) _ ?_
    rw [hc]
    rcases (by omega:j % 2=0∨j % 2=1) with e | e<;>rw [e]<;>rfl
  ·rw [List.getElem?_set_ne hij] at hj
   exact o.obj j ob hj
 ·by_cases hij:i=j
  ·subst hij;rw [List.getElem?_set_self hlt] at hj;simp at hj
  ·rw [List.getElem?_set_ne hij] at hj;exact o.hole j hj
 ·have key:∀ (j:Nat) (o':Ob),(s.L.set i (some (.pvar (2*n) (rowP c0 c1 K))))[j]? = some (some o')→o'.live→∃ o'',s.L[j]? = some (some o'')∧o''.live:=fun j o' hj hl=>by
   by_cases hij:i=j
   ·subst hij;exact ⟨_,hi,trivial⟩
   ·rw [List.getElem?_set_ne hij] at hj;exact ⟨o',hj,hl⟩
  obtain ⟨p1,r1,s1⟩:=key j o1 hj hl1
  obtain ⟨p2,r2,s2⟩:=key k o2 hk hl2
  exact o.inj j k p1 p2 b r1 r2 s1 s2 hb1 hb2
theorem r_pvar {P:Program} {nb:Nat} {c:Code} {Q:Exit→ASt→Prop} {s:ASt} (i n K:Nat) (c0 c1:Value) (hi:nth s.L i=some (some (.arr 2 (List.replicate n (.agg [.v c0,.v c1]))))) (hn:0<n) (h0:oneB c0=true) (h1:oneB c1=true)
  (h:awp P nb c Q { s with L:=setL s.L i (some (.pvar (2*n) (rowP c0 c1 K))) }):awp P nb c Q s :=
 ⟨fun Z lb a w hs=>h.run Z lb a w (st_pvar hs (by rw [← nth_eq];exact hi) hn h0 h1)⟩
end
end Go.Ab
namespace Go.Ab
section
variable [Glob]
theorem St.swap {Z:Nat→Prop} {lb:Lb} {s:ASt} {a:Act} {w:World} (h:St Z lb s a w) {i:Nat} {o o':Ob} (hi:s.L[i]? = some (some o)) (hl:o'.live→o.live) (hob:∀ x,lb[i]? = some (some x)→ObAt Z lb w o x→ObAt Z lb w o' x) :
  St Z lb { s with L:=setL s.L i (some o') } a w:=by
 obtain ⟨o0,tm,df,sz⟩:=h
 rw [setL_eq]
 have hlt:i<s.L.length:=by
  rcases Nat.lt_or_ge i s.L.length with h' | h'
  ·exact h'
  ·simp [List.getElem?_eq_none h'] at hi
 refine ⟨⟨by simp [o0.len],fun j ob hj=>?_,fun j hj=>?_,fun j k o1 o2 b hj hk hl1 hl2 hb1 hb2=>?_,o0.zlt⟩,tm,df,sz⟩
 ·by_cases hij:i=j
  ·subst hij
   rw [List.getElem?_set_self hlt] at hj
   simp only [Option.some.injEq] at hj
   subst hj
   obtain ⟨x,g1,g2⟩:=o0.obj i _ hi
   exact ⟨x,g1,hob x g1 g2⟩
  ·rw [List.getElem?_set_ne hij] at hj
   exact o0.obj j ob hj
 ·by_cases hij:i=j
  ·subst hij;rw [List.getElem?_set_self hlt] at hj;simp at hj
  ·rw [List.getElem?_set_ne hij] at hj;exact o0.hole j hj
 ·have key:∀ (j:Nat) (q:Ob),(s.L.set i (some o'))[j]? = some (some q)→q.live→∃ q',s.L[j]? = some (some q')∧q'.live:=fun j q hj hq=>by
   by_cases hij:i=j
   ·subst hij
    rw [List.getElem?_set_self hlt] at hj
    simp only [Option.some.injEq] at hj
    subst hj
    exact ⟨_,hi,hl hq⟩
   ·rw [List.getElem?_set_ne hij] at hj;exact ⟨q,hj,hq⟩
  obtain ⟨p1,r1,s1⟩:=key j o1 hj hl1
  obtain ⟨p2,r2,s2⟩:=key k o2 hk hl2
  exact o0.inj j k p1 p2 b r1 r2 s1 s2 hb1 hb2
theorem r_openM {P:Program} {nb:Nat} {c:Code} {Q:Exit→ASt→Prop} {s:ASt} (i:Nat) (kk:Option IntKind) (ek:EK) (hi:nth s.L i=some (some (.mp kk ek)))
  (h:∀ es cl,MapIs kk ek es cl→awp P nb c Q { s with L:=setL s.L i (some (.mpx kk es cl)) }):awp P nb c Q s:=by
 refine ⟨fun Z lb a w hs=>?_⟩
 rw [nth_eq] at hi
 obtain ⟨x,g1,g2⟩:=hs.own.obj i _ hi
 cases x with
 | none=>exact g2.elim
 | some b =>
  obtain ⟨z1,z2,es,cl,hh,hm⟩:=g2
  refine (h es cl hm).run Z lb a w (hs.swap hi (fun _=>trivial) fun x hx hob=>?_)
  rw [g1] at hx
  simp only [Option.some.injEq] at hx
  subst hx
  exact ⟨z1,z2,hh⟩
theorem r_shutM {P:Program} {nb:Nat} {c:Code} {Q:Exit→ASt→Prop} {s:ASt} (i:Nat) (kk:Option IntKind) (es:Array MapEntry) (cl:Nat) (ek:EK) (hm:MapIs kk ek es cl) (hi:nth s.L i=some (some (.mpx kk es cl)))
  (h:awp P nb c Q { s with L:=setL s.L i (some (.mp kk ek)) }):awp P nb c Q s:=by
 refine ⟨fun Z lb a w hs=>?_⟩
 rw [nth_eq] at hi
 refine h.run Z lb a w (hs.swap hi (fun _=>trivial) fun x hx hob=>?_)
 cases x with
 | none=>exact hob
 | some b=>exact ⟨hob.1,hob.2.1,es,cl,hob.2.2,hm⟩
end
theorem run_next_it {P:Program} (w:World) (ty:TypeId) (b bm since last:Nat) (seen:Array Nat) (es:Array MapEntry) (cl:Nat) (hb:w.heap[b]? = some (.mapIter (some bm) since seen last)) (hm:w.heap[bm]? = some (.map es cl))
  (hold:∀ x∈es.toList,x.born<since) (hsc:since≤last) :
  ((leftOf es seen).size=0∧(Instr.next (.pointer (some ⟨b,0,none⟩)) false ty).run P w=.ok (.tuple #[.bool false]) w) ∨
  ∃ e∈(leftOf es seen).toList,∃ d:Nat,w.drawn≤d∧(Instr.next (.pointer (some ⟨b,0,none⟩)) false ty).run P w=.ok (.tuple #[.bool true,e.key,e.val]) { w with drawn:=d,heap:=w.heap.setIfInBounds b (.mapIter (some bm) since (seen.push e.born) cl) }:=by
 simp only [Instr.next,getObj,Sem.run_bind,Sem.run,hb,hm,Result.andThen,next_test_false seen es since last hold hsc,Bool.false_eq_true,if_false]
 unfold leftOf
 have hmem:∀ x∈(Array.filter (fun e=>!seen.contains e.born) es).toList,x.born<since:=fun x hx=>hold x (by simp at hx ⊢;exact hx.1)
 generalize Array.filter (fun e=>!seen.contains e.born) es=L at hmem ⊢
 have e1:L.filter (fun x=>decide (x.born<since))=L:=Array.filter_eq_self.2 (fun x hx=>by simpa using hmem x (by simpa using hx))
 have e2:L.filter (fun x=>decide (x.born ≥ since))=#[]:=by
  rw [Array.filter_eq_empty_iff]
  intro x hx
  have:=hmem x (by simpa using hx)
  simp
  omega
 simp only [e1,e2,Array.append_empty]
 by_cases h0:L.size=0
 ·left
  have:L=#[]:=Array.eq_empty_of_size_eq_zero h0
  subst this
  refine ⟨rfl,?_⟩
  simp [choose,Sem.run,Question.forced]
 ·right
  have hne:L.isEmpty=false:=by simp [Array.isEmpty,h0]
  simp only [hne,Bool.false_eq_true,if_false,Array.empty_append,Array.size_map]
  have hch:∃ (j d:Nat),j<L.size∧w.drawn≤d∧(choose (Question.mapNext L.size)).run P w=.ok j { w with drawn:=d }:=by
   by_cases hf:L.size≤1
   ·exact ⟨0,w.drawn,by omega,Nat.le_refl _,by simp [choose,Sem.run,Question.forced,hf]⟩
   ·exact ⟨_,w.drawn+1,Nat.mod_lt _ (by omega),Nat.le_succ _,by
     simp only [choose,Sem.run,Question.forced,decide_eq_true_eq,hf,if_false,Question.cut]
     rfl⟩
  obtain ⟨j,d,hj,hd,hrun⟩:=hch
  refine ⟨L[j],by simp,d,hd,?_⟩
  have hset:∀ (o':Obj),(setObj b o').run P ({ w with drawn:=d }:World)=.ok () { w with drawn:=d,heap:=w.heap.setIfInBounds b o' }:=fun o'=>by
   simp only [setObj,Sem.run,hb]
  simp only [hrun,Array.getElem?_map,Array.getElem?_eq_getElem hj,Option.map_some,Sem.run_bind,hset,Result.andThen]
  rfl
section
variable [Glob]
theorem Own.putIt {Z:Nat→Prop} {lb:Lb} {L:List (Option Ob)} {w:World} (h:Own Z lb L w) {k b d:Nat} {o o':Ob} (hk:L[k]? = some (some o)) (hl:o.live) (hb:lb[k]? = some (some (some b)))
  {m1 m2:Option Nat} {s1 s2 l1 l2:Nat} {q1 q2:Array Nat} (hh:w.heap[b]? = some (.mapIter m1 s1 q1 l1)) (hd:w.drawn≤d)
  (hob:Stp Z lb w Z lb { w with drawn:=d,heap:=w.heap.setIfInBounds b (.mapIter m2 s2 q2 l2) }→ObAt Z lb { w with drawn:=d,heap:=w.heap.setIfInBounds b (.mapIter m2 s2 q2 l2) } o' (some b)) :
  Stp Z lb w Z lb { w with drawn:=d,heap:=w.heap.setIfInBounds b (.mapIter m2 s2 q2 l2) }∧Own Z lb (L.set k (some o')) { w with drawn:=d,heap:=w.heap.setIfInBounds b (.mapIter m2 s2 q2 l2) }:=by
 obtain ⟨x,h1,h2⟩:=h.obj k o hk
 rw [hb] at h1
 simp only [Option.some.injEq] at h1
 subst h1
 obtain ⟨g1,g2⟩:=h2.block hl
 have hs:=MapKept.heap_set (o':=.mapIter m2 s2 q2 l2) hh
 have st:Stp Z lb w Z lb { w with drawn:=d,heap:=w.heap.setIfInBounds b (.mapIter m2 s2 q2 l2) }:={
  os:=rfl,tape:=rfl,output:=⟨rfl,fun _=>hd⟩
  size:=by simp
  keep:=fun x hx=>hs.2 x fun hh=>g1 (hh ▸ hx)
  z1:=fun _ h=>h
  z2:=fun _ h _=>.inl h
  bs:=fun x _=>by
   by_cases hxb:x=b
   ·subst hxb
    simp only [bsize,hh]
    rw [hs.1]
   ·simp only [bsize]
    rw [hs.2 x hxb]
  hp:=fun x _ hn=>hs.2 x fun hh=>by subst hh;exact hn k hb
  le:=fun _ _ h=>h
  fresh:=fun i b hi=>.inl ⟨i,hi⟩
  len:=rfl }
 refine ⟨st,h.upd st ?_ hb (hob st) ?_ (fun i _ hi=>h.hole i hi) fun x hx=>by have:=h.zlt.lt x hx;simpa using this⟩
 ·rcases Nat.lt_or_ge k L.length with h' | h'
  ·exact h'
  ·simp [List.getElem?_eq_none h'] at hk
 ·intro i o1 b1 hik hi hl1 hb1
  have hne:b1≠b:=fun hh=>by subst hh;exact hik (h.inj i k o1 o b1 hi hk hl1 hl hb1 hb)
  obtain ⟨x,h3,h4⟩:=h.obj i o1 hi
  rw [hb1] at h3
  simp only [Option.some.injEq] at h3
  subst h3
  exact ⟨hs.2 b1 hne,(h4.block hl1).1,fun hh=>hne (by simpa using hh.symm)⟩
theorem r_next {E:Env} {nb:Nat} {Q:Exit→ASt→Prop} {s:ASt} {id:Nat} {o1:Oper} {rest:List Oper} {it t k m since last cl:Nat} {seen:Array Nat} {kk:Option IntKind} {es:Array MapEntry}
  (ho:o1.op=.next (.tmp it) false) (hd:o1.dst=some t) (hg:o1.guard=none) (ht:t<s.n) (hit:tget s.t it=some (.loc k 0)) (hk:nth s.L k=some (some (.it (.mref m) since seen last))) (hm:nth s.L m=some (some (.mpx kk es cl)))
  (hold:∀ x,x∈es.toList→x.born<since) (hsc:since≤last) (hone:∀ e,e∈es.toList→oneB e.key=true∧oneB e.val=true)
  (h0:(leftOf es seen).size=0→VX E (o1::rest) rest (lenL s.L) { s with t:=(t,some (.p (.tup [.v (.bool false)])))::s.t } [] (regK false (o1::rest) fun s=>Q .normal s))
  (h1:∀ e,e∈(leftOf es seen).toList→VX E (o1::rest) rest (lenL s.L) { n:=s.n,t:=(t,some (.p (.tup [.v (.bool true),.v e.key,.v e.val])))::s.t,L:=setL s.L k (some (.it (.mref m) since (seen.push e.born) cl)) } [] (regK false (o1::rest) fun s=>Q .normal s)) :
  awp E.P nb (.region id (o1::rest).toArray false) Q s:=by
 refine ⟨fun Z lb a w hs=>wp_region_list ?_⟩
 rw [nth_eq] at hk hm
 obtain ⟨u,hu1,hu2⟩:=hs.tm it _ hit
 simp only [ARep] at hu2
 obtain ⟨b,hb,rfl⟩:=hu2
 have hev:a.eval (.tmp it)=.pointer (some ⟨b,0,none⟩):=by simp [Act.eval,Array.getD_eq_getD_getElem?,hu1]
 obtain ⟨x0,k1,k2⟩:=hs.own.obj k _ hk
 rw [hb] at k1
 simp only [Option.some.injEq] at k1
 subst k1
 obtain ⟨z1,z2,mo,hq2,hh⟩:=k2
 have hq3:=hq2
 simp only [ARep] at hq2
 obtain ⟨bm,hbm,hmo⟩:=hq2
 simp only [Value.map.injEq] at hmo
 subst hmo
 obtain ⟨x1,k3,k4⟩:=hs.own.obj m _ hm
 rw [hbm] at k3
 simp only [Option.some.injEq] at k3
 subst k3
 obtain ⟨_,_,hmh⟩:=k4
 have hdst:okDst s.n o1.dst=true:=by rw [hd];simpa [okDst,Nat.blt_eq] using ht
 have htput:∀ x,tput s.t o1.dst x=(t,x)::s.t:=fun x=>by rw [hd];rfl
 rw [List.toList_toArray]
 unfold wpList
 rw [if_pos (by simp [Region.wanted,hg])]
 refine .inl ?_
 unfold Oper.wp
 rcases run_next_it (P:=E.P) w o1.type b bm since last seen es cl hh hmh hold hsc with ⟨hz,hrun⟩ | ⟨e,he,d,hdr,hrun⟩
 ·have hexec:(execOp a.eval o1).run E.P w=.ok (.value (.tuple #[.bool false])) w:=by
   simp only [execOp,ho,hev,Sem.run_bind,hrun,Result.andThen_ok,Sem.run_pure]
  rw [hexec,Oper.upon_value]
  obtain ⟨fs,s',htr,hK⟩:=vexec_trace E (o1::rest) rest _ _ _ _ (h0 hz).run
  have hs2:St Z lb { s with t:=(t,some (.p (.tup [.v (.bool false)])))::s.t } (a.put o1.dst (.tuple #[.bool false])) w:=by
   have:=hs.put (Stp.refl _ _ _) hs.own hdst (x:=some (.p (.tup [.v (.bool false)]))) (u:=.tuple #[.bool false]) (fun y hy=>by cases hy;simp only [ARep,Rep,Reps];exact ⟨_,⟨_,_,rfl,⟨rfl,rfl⟩,rfl⟩,rfl⟩)
   rw [htput] at this
   exact this
  refine seq_sound (A:=(o1::rest).toArray) (ops:=o1::rest) (by simp) htr hs2 fun Z' lb' a' w' st hs'=>?_
  exact ⟨Z',lb',s',st.ext nb,hs',hK⟩
 ·have hem:e∈es.toList:=by
   have:=he
   simp only [leftOf,Array.toList_filter,List.mem_filter] at this
   exact this.1
  obtain ⟨g1,g2⟩:=hone e hem
  have hexec:(execOp a.eval o1).run E.P w=.ok (.value (.tuple #[.bool true,e.key,e.val])) { w with drawn:=d,heap:=w.heap.setIfInBounds b (.mapIter (some bm) since (seen.push e.born) cl) }:=by
   simp only [execOp,ho,hev,Sem.run_bind,hrun,Result.andThen_ok,Sem.run_pure]
  rw [hexec,Oper.upon_value]
  obtain ⟨fs,s',htr,hK⟩:=vexec_trace E (o1::rest) rest _ _ _ _ (h1 e he).run
  obtain ⟨st1,own1⟩:=hs.own.putIt (o':=.it (.mref m) since (seen.push e.born) cl) hk trivial hb (m2:=some bm) (s2:=since) (q2:=seen.push e.born) (l2:=cl) hh hdr (fun st=>⟨z1,by simpa using z2,some bm,st.arep hq3,(MapKept.heap_set hh).1⟩)
  have hs2:St Z lb { n:=s.n,t:=(t,some (.p (.tup [.v (.bool true),.v e.key,.v e.val])))::s.t,L:=setL s.L k (some (.it (.mref m) since (seen.push e.born) cl)) } (a.put o1.dst (.tuple #[.bool true,e.key,e.val])) { w with drawn:=d,heap:=w.heap.setIfInBounds b (.mapIter (some bm) since (seen.push e.born) cl) }:=by
   have:=hs.put st1 own1 hdst (x:=some (.p (.tup [.v (.bool true),.v e.key,.v e.val]))) (u:=.tuple #[.bool true,e.key,e.val]) (fun y hy=>by cases hy;simp only [ARep,Rep,Reps];exact ⟨_,⟨_,_,rfl,⟨rfl,rfl⟩,_,_,rfl,⟨rfl,g1⟩,_,_,rfl,⟨rfl,g2⟩,rfl⟩,rfl⟩)
   rw [htput,← setL_eq] at this
   exact this
  refine seq_sound (A:=(o1::rest).toArray) (ops:=o1::rest) (by simp) htr hs2 fun Z' lb' a' w' st hs'=>?_
  exact ⟨Z',lb',s',(st1.trans st).ext nb,hs',hK⟩
def roundQ (P:Program) (nb:Nat) (c:Code) (Q:Exit→ASt→Prop):Nat→ASt→Prop
 | 0,_=>False
 | n+1,s=>awp P nb c (fun e s=>match e with | .normal=>roundQ P nb c Q n s | e=>Q e s) s
theorem yF {P:Program} {nb:Nat} {c:Code} {Q:Exit→ASt→Prop} {n:Nat} {s:ASt} (h:awp P nb c (fun e s=>match e with | .normal=>roundQ P nb c Q n s | e=>Q e s) s):roundQ P nb c Q (n+1) s:=h
theorem r_rounds {P:Program} {nb:Nat} {c:Code} {Q:Exit→ASt→Prop} {s:ASt} (n:Nat) (h:roundQ P nb c Q n s):awp P nb (.loop c) Q s:=by
 refine ⟨fun Z lb a w hs=>?_⟩
 have key:∀ n s,roundQ P nb c Q n s→∀ Z' lb' a' w',Ext nb Z lb w Z' lb' w'→St Z' lb' s a' w'→Code.rounds P c (lift nb Z lb w Q) n a' w':=by
  intro n
  induction n with
  | zero=>intro s h;exact h.elim
  | succ n ih =>
   intro s h Z' lb' a' w' he hst
   rw [rounds_succ]
   refine Code.wp_mono ?_ (h.run Z' lb' a' w' hst)
   rintro e a2 w2 ⟨Z2,lb2,s2,e2,st2,hq⟩
   cases e with
   | normal=>exact ih s2 hq Z2 lb2 a2 w2 (he.trans e2) st2
   | _=>exact ⟨Z2,lb2,s2,he.trans e2,st2,hq⟩
 exact wp_loop_rounds n (key n s h Z lb a w (Ext.refl _ _ _ _) hs)
end
end Go.Ab
set_option linter.unusedVariables false
set_option linter.unusedSimpArgs false
namespace Go.Ab
section
variable [Glob]
def GSound (E:Env) (o:Oper) (V:Vop):Prop:=∀ ρ ℓ K,V ρ ℓ K→∀ s:ASt,okDst s.n o.dst=true→(∀ x,x∈o.op.operands→ev s.t x=ρ x)→(∀ k:Nat,s.L[k]? = ℓ k)→∀ Z lb a w,St Z lb s a w →
 ∀ (K':Act→World→Prop) (Q:Exit→Act→World→Prop),(∀ e,K e→∀ Z' lb' a' w',Stp Z lb w Z' lb' w'→St Z' lb' (s.app o.dst e) a' w'→K' a' w')→o.wp E.P a w K' Q
def ACallsX (P:Program) (f:FuncId) (args:List AV) (L:List Ob) {G:Type} (r:G→AV) (L':G→List Ob):Prop:=Callable P f∧(∀ g,L.length≤(L' g).length)∧∀ Z lb w vals,Own Z lb (L.map some) w→AReps Z lb w args vals →
 Calls P f vals.toArray w fun e w'=>∃ g u Z' lb',e=.returned u∧Own Z' lb' ((L' g).map some) w'∧ARep Z' lb' w' (r g) u ∧
  w'.os=w.os∧w'.tape=w.tape∧OutD w w'∧w.heap.size≤w'.heap.size∧Keep Z w w'∧(∀ b,Z b→Z' b)∧(∀ b,Z' b→b<w.heap.size→Z b∨∃ i:Nat,lb[i]? = some (some (some b)))∧BsLe w w' ∧
  (∀ b,b<w.heap.size→(∀ i:Nat,lb[i]?≠some (some (some b)))→w'.heap[b]? = w.heap[b]?)∧(∀ (i:Nat) b,lb'[i]? = some (some (some b))→(∃ j:Nat,lb[j]? = some (some (some b)))∨w.heap.size≤b) ∧
  (∀ (i:Nat) x,i<L.length→lb[i]? = some (some x)→lb'[i]? = some (some x))
theorem ACalls.x {P:Program} {f:FuncId} {args:List AV} {L:List Ob} {r:AV} {L':List Ob} (h:ACalls P f args L r L'):ACallsX P f args L (fun _:Unit=>r) (fun _=>L') :=
 ⟨h.1,fun _=>h.2.1,fun Z lb w vals ho hr=>(h.2.2 Z lb w vals ho hr).mono fun e w' ⟨u,Z',lb',h⟩=>⟨(),u,Z',lb',h⟩⟩
theorem ACallsX.to {P:Program} {f:FuncId} {args:List AV} {L:List Ob} {G H:Type} {r:G→AV} {L':G→List Ob} {r2:H→AV} {L2:H→List Ob} (h:ACallsX P f args L r L') (hl:∀ g,L.length≤(L2 g).length) (k:∀ g,∃ q,r2 q=r g∧L2 q=L' g):ACallsX P f args L r2 L2:=by
 refine ⟨h.1,hl,fun Z lb w vals ho hr=>(h.2.2 Z lb w vals ho hr).mono ?_⟩
 rintro e w' ⟨g,u,Z',lb',h1,h2,h3,h4⟩
 obtain ⟨q,e1,e2⟩:=k g
 exact ⟨q,u,Z',lb',h1,by rw [e2];exact h2,by rw [e1];exact h3,h4⟩
def callX (E:Env) (g:FuncId) (cas:List AV) (Lc:List Ob) (K:AV→List Ob→Prop) (_:Tag K):Prop:=∃ (G:Type) (r:G→AV) (L':G→List Ob),ACallsX E.P g cas Lc r L'∧∀ q,K (r q) (L' q)
theorem zK {E:Env} {g:FuncId} {cas:List AV} {Lc:List Ob} {K:AV→List Ob→Prop} {t:Tag K} {G:Type} {r:G→AV} {L':G→List Ob} (h:ACallsX E.P g cas Lc r L') (hK:∀ q,K (r q) (L' q)):callX E g cas Lc K t:=⟨G,r,L',h,hK⟩
@[congr] theorem callX_congr {E:Env} {g:FuncId} {cas cas':List AV} {Lc Lc':List Ob} {K:AV→List Ob→Prop} {t:Tag K} (h:cas=cas') (h2:Lc=Lc'):callX E g cas Lc K t=callX E g cas' Lc' K t:=by rw [h,h2]
def lendX (E:Env) (rank:Nat) (g:FuncId) (ℓ:Nat→Option (Option Ob)) (xa:List AV) (K:Eff→Prop):Prop :=
 forceX (own1 ℓ (refAs xa)) fun l1=>dfsSK ℓ l1 [] (fun σ=>forceA (renAs (pos0 σ) xa) fun cas=>forceB (lentObs ℓ (pos0 σ) σ) fun Lc =>
  (renAs (atF σ rank) cas=xa∧inBs σ.length cas=true∧lentOk ℓ (atF σ rank) σ.length σ Lc∧freshN σ=true) ∧
   callX E g cas Lc (fun r L'=>afterA ℓ rank σ σ L' [] fun wr=>K ⟨some (renA (atF σ rank) r),[],wr⟩) ⟨⟩) ⟨⟩
def gCall (E:Env) (rank:Nat) (f:Operand) (args:List Operand):Vop:=fun ρ ℓ K=>withV (ρ f) fun
 | .p (.fn g caps)=>withC (gatherA ρ args) fun xa=>forceA (appA xa (mapP caps)) fun l=>lendX E rank g ℓ l K
 | _=>False
theorem gsCall (E:Env) (o:Oper) (rank:Nat) (f:Operand) (args:Array Operand) (ts:Array TypeId) (ho:o.op=.call { callee:=.value f,args:=args,argTypes:=ts }):GSound E o (gCall E rank f args.toList):=by
 intro ρ ℓ K h0 s hd hq ht Z lb a w hs K' Q hK'
 obtain ⟨y,hy,h⟩:=withV_some h0
 clear h0
 have hfm:f∈o.op.operands:=by simp [ho,Op.operands,Call.operands]
 have ham:∀ x,x∈args.toList→ev s.t x=ρ x:=fun x hx=>hq x (by simp only [ho,Op.operands,Call.operands];simp;exact .inr (Array.mem_toList_iff.1 hx))
 have hrun:∀ {a:Act} {w:World} {g:FuncId} {vs:List Value},Callable E.P g→a.eval f=.func (.func g) #[] vs.toArray→(execOp a.eval o).run E.P w=.ok (.enter g (args.toList.map a.eval++vs).toArray) w:=by
  intro a w g vs hc g2
  have hargs:args.map a.eval=(args.toList.map a.eval).toArray:=by apply Array.ext';simp
  simp [execOp,ho,resolve,Deferred.ofValue,g2,invoke,run_callFunc hc,hargs]
 split at h
 ·rename_i g caps
  have hf:=ev_rep hs (find_ev hq hfm hy)
  simp only [ARep,Rep] at hf
  obtain ⟨vs,g1,g2⟩:=hf
  obtain ⟨xa,has,h⟩:=withC_some h
  rw [forceA_eq] at h
  unfold lendX at h
  rw [forceX_eq,dfsSK_eq,forceA_eq,forceB_eq] at h
  obtain ⟨⟨hren,hin,hlent,hfr⟩,G,r,L',hcall,hpost⟩:=h
  revert hren hin hlent hcall hpost
  generalize dfsS ℓ (own1 ℓ (refAs (appA xa (mapP caps)))) []=σ at *
  generalize renAs (pos0 σ) (appA xa (mapP caps))=cargs
  generalize lentObs ℓ (pos0 σ) σ=Lc
  intro hren hin hlent hcall hpost
  have ga:=(gatherA_rep hs ham has).append (areps_p.2 g1)
  rw [← mapP_eq,← appA_eq,← hren] at ga
  have hnd:=freshN_nodup hfr
  have hl':=lentOk_congr (ℓ':=fun k=>s.L[k]?) (fun j _=>ht j) hlent
  have hlend:=hs.own.lend (rank:=rank) hl' hnd
  have hargs:=areps_ren (f:=atF σ rank) (n:=σ.length) (lb':=lbOf lb σ) (fun i x hi hx=>by
   have hj:σ[i]? = some σ[i]:=by simp [hi]
   rw [atF_lt hj] at hx
   exact lbOf_get σ hj hx) _ _ hin ga
  unfold Oper.wp
  rw [hrun hcall.1 g2,Oper.upon_enter]
  refine (hcall.2.2 Z _ w _ hlend hargs).mono ?_
  rintro e w' ⟨q,u,Z',lbc',rfl,c1,c2,c3,c4,c5,c6,c7,c8,c9,c10,c11,c12,c13⟩
  obtain ⟨M,nw,hMn,hM,hnw,hK⟩:=afterA_ok (hpost q)
  rw [hMn] at c1
  have hnw':∀ i,i<nw.length→s.L[rank+i]? = some none:=fun i hi=>(ht (rank+i)).trans (isHole_eq (holesOk_get hnw hi))
  obtain ⟨lb',st,own,hun⟩:=hs.own.back hl' hnd hM hnw' c1 c6 c7 c8 c9 c10 c11 c12 c13 c3 c4 c5
  refine hK' ⟨some (renA (atF σ rank) (r q)),[],zipW (atF σ rank) σ M++nwW (atF σ rank) rank nw⟩ (by simpa using hK) Z' lb' _ w' st (hs.put st own hd fun q hq'=>?_)
  cases hq'
  exact arep_unren hun _ u c2
 ·exact h.elim
def gAppend (E:Env) (rank:Nat) (T T2:TypeId) (s x:Operand):Vop:=fun ρ ℓ K=>onB (isHole (ℓ rank)) <| isSliceTy E T fun _ esz eb=>isSliceTy E T2 fun _ _ _=>onB (Nat.blt 0 esz) <|
 withV (ρ s) fun y=>withV (ρ x) fun z=>match elemsOf esz ℓ z with
  | some (xs,ks)=>(match z with | .sl _ _ _ n=>xs.length=n | _=>True)∧(match y with
   | .sl k sz st n=>withO (ℓ k) fun
    | .arr sz' es=>(Nat.beq sz esz=true∧Nat.beq sz' esz=true∧es.length=st+n∧(st+n+xs.length≤big∧(st+n+xs.length)*eb≤big)) ∧
      K ⟨some (.sl rank esz st (n+xs.length)),ks,[(k,some .dead),(rank,some (.arr esz (es++xs)))]⟩∧K ⟨some (.sl rank esz 0 (n+xs.length)),ks,[(k,some .dead),(rank,some (.arr esz (es.drop st++xs)))]⟩
    | _=>False
   | _=>False)
  | none=>False
theorem gsAppend (E:Env) (o:Oper) (rank:Nat) (T T2:TypeId) (sx x:Operand) (ho:o.op=.call { callee:=.builtin .append,args:=#[sx,x],argTypes:=#[T,T2] }):GSound E o (gAppend E rank T T2 sx x):=by
 intro ρ ℓ K h0 s hd hq ht Z lb a w hs K' Q hK'
 obtain ⟨hh,h1⟩:=onB_some h0
 obtain ⟨i,d,inf,z,h2,F⟩:=withTy_some h1
 clear h0 h1
 split at h2
 ·rename_i e esz eb ez hk
  obtain ⟨hez,h2'⟩:=onB_some h2
  have hez:=Nat.eq_of_beq_eq_true hez
  obtain ⟨i2,d2,inf2,z2,h3,F2⟩:=withTy_some h2'
  clear h2 h2'
  split at h3
  ·rename_i e2 esz2 eb2 ez2 hk2
   obtain ⟨_,h3'⟩:=onB_some h3
   obtain ⟨hp,h4⟩:=onB_some h3'
   obtain ⟨y,hy,h5⟩:=withV_some h4
   obtain ⟨zx,hz,h⟩:=withV_some h5
   clear h3 h3' h4 h5
   have hp:0<esz:=Nat.le_of_ble_eq_true hp
   have hsm:sx∈o.op.operands:=by simp [ho,Op.operands,Call.operands]
   have hxm:x∈o.op.operands:=by simp [ho,Op.operands,Call.operands]
   obtain ⟨rfl,j,zz,a1,a2,a3,a4,a5⟩:=F.slice hk
   obtain ⟨rfl,j2,zz2,b1,b2,b3,b4,b5⟩:=F2.slice hk2
   have hexec:∀ {w':World} {u:Value},(Builtin.append_ #[T,T2] o.type #[a.eval sx,a.eval x]).run E.P w=.ok u w'→(execOp a.eval o).run E.P w=.ok (.value u) w':=by
    intro w' u h
    simp [execOp,ho,resolve,invoke,builtin,h]
   split at h
   ·rename_i xs ks hel
    obtain ⟨hzl,h⟩:=h
    obtain ⟨vs,hr0⟩:=elemsOf_rep hs.own hp (ks:=ks) (fun q _=>ht q) hel (ev_rep hs (find_ev hq hxm hz)) fun k sz' st n hzz=>by
     subst hzz
     exact hzl
    have r2:=hr0.srcR (P:=E.P) F2.und
    split at h
    ·rename_i k sz st n
     obtain ⟨ob,hob,h⟩:=withO_some h
     split at h
     ·rename_i sz' es
      obtain ⟨⟨e1,e2,hln,hb1,hb2⟩,hin,hout⟩:=h
      have e1:=Nat.eq_of_beq_eq_true e1
      have e2:=Nat.eq_of_beq_eq_true e2
      subst e1
      subst e2
      have hr:s.L[rank]? = some none:=(ht rank).trans (isHole_eq hh)
      have hk1:s.L[k]? = some (some (.arr sz' es)):=(ht k).trans hob
      have hyr:=ev_rep hs (find_ev hq hsm hy)
      have l2:=r2.rep.length
      have hrk:rank≠k:=fun hh'=>by rw [hh',hk1] at hr;simp at hr
      have hr':(s.L.set k (some .dead))[rank]? = some none:=by rw [List.getElem?_set_ne (fun hh'=>hrk hh'.symm)];exact hr
      have hel2:elemsOf sz' (fun q:Nat=>s.L[q]?) (.sl k sz' st n)=some (es.drop st,[k]):=by
       have:(es.drop st).take n=es.drop st:=List.take_of_length_le (by simp;omega)
       simp only [elemsOf,hk1,Nat.beq_refl]
       cases st with
       | zero=>simp at this ⊢;omega
       | succ st=>simp only [this]
      obtain ⟨us,r1⟩:=elemsOf_rep hs.own hp (ks:=[k]) (fun q _=>rfl) hel2 hyr (fun k' sz' st' n' hh'=>by simp only [AV.sl.injEq] at hh';obtain ⟨_,_,rfl,rfl⟩:=hh';simp;omega)
      have l1:=r1.rep.length
      have fin:∀ (s2:Nat) (es2:List PV) (u:Value) (w':World) (lb':Lb),K ⟨some (.sl rank sz' s2 (n+xs.length)),ks,[(k,some .dead),(rank,some (.arr sz' es2))]⟩→(execOp a.eval o).run E.P w=.ok (.value u) w'→Stp Z lb w Z lb' w' →
        Own Z lb' ((s.L.set k (some .dead)).set rank (some (.arr sz' es2))) w'→ARep Z lb' w' (.sl rank sz' s2 (n+xs.length)) u→o.wp E.P a w K' Q:=by
       intro s2 es2 u w' lb' hKK g1 g2 g3 g4
       unfold Oper.wp
       rw [g1,Oper.upon_value]
       exact hK' _ hKK Z lb' _ w' g2 (hs.put g2 (by simpa [setAll,setL_eq] using g3) hd fun q hq'=>by cases hq';exact g4)
      have grow:∀ {base:Option Addr} {cap:Nat},a.eval sx=.slice base n cap→cap<n+vs.length→o.wp E.P a w K' Q:=by
       intro base cap hu hcap
       obtain ⟨hn,hfirst⟩:=r1.first (P:=E.P) hu
       have hsrc:=r2.src
       rw [← a3] at hsrc
       have hdl:(es.drop st).length=n:=by simp;omega
       have hgrow:=run_append_grow_src (P:=E.P) w T T2 o.type e j zz F.und a1 a2 base n cap (flat us) (by rw [a3];exact hfirst cap) (a.eval x) vs.length (flat vs) hsrc hcap
        (by unfold big at hb1;omega) (growslice_fits hcap (by rw [a4];have:(n+vs.length)*eb≤(st+n+xs.length)*eb:=Nat.mul_le_mul_right _ (by omega);unfold big at hb2;omega))
       rw [← hu] at hgrow
       have st0:Stp Z lb w Z lb w.drew:=stp_heap rfl rfl rfl (od_drew _)
       have own0:Own Z lb (s.L.set k (some .dead)) w.drew:=(hs.own.kill hk1).heap rfl rfl rfl (od_drew _)
       have fit:∀ q,q∈us++vs→Fit sz' q:=fun q hq=>by
        rcases List.mem_append.1 hq with h1 | h1
        ·exact r1.len q h1
        ·exact r2.len q h1
       have hfl:(flat (us++vs)).length=(us++vs).length*sz':=flat_length fun q hq=>(fit q hq).1
       obtain ⟨lb',stp,own',hb'⟩:=own0.new hr' (ob:=.cells ((flat us++flat vs).toArray++Builtin.zeroCells zz.cells (grownCap w (n+vs.length) cap e - (n+vs.length))) e) (o':=.arr sz' (es.drop st++xs)) (fun lb' stp hz =>
        obAt_arr hz stp hp ((st0.reps r1.rep).append (st0.reps r2.rep)) fit (fun k u hk q c hc=>by
         have:=flat_at (fun q hq=>(fit q hq).1) k u hk q c hc
         rw [flat_append] at this
         have hlt:k*sz'+q<(flat us++flat vs).length:=by
          rcases Nat.lt_or_ge (k*sz'+q) (flat us++flat vs).length with h' | h'
          ·exact h'
          ·simp [List.getElem?_eq_none h'] at this
         rw [Array.getElem?_append_left (by simpa using hlt)]
         simpa using this) (by simp;omega) (by rw [← hfl,flat_append];simp))
       refine fin 0 _ _ _ lb' hout (hexec hgrow) (st0.trans stp) own' ?_
       simp only [ARep]
       refine .inr ⟨_,grownCap w (n+vs.length) cap e,hb',?_,?_,?_⟩
       ·rw [Nat.zero_mul,← l2];rfl
       ·have:=grownCap_ge w (n+vs.length) cap e;omega
       ·have hge:=grownCap_ge w (n+vs.length) cap e
        have hzs:zz.cells.size=sz':=by rw [← hez,← a5,vcells];simp
        rw [bsize_of alloc_heap_new]
        have hzc:(Builtin.zeroCells zz.cells (grownCap w (n+vs.length) cap e - (n+vs.length))).size=(grownCap w (n+vs.length) cap e - (n+vs.length))*sz':=by simp [Builtin.zeroCells,hzs]
        rw [Array.size_append,hzc,List.size_toArray,← flat_append,hfl,← Nat.add_mul,Nat.zero_add,List.length_append]
        exact Nat.mul_le_mul_right _ (by omega)
      have hyr2:=hyr
      simp only [ARep] at hyr
      rcases hyr with ⟨s0,n0,c3,hu⟩ | ⟨b,cap,c1,hu,c3,c4⟩
      ·subst s0
       subst n0
       by_cases hx0:xs.length=0
       ·obtain ⟨lb',stp,own,hb'⟩:=(hs.own.kill hk1).newNil hr' hp
        have hxe:xs=[]:=List.length_eq_zero_iff.1 hx0
        have hee:es=[]:=List.length_eq_zero_iff.1 (by omega)
        have hsrc:=r2.src
        have h00:vs.length=0:=by omega
        rw [h00,← a3] at hsrc
        refine fin 0 _ (.slice none 0 0) w lb' hout (hexec ?_) stp (by simpa [hxe,hee] using own) (by simp only [ARep];exact .inl ⟨trivial,by omega,hb',trivial⟩)
        rw [hu]
        rcases hsrc.kind with ⟨e',hk⟩ | hk<;>simp [Builtin.append_,run_underlying F.und,run_underlying hk,sizeOf,typeInfo,a1,hsrc.len,hsrc.cells]
       ·exact grow hu (by omega)
      ·by_cases hroom:n+vs.length≤cap
       ·obtain ⟨vs0,arr,ty,fr,g1,g2,g3,g4,g5,g6,g7,g8⟩:=obj_arr hs.own hk1 c1
        rw [bsize_of g4] at c4
        have hsrc:=r2.src
        rw [← a3] at hsrc
        have hfl:(flat vs).length=vs.length*sz':=flat_length fun q hq=>(r2.len q hq).1
        have hcap:(st+(n+vs.length))*sz'≤(st+cap)*sz':=Nat.mul_le_mul_right _ (by omega)
        rw [show st+(n+vs.length)=(st+n)+vs.length by omega,Nat.add_mul] at hcap
        have hsn:(st+n)*sz'=st*sz'+n*sz':=Nat.add_mul _ _ _
        have hrun:=run_append_room_ab T T2 o.type e j F.und a1 b (st*sz') n cap (a.eval x) vs.length (flat vs) hsrc hroom g4 (by rw [a3,hfl];omega) g5
        rw [a3,← hsn] at hrun
        rw [← hu] at hrun
        have h0len:=g1.length
        have ht0:vs0.length=st+n:=by omega
        obtain ⟨lb',stp,own,hb'⟩:=hs.own.newPut hr hk1 trivial c1 g4 (c':=arrSplice arr ((st+n)*sz') (flat vs)) (arrSplice_size _ _ _) (o':=.arr sz' (es++xs)) (fun lb' stp=>by
         obtain ⟨x0,k1,k2⟩:=hs.own.obj k _ hk1
         rw [c1] at k1
         simp only [Option.some.injEq] at k1
         subst k1
         refine ⟨k2.1,by rw [put_size];exact k2.2.1,vs0++vs,_,ty,fr,(stp.reps g1).append (stp.reps r2.rep),hp,?_,put_heap g4,by rw [arrSplice_size];exact g5,?_,by rw [List.length_append,ht0];omega,by rw [arrSplice_size,List.length_append,ht0,Nat.add_mul];omega⟩
         ·intro q hq'
          rcases List.mem_append.1 hq' with h1 | h1
          ·exact g3 q h1
          ·exact r2.len q h1
         ·intro m u hm q c hc
          have hql:q<(vcells u).length:=by
           rcases Nat.lt_or_ge q (vcells u).length with h' | h'
           ·exact h'
           ·simp [List.getElem?_eq_none h'] at hc
          rw [arrSplice_get _ _ _ _ (by omega)]
          rcases Nat.lt_or_ge m (st+n) with hmn | hmn
          ·rw [List.getElem?_append_left (by omega)] at hm
           have hus:=(g3 u (List.mem_of_getElem? hm)).1
           have:(m+1)*sz'≤(st+n)*sz':=Nat.mul_le_mul_right sz' hmn
           rw [Nat.succ_mul] at this
           rw [if_neg (by omega)]
           exact g6 m u hm q c hc
          ·rw [List.getElem?_append_right (by omega),ht0] at hm
           have hus:=(r2.len u (List.mem_of_getElem? hm)).1
           have hml:m - (st+n)<vs.length:=by
            rcases Nat.lt_or_ge (m - (st+n)) vs.length with h' | h'
            ·exact h'
            ·simp [List.getElem?_eq_none h'] at hm
           have e1:m*sz'=(st+n)*sz'+(m - (st+n))*sz':=by rw [← Nat.add_mul,show st+n+(m - (st+n))=m by omega]
           have e2:(m - (st+n)+1)*sz'≤vs.length*sz':=Nat.mul_le_mul_right sz' hml
           rw [Nat.succ_mul] at e2
           rw [if_pos (by omega),show m*sz'+q - (st+n)*sz'=(m - (st+n))*sz'+q by omega]
           exact flat_at (fun q hq=>(r2.len q hq).1) (m - (st+n)) u hm q c hc)
        refine fin st _ _ _ lb' hin (hexec hrun) stp own ?_
        simp only [ARep]
        refine .inr ⟨b,cap,hb',by rw [l2],by omega,?_⟩
        rw [bsize_of (put_heap g4),arrSplice_size];exact c4
       ·exact grow hu (by omega)
     ·exact h.elim
    ·exact h.elim
   ·exact h.elim
  ·exact h3.elim
 ·exact h2.elim
def gop (E:Env) (o:Oper) (rank:Nat):Vop:=match o.op with
 | .call c=>match c.callee with
  | .value f=>gCall E rank f c.args.toList
  | .builtin .append=>match c.args.toList,c.argTypes.toList with
   | [s,x],[T,T2]=>gAppend E rank T T2 s x
   | _,_=>fun _ _ _=>False
  | _=>fun _ _ _=>False
 | _=>fun _ _ _=>False
theorem gsound_false {E:Env} {o:Oper}:GSound E o (fun _ _ _=>False):=fun _ _ _ h=>h.elim
theorem gop_sound (E:Env) (o:Oper) (rank:Nat):GSound E o (gop E o rank):=by
 unfold gop
 split
 ·rename_i c ho
  obtain ⟨callee,args,ts⟩:=c
  simp only
  split
  ·exact gsCall E o rank _ args ts ho
  ·split
   ·rename_i s x T T2 h1 h2
    rw [list2 h1,list2 h2] at ho
    exact gsAppend E o rank T T2 s x ho
   ·exact gsound_false
  ·exact gsound_false
 ·exact gsound_false
def gstep (E:Env) (o:Oper) (rank:Nat) (s:ASt) (K:Eff→Prop):Prop:=onB (okDst s.n o.dst) (gop E o rank (ev s.t) (nth s.L) K)
def isG (gs:List Nat) (o:Oper):Bool:=match o.guard with
 | some _=>false
 | none=>match o.op with
  | .call c=>match c.callee with
   | .value (.func g)=>elN (g+1) gs
   | .builtin .append=>elN 0 gs
   | _=>false
  | _=>false
theorem seq_pre {E:Env} {A:Array Oper} {ops:List Oper} (hA:A.toList=ops) {Q:Exit→Act→World→Prop} {r:List Oper}:∀ {l:List Oper} {es:List (Option Eff)} {s s':ASt},Trace E ops l es s s'→∀ {Z:Nat→Prop} {lb:Lb} {a:Act} {w:World},St Z lb s a w →
  (∀ Z' lb' a' w',Stp Z lb w Z' lb' w'→St Z' lb' s' a' w'→wpList E.P A Q r a' w')→wpList E.P A Q (l++r) a w:=by
 intro l es s s' ht
 induction ht with
 | nil s=>intro Z lb a w hs hQ;exact hQ Z lb a w (Stp.refl _ _ _) hs
 | @cons o rest e es s s₁ s₂ s₃ hr hsame t h2 ih =>
  intro Z lb a w hs hQ
  have hs1:=hsame.st hs
  have hw:Region.wanted o (yielded A a.tmps)=e.isSome:=by
   rcases hr.guard with ⟨h1,h3⟩ | ⟨d,want,b,h1,h3,h4⟩ | ⟨d,want,h1,h3,h4⟩
   ·rw [h3];simp [Region.wanted,h1]
   ·rw [wanted_guard hA h1 hs1 h3,h4]
   ·rw [wanted_undef hA h1 hs1 h3,h4]
  rw [List.cons_append]
  unfold wpList
  rw [hw]
  cases e with
  | some e =>
   rw [if_pos (show (some e).isSome=true from rfl)]
   refine .inl (hr.run e rfl s₁ hr.dst (fun _ _=>rfl) (fun _ _=>rfl) Z lb a w hs1 _ _ fun Z' lb' a' w' st hs'=>?_)
   exact ih (by rw [h2];exact hs') fun Z'' lb'' a'' w'' st' hs''=>hQ _ _ _ _ (st.trans st') hs''
  | none =>
   rw [if_neg (by simp)]
   refine ih ?_ hQ
   rw [h2]
   exact hs1.put (Stp.refl _ _ _) hs1.own hr.dst fun y hy=>by cases hy;simp only [ARep,AReps];exact ⟨[],rfl,rfl⟩
theorem r_gr {E:Env} {nb:Nat} {Q:Exit→ASt→Prop} {s:ASt} {id:Nat} (gs:List Nat) (p:List Oper) (o:Oper) (q:List Oper) (hg:isG gs o=true)
  (h:VX E (p++o::q) p (lenL s.L) { s with L:=addL s.L (holesOf (p++o::q)) } [] fun s1 _=>gstep E o (lenL s.L+holesOf p) s1 fun e=>VX E (p++o::q) q (lenL s.L+holesOf p+slotsOf o) (s1.app o.dst e) [] (regK false (p++o::q) fun s=>Q .normal s)) :
  awp E.P nb (.region id (p++o::q).toArray false) Q s:=by
 refine ⟨fun Z lb a w hs=>?_⟩
 obtain ⟨es,s',ht,hK⟩:=vexec_trace E _ p _ _ _ _ h.run
 have hs1:=hs.addHoles (holesOf (p++o::q))
 have hext:=(hs.own.addHoles (holesOf (p++o::q))).2 nb
 refine wp_region_list ?_
 rw [List.toList_toArray]
 refine seq_pre (by simp) ht hs1 fun Z1 lb1 a1 w1 st1 hs1'=>?_
 have hgd:o.guard=none:=by
  unfold isG at hg
  split at hg
  ·simp at hg
  ·assumption
 unfold wpList
 rw [if_pos (by simp [Region.wanted,hgd])]
 refine .inl ?_
 obtain ⟨hd,hg2⟩:=onB_some hK
 refine gop_sound E o _ _ _ _ hg2 s' hd (fun _ _=>rfl) (fun k=>(nth_eq _ _).symm) Z1 lb1 a1 w1 hs1' _ _ fun e he Z2 lb2 a2 w2 st2 hs2=>?_
 obtain ⟨es2,s2,ht2,hK2⟩:=vexec_trace E _ q _ _ _ _ he.run
 refine seq_sound (ops:=p++o::q) (by simp) ht2 hs2 fun Z3 lb3 a3 w3 st3 hs3=>?_
 exact ⟨Z3,lb3,s2,hext.trans (((st1.trans st2).trans st3).ext nb),hs3,hK2⟩
theorem r_gr0 {E:Env} {nb:Nat} {Q:Exit→ASt→Prop} {s:ASt} {id:Nat} (gs:List Nat) {o:Oper} {q:List Oper} 
  (h:VX E (o::q) [] (lenL s.L) { s with L:=addL s.L (holesOf (o::q)) } [] fun s1 _=>gstep E o (lenL s.L+holesOf []) s1 fun e=>VX E (o::q) q (lenL s.L+holesOf []+slotsOf o) (s1.app o.dst e) [] (regK false (o::q) fun s=>Q .normal s)) (hg:isG gs o=true:=by with_unfolding_all exact rfl) :
  awp E.P nb (.region id (o::q).toArray false) Q s:=r_gr gs [] o q hg h
theorem r_gr1 {E:Env} {nb:Nat} {Q:Exit→ASt→Prop} {s:ASt} {id:Nat} (gs:List Nat) {a0 o:Oper} {q:List Oper} 
  (h:VX E (a0::o::q) [a0] (lenL s.L) { s with L:=addL s.L (holesOf (a0::o::q)) } [] fun s1 _=>gstep E o (lenL s.L+holesOf [a0]) s1 fun e=>VX E (a0::o::q) q (lenL s.L+holesOf [a0]+slotsOf o) (s1.app o.dst e) [] (regK false (a0::o::q) fun s=>Q .normal s)) (hg:isG gs o=true:=by with_unfolding_all exact rfl) :
  awp E.P nb (.region id (a0::o::q).toArray false) Q s:=r_gr gs [a0] o q hg h
theorem r_gr2 {E:Env} {nb:Nat} {Q:Exit→ASt→Prop} {s:ASt} {id:Nat} (gs:List Nat) {a0 a1 o:Oper} {q:List Oper} 
  (h:VX E (a0::a1::o::q) [a0,a1] (lenL s.L) { s with L:=addL s.L (holesOf (a0::a1::o::q)) } [] fun s1 _=>gstep E o (lenL s.L+holesOf [a0,a1]) s1 fun e=>VX E (a0::a1::o::q) q (lenL s.L+holesOf [a0,a1]+slotsOf o) (s1.app o.dst e) [] (regK false (a0::a1::o::q) fun s=>Q .normal s)) (hg:isG gs o=true:=by with_unfolding_all exact rfl) :
  awp E.P nb (.region id (a0::a1::o::q).toArray false) Q s:=r_gr gs [a0,a1] o q hg h
theorem r_gr3 {E:Env} {nb:Nat} {Q:Exit→ASt→Prop} {s:ASt} {id:Nat} (gs:List Nat) {a0 a1 a2 o:Oper} {q:List Oper} 
  (h:VX E (a0::a1::a2::o::q) [a0,a1,a2] (lenL s.L) { s with L:=addL s.L (holesOf (a0::a1::a2::o::q)) } [] fun s1 _=>gstep E o (lenL s.L+holesOf [a0,a1,a2]) s1 fun e=>VX E (a0::a1::a2::o::q) q (lenL s.L+holesOf [a0,a1,a2]+slotsOf o) (s1.app o.dst e) [] (regK false (a0::a1::a2::o::q) fun s=>Q .normal s)) (hg:isG gs o=true:=by with_unfolding_all exact rfl) :
  awp E.P nb (.region id (a0::a1::a2::o::q).toArray false) Q s:=r_gr gs [a0,a1,a2] o q hg h
theorem r_gr4 {E:Env} {nb:Nat} {Q:Exit→ASt→Prop} {s:ASt} {id:Nat} (gs:List Nat) {a0 a1 a2 a3 o:Oper} {q:List Oper} 
  (h:VX E (a0::a1::a2::a3::o::q) [a0,a1,a2,a3] (lenL s.L) { s with L:=addL s.L (holesOf (a0::a1::a2::a3::o::q)) } [] fun s1 _=>gstep E o (lenL s.L+holesOf [a0,a1,a2,a3]) s1 fun e=>VX E (a0::a1::a2::a3::o::q) q (lenL s.L+holesOf [a0,a1,a2,a3]+slotsOf o) (s1.app o.dst e) [] (regK false (a0::a1::a2::a3::o::q) fun s=>Q .normal s)) (hg:isG gs o=true:=by with_unfolding_all exact rfl) :
  awp E.P nb (.region id (a0::a1::a2::a3::o::q).toArray false) Q s:=r_gr gs [a0,a1,a2,a3] o q hg h
theorem r_gr5 {E:Env} {nb:Nat} {Q:Exit→ASt→Prop} {s:ASt} {id:Nat} (gs:List Nat) {a0 a1 a2 a3 a4 o:Oper} {q:List Oper} 
  (h:VX E (a0::a1::a2::a3::a4::o::q) [a0,a1,a2,a3,a4] (lenL s.L) { s with L:=addL s.L (holesOf (a0::a1::a2::a3::a4::o::q)) } [] fun s1 _=>gstep E o (lenL s.L+holesOf [a0,a1,a2,a3,a4]) s1 fun e=>VX E (a0::a1::a2::a3::a4::o::q) q (lenL s.L+holesOf [a0,a1,a2,a3,a4]+slotsOf o) (s1.app o.dst e) [] (regK false (a0::a1::a2::a3::a4::o::q) fun s=>Q .normal s)) (hg:isG gs o=true:=by with_unfolding_all exact rfl) :
  awp E.P nb (.region id (a0::a1::a2::a3::a4::o::q).toArray false) Q s:=r_gr gs [a0,a1,a2,a3,a4] o q hg h
theorem r_gr6 {E:Env} {nb:Nat} {Q:Exit→ASt→Prop} {s:ASt} {id:Nat} (gs:List Nat) {a0 a1 a2 a3 a4 a5 o:Oper} {q:List Oper} 
  (h:VX E (a0::a1::a2::a3::a4::a5::o::q) [a0,a1,a2,a3,a4,a5] (lenL s.L) { s with L:=addL s.L (holesOf (a0::a1::a2::a3::a4::a5::o::q)) } [] fun s1 _=>gstep E o (lenL s.L+holesOf [a0,a1,a2,a3,a4,a5]) s1 fun e=>VX E (a0::a1::a2::a3::a4::a5::o::q) q (lenL s.L+holesOf [a0,a1,a2,a3,a4,a5]+slotsOf o) (s1.app o.dst e) [] (regK false (a0::a1::a2::a3::a4::a5::o::q) fun s=>Q .normal s)) (hg:isG gs o=true:=by with_unfolding_all exact rfl) :
  awp E.P nb (.region id (a0::a1::a2::a3::a4::a5::o::q).toArray false) Q s:=r_gr gs [a0,a1,a2,a3,a4,a5] o q hg h
theorem r_gr7 {E:Env} {nb:Nat} {Q:Exit→ASt→Prop} {s:ASt} {id:Nat} (gs:List Nat) {a0 a1 a2 a3 a4 a5 a6 o:Oper} {q:List Oper} 
  (h:VX E (a0::a1::a2::a3::a4::a5::a6::o::q) [a0,a1,a2,a3,a4,a5,a6] (lenL s.L) { s with L:=addL s.L (holesOf (a0::a1::a2::a3::a4::a5::a6::o::q)) } [] fun s1 _=>gstep E o (lenL s.L+holesOf [a0,a1,a2,a3,a4,a5,a6]) s1 fun e=>VX E (a0::a1::a2::a3::a4::a5::a6::o::q) q (lenL s.L+holesOf [a0,a1,a2,a3,a4,a5,a6]+slotsOf o) (s1.app o.dst e) [] (regK false (a0::a1::a2::a3::a4::a5::a6::o::q) fun s=>Q .normal s)) (hg:isG gs o=true:=by with_unfolding_all exact rfl) :
  awp E.P nb (.region id (a0::a1::a2::a3::a4::a5::a6::o::q).toArray false) Q s:=r_gr gs [a0,a1,a2,a3,a4,a5,a6] o q hg h
theorem r_gr8 {E:Env} {nb:Nat} {Q:Exit→ASt→Prop} {s:ASt} {id:Nat} (gs:List Nat) {a0 a1 a2 a3 a4 a5 a6 a7 o:Oper} {q:List Oper} 
  (h:VX E (a0::a1::a2::a3::a4::a5::a6::a7::o::q) [a0,a1,a2,a3,a4,a5,a6,a7] (lenL s.L) { s with L:=addL s.L (holesOf (a0::a1::a2::a3::a4::a5::a6::a7::o::q)) } [] fun s1 _=>gstep E o (lenL s.L+holesOf [a0,a1,a2,a3,a4,a5,a6,a7]) s1 fun e=>VX E (a0::a1::a2::a3::a4::a5::a6::a7::o::q) q (lenL s.L+holesOf [a0,a1,a2,a3,a4,a5,a6,a7]+slotsOf o) (s1.app o.dst e) [] (regK false (a0::a1::a2::a3::a4::a5::a6::a7::o::q) fun s=>Q .normal s)) (hg:isG gs o=true:=by with_unfolding_all exact rfl) :
  awp E.P nb (.region id (a0::a1::a2::a3::a4::a5::a6::a7::o::q).toArray false) Q s:=r_gr gs [a0,a1,a2,a3,a4,a5,a6,a7] o q hg h
theorem r_gr9 {E:Env} {nb:Nat} {Q:Exit→ASt→Prop} {s:ASt} {id:Nat} (gs:List Nat) {a0 a1 a2 a3 a4 a5 a6 a7 a8 o:Oper} {q:List Oper} 
  (h:VX E (a0::a1::a2::a3::a4::a5::a6::a7::a8::o::q) [a0,a1,a2,a3,a4,a5,a6,a7,a8] (lenL s.L) { s with L:=addL s.L (holesOf (a0::a1::a2::a3::a4::a5::a6::a7::a8::o::q)) } [] fun s1 _=>gstep E o (lenL s.L+holesOf [a0,a1,a2,a3,a4,a5,a6,a7,a8]) s1 fun e=>VX E (a0::a1::a2::a3::a4::a5::a6::a7::a8::o::q) q (lenL s.L+holesOf [a0,a1,a2,a3,a4,a5,a6,a7,a8]+slotsOf o) (s1.app o.dst e) [] (regK false (a0::a1::a2::a3::a4::a5::a6::a7::a8::o::q) fun s=>Q .normal s)) (hg:isG gs o=true:=by with_unfolding_all exact rfl) :
  awp E.P nb (.region id (a0::a1::a2::a3::a4::a5::a6::a7::a8::o::q).toArray false) Q s:=r_gr gs [a0,a1,a2,a3,a4,a5,a6,a7,a8] o q hg h
theorem r_gr10 {E:Env} {nb:Nat} {Q:Exit→ASt→Prop} {s:ASt} {id:Nat} (gs:List Nat) {a0 a1 a2 a3 a4 a5 a6 a7 a8 a9 o:Oper} {q:List Oper} 
  (h:VX E (a0::a1::a2::a3::a4::a5::a6::a7::a8::a9::o::q) [a0,a1,a2,a3,a4,a5,a6,a7,a8,a9] (lenL s.L) { s with L:=addL s.L (holesOf (a0::a1::a2::a3::a4::a5::a6::a7::a8::a9::o::q)) } [] fun s1 _=>gstep E o (lenL s.L+holesOf [a0,a1,a2,a3,a4,a5,a6,a7,a8,a9]) s1 fun e=>VX E (a0::a1::a2::a3::a4::a5::a6::a7::a8::a9::o::q) q (lenL s.L+holesOf [a0,a1,a2,a3,a4,a5,a6,a7,a8,a9]+slotsOf o) (s1.app o.dst e) [] (regK false (a0::a1::a2::a3::a4::a5::a6::a7::a8::a9::o::q) fun s=>Q .normal s)) (hg:isG gs o=true:=by with_unfolding_all exact rfl) :
  awp E.P nb (.region id (a0::a1::a2::a3::a4::a5::a6::a7::a8::a9::o::q).toArray false) Q s:=r_gr gs [a0,a1,a2,a3,a4,a5,a6,a7,a8,a9] o q hg h
structure endX (E:Env) (rs:List ResultVar) (nb:Nat) {G:Type} (r:G→AV) (L':G→List Ob) (ex:Exit) (s:ASt):Prop where
 run:∃ g,endA E rs nb (r g) (L' g) ex s
end
theorem endX_i {E:Env} {rs:List ResultVar} {nb:Nat} {G:Type} {r:G→AV} {L':G→List Ob} {ex:Exit} {s:ASt} (g:G) (h:endA E rs nb (r g) (L' g) ex s):endX E rs nb r L' ex s:=⟨g,h⟩
@[congr] theorem endX_congr {E:Env} {rs:List ResultVar} {nb:Nat} {G:Type} {r:G→AV} {L':G→List Ob} {ex:Exit} {s s':ASt} (h:s=s'):endX E rs nb r L' ex s=endX E rs nb r L' ex s':=by rw [h]
section
variable [Glob]
theorem yC {E:Env} {f:FuncId} {fn:Func} {c:Code} {args:List AV} {L:List Ob} {G:Type} {r:G→AV} {L':G→List Ob} (n:Nat) (rs:List ResultVar) (hf:E.P.funcs[f]? = some fn) (hb:fn.body=some c) (hnt:fn.ntmps=n) (hrs:fn.results.toList=rs) (hname:(fn.name == "runtime.NumGoroutine")=false) (hn:Nat.ble args.length n=true)
  (hl:∀ g,Nat.ble L.length (L' g).length=true) (h:awp E.P L.length c (endX E rs L.length r L') ⟨n,initA 0 args,someL L⟩):ACallsX E.P f args L r L':=by
 subst hnt
 subst hrs
 refine ⟨⟨fn,hf,by rw [hb];rfl,hname⟩,fun g=>Nat.le_of_ble_eq_true (hl g),fun Z lb w vals ho hr=>?_⟩
 have hn:=Nat.le_of_ble_eq_true hn
 have hlen:=hr.length
 have hst:St Z lb ⟨fn.ntmps,initA 0 args,someL L⟩ { tmps:=vals.toArray++Array.replicate (fn.ntmps - vals.toArray.size) undef,defers:=[] } w:=by
  refine ⟨by rw [someL_eq];exact ho,?_,rfl,by simp;omega⟩
  intro d x hx
  obtain ⟨_,hy⟩:=initA_get hx
  rw [Nat.sub_zero] at hy
  obtain ⟨u,h1,h2⟩:=hr.get d x hy
  have hdl:d<vals.length:=by
   rcases Nat.lt_or_ge d vals.length with h' | h'
   ·exact h'
   ·simp [List.getElem?_eq_none h'] at h1
  refine ⟨u,?_,h2⟩
  rw [Array.getElem?_append_left (by simpa using hdl)]
  simpa using h1
 refine calls_of_wp hf hb (wp_mono (h.run Z lb _ w hst) ?_)
 rintro ex a' w' ⟨Z',lb',s',h1,h2,⟨g,h3⟩⟩
 have fin:(withC (resVals E s' fn.results.toList) fun xs=>wkAll L.length ⟨1,[(0,some (resAll xs))],s'.L⟩ ⟨1,[(0,some (r g))],someL (L' g)⟩ (sgOf L.length ⟨1,[(0,some (resAll xs))],s'.L⟩ [(0,some (r g))] (someL (L' g)))) →
   a'.defers=[]∧∃ v,(results fn a'.tmps).run E.P w'=.ok v w'∧∃ g u Z' lb',Ending.returned v=.returned u∧Own Z' lb' ((L' g).map some) w'∧ARep Z' lb' w' (r g) u ∧
    w'.os=w.os∧w'.tape=w.tape∧OutD w w'∧w.heap.size≤w'.heap.size∧Keep Z w w'∧(∀ b,Z b→Z' b)∧(∀ b,Z' b→b<w.heap.size→Z b∨∃ i:Nat,lb[i]? = some (some (some b)))∧BsLe w w' ∧
    (∀ b,b<w.heap.size→(∀ i:Nat,lb[i]?≠some (some (some b)))→w'.heap[b]? = w.heap[b]?)∧(∀ (i:Nat) b,lb'[i]? = some (some (some b))→(∃ j:Nat,lb[j]? = some (some (some b)))∨w.heap.size≤b) ∧
    (∀ (i:Nat) x,i<L.length→lb[i]? = some (some x)→lb'[i]? = some (some x)):=by
  intro h3
  obtain ⟨xs,hxs,h3⟩:=withC_some h3
  obtain ⟨u,hrun,hrep⟩:=run_results h2 hxs
  have hst2:St Z' lb' ⟨1,[(0,some (resAll xs))],s'.L⟩ { tmps:=#[u],defers:=[] } w':=by
   refine ⟨h2.own,?_,rfl,rfl⟩
   intro d x hx
   simp only [tget] at hx
   split at hx
   ·rename_i hb
    have:=Nat.eq_of_beq_eq_true hb
    subst this
    simp only [Option.some.injEq] at hx
    subst hx
    exact ⟨u,rfl,hrep⟩
   ·simp at hx
  obtain ⟨Z2,lb2,e2,st2⟩:=wk_auto (s':=⟨1,[(0,some (r g))],someL (L' g)⟩) h3 Z' lb' _ w' hst2
  obtain ⟨u',k1,k2⟩:=st2.tm 0 (r g) rfl
  simp at k1
  subst k1
  have e:=h1.trans e2
  refine ⟨h2.df,u,hrun,g,u,Z2,lb2,rfl,by rw [← someL_eq];exact st2.own,k2,e.os,e.tape,e.output,e.size,e.keep,e.z1,e.z2,e.bs,e.hp,e.fresh,e.kp⟩
 cases ex with
 | normal=>exact fin h3
 | ret=>exact fin h3
 | _=>exact h3.elim
end
@[congr] theorem renAs_congr {f:Nat→Nat} {l l':List AV} (h:l=l'):renAs f l=renAs f l':=by rw [h]
@[congr] theorem renA_congr {f:Nat→Nat} {l l':AV} (h:l=l'):renA f l=renA f l':=by rw [h]
@[congr] theorem renO_congr {f:Nat→Nat} {l l':Ob} (h:l=l'):renO f l=renO f l':=by rw [h]
@[congr] theorem lentObs_congr {ℓ:Nat→Option (Option Ob)} {f:Nat→Nat} {l l':List Nat} (h:l=l'):lentObs ℓ f l=lentObs ℓ f l':=by rw [h]
section
variable [Glob]
@[congr] theorem gstep_congr {E:Env} {o:Oper} {r r':Nat} {s s':ASt} {K:Eff→Prop} (h1:r=r') (h2:s=s'):gstep E o r s K=gstep E o r' s' K:=by rw [h1,h2]
@[congr] theorem gop_congr {E:Env} {o:Oper} {r r':Nat} {ρ:Operand→Option AV} {ℓ:Nat→Option (Option Ob)} {K:Eff→Prop} (h:r=r'):gop E o r ρ ℓ K=gop E o r' ρ ℓ K:=by rw [h]
@[congr] theorem gCall_congr {E:Env} {r r':Nat} {f:Operand} {args args':List Operand} {ρ:Operand→Option AV} {ℓ:Nat→Option (Option Ob)} {K:Eff→Prop} (h:r=r') (h2:args=args'):gCall E r f args ρ ℓ K=gCall E r' f args' ρ ℓ K:=by rw [h,h2]
end
@[congr] theorem gAppend_congr {E:Env} {r r':Nat} {T T2:TypeId} {x y:Operand} {ρ:Operand→Option AV} {ℓ:Nat→Option (Option Ob)} {K:Eff→Prop} (h:r=r'):gAppend E r T T2 x y ρ ℓ K=gAppend E r' T T2 x y ρ ℓ K:=by rw [h]
section
variable [Glob]
@[congr] theorem lendX_congr {E:Env} {r r':Nat} {g:FuncId} {ℓ:Nat→Option (Option Ob)} {xa xa':List AV} {K:Eff→Prop} (h:r=r') (h2:xa=xa'):lendX E r g ℓ xa K=lendX E r' g ℓ xa' K:=by rw [h,h2]
@[congr] theorem lendK_congr {E:Env} {r r':Nat} {g:FuncId} {ℓ:Nat→Option (Option Ob)} {xa xa':List AV} {K:Eff→Prop} (h:r=r') (h2:xa=xa'):lendK E r g ℓ xa K=lendK E r' g ℓ xa' K:=by rw [h,h2]
end
attribute [go_sem] gstep gop gCall gAppend lendX
end Go.Ab
namespace Go.Ab
section
variable [Glob]
theorem Own.swap {Z:Nat→Prop} {lb:Lb} {L:List (Option Ob)} {w:World} (h:Own Z lb L w) {i:Nat} {o o':Ob} (hi:L[i]? = some (some o)) (hl:o'.live→o.live) (hob:∀ x,lb[i]? = some (some x)→ObAt Z lb w o x→ObAt Z lb w o' x):Own Z lb (L.set i (some o')) w:=by
 have hs:St Z lb ⟨0,[],L⟩ { tmps:=#[],defers:=[] } w:=⟨h,fun d x hx=>by simp [tget] at hx,rfl,rfl⟩
 have:=(hs.swap hi hl hob).own
 rwa [setL_eq] at this
theorem acalls_mp {P:Program} {f:FuncId} {args:List AV} {L L':List Ob} {r:AV} (i:Nat) (kk:Option IntKind) (ek:EK) (hi:L[i]? = some (.mp kk ek)) (hi':L'[i]? = some (.mp kk ek)) (hc:Callable P f) (hl:L.length≤L'.length)
  (h:∀ es cl,MapIs kk ek es cl→ACalls P f args (L.set i (.mpx kk es cl)) r (L'.set i (.mpx kk es cl))):ACalls P f args L r L':=by
 refine ⟨hc,hl,fun Z lb w vals ho hr=>?_⟩
 have hi2:(L.map some)[i]? = some (some (.mp kk ek)):=by simp [hi]
 obtain ⟨x,g1,g2⟩:=ho.obj i _ hi2
 cases x with
 | none=>exact g2.elim
 | some b =>
  obtain ⟨z1,z2,es,cl,hh,hm⟩:=g2
  have ho2:=ho.swap (o':=.mpx kk es cl) hi2 (fun _=>trivial) (fun x hx _=>by
   rw [g1] at hx
   simp only [Option.some.injEq] at hx
   subst hx
   exact ⟨z1,z2,hh⟩)
  rw [← List.map_set] at ho2
  refine ((h es cl hm).2.2 Z lb w vals ho2 hr).mono ?_
  rintro e w' ⟨u,Z',lb',he,ho',har,q1,q2,q3,q4,q5,q6,q7,q8,q9,q10,q11⟩
  have hlt:i<L'.length:=by
   rcases Nat.lt_or_ge i L'.length with h' | h'
   ·exact h'
   ·simp [List.getElem?_eq_none h'] at hi'
  have hi3:((L'.set i (.mpx kk es cl)).map some)[i]? = some (some (.mpx kk es cl)):=by simp [hlt]
  have ho3:=ho'.swap (o':=.mp kk ek) hi3 (fun _=>trivial) (fun x hx hob=>by
   cases x with
   | none=>exact hob.elim
   | some b'=>exact ⟨hob.1,hob.2.1,es,cl,hob.2.2,hm⟩)
  have hback:L'.set i (.mp kk ek)=L':=by
   apply List.ext_getElem?
   intro j
   by_cases e:i=j
   ·subst e;rw [List.getElem?_set_self hlt,hi']
   ·rw [List.getElem?_set_ne e]
  rw [← List.map_set,List.set_set,hback] at ho3
  exact ⟨u,Z',lb',he,ho3,har,q1,q2,q3,q4,q5,q6,q7,q8,q9,q10,fun j y hj hy=>q11 j y (by simpa using hj) hy⟩
end
end Go.Ab
namespace Go.Ab
theorem r_arr [Glob] {P:Program} {nb:Nat} {c:Code} {Q:Exit→ASt→Prop} {s:ASt} (k:Nat) (es:List UInt8) (hk:nth s.L k=some (some (.var (mapP (es.map eB))))) (hb:es.length≤1000000)
  (h:awp P nb c Q { s with L:=setL s.L k (some (.arr 1 (es.map eB))) }):awp P nb c Q s:=by
 refine ⟨fun Z lb a w hs=>?_⟩
 rw [nth_eq] at hk
 refine h.run Z lb a w (hs.swap hk (fun _=>trivial) fun x hx hob=>?_)
 cases x with
 | none=>exact hob.elim
 | some b =>
  obtain ⟨h1,h2,vs,ty,fr,g1,g2,g3,g4⟩:=hob
  rw [mapP_eq,areps_p] at g1
  have hl:=g1.length
  have hone:∀ u,u∈vs→vcells u=[u]:=fun u hu=>by
   obtain ⟨i,hi,rfl⟩:=List.mem_iff_getElem.1 hu
   obtain ⟨e,he⟩:∃ e,(es.map eB)[i]? = some e:=⟨_,List.getElem?_eq_getElem (by rw [← hl];exact hi)⟩
   obtain ⟨u,hu1,hu2⟩:=g1.get i e he
   rw [List.getElem?_eq_getElem hi] at hu1
   rw [Option.some.inj hu1]
   obtain ⟨y,_,rfl⟩:=List.mem_map.1 (List.mem_of_getElem? he)
   simp only [eB,Rep] at hu2
   rw [hu2.1];rfl
  refine ⟨h1,h2,vs,vs.toArray,ty,fr,g1,Nat.le_refl _,fun u hu=>⟨by rw [hone u hu];rfl,by rw [hone u hu];exact fun y hy=>by simp at hy;subst hy;exact g2 _ hu⟩,g3,(by simpa using g4.mono (Nat.le_succ _)),fun i u hu j c hc=>?_,?_,?_⟩
  ·have hm:=List.mem_of_getElem? hu
   rw [hone u hm] at hc
   cases j with
   | succ j=>simp at hc
   | zero=>simp at hc;subst hc;simpa using hu
  ·rw [hl];simp [big];omega
  ·simp
abbrev encB:UInt8→Value:=fun b=>Value.int .u8 (b.toNat:Int)
theorem ac_fill [Glob] {P:Program} {f:FuncId} (hc:Callable P f) (A D:List UInt8) (nd:Nat) (hn:nd≤A.length) (hD:D.length=nd) (h0:0<nd) (x:Value)
  (h:∀ b cap w,Sort.Holds encB w b 0 (A.take nd).toArray→(∃ Z,ZOk Z w)→Calls P f #[.slice (some ⟨b,0,none⟩) nd cap,x] w fun e w'=>e=.returned (.tuple #[])∧∃ n,w'=(Sort.putRow encB w b 0 D.toArray).drewN n) :
  ACalls P f [.sl 0 1 0 nd,.p (.v x)] [.arr 1 (A.map eB)] (.p (.tup [])) [.arr 1 ((D++A.drop nd).map eB)]:=by
 refine ⟨hc,Nat.le_refl _,fun Z lb w vals o hv=>?_⟩
 simp only [AReps] at hv
 obtain ⟨u1,_,rfl,h1,u2,_,rfl,h2,rfl⟩:=hv
 obtain ⟨y,hx,hob⟩:=o.obj 0 (.arr 1 (A.map eB)) rfl
 simp only [ARep,Rep] at h2
 obtain ⟨rfl,_⟩:=h2
 simp only [ARep] at h1
 rcases h1 with ⟨_,h,_⟩ | ⟨b,cap,hb,rfl,hcap,hbs⟩
 ·omega
 rw [hb] at hx
 simp only [Option.some.injEq] at hx
 subst hx
 obtain ⟨hzb,hlt,vs,arr,ty,fr,hr,_,hfit,hh,hfr,hcells,hbig,hsz⟩:=hob
 have hvl:vs.length=A.length:=by rw [hr.length];simp
 have hcell:∀ j (hj:j<A.length),arr[j]? = some (encB A[j]):=fun j hj=>by
  obtain ⟨u,hu1,hu2⟩:=hr.get j (eB A[j]) (by rw [List.getElem?_map,List.getElem?_eq_getElem hj];rfl)
  simp only [eB,Rep] at hu2
  have:=hcells j u hu1 0 u (by rw [hu2.1];rfl)
  rw [hu2.1] at this
  simpa using this
 have hH:Sort.Holds encB w b 0 (A.take nd).toArray:=fun j hj=>by
  have hjn:j<nd:=by simp at hj;omega
  rw [getElem!_pos (A.take nd).toArray j hj]
  have hc1:=hcell j (by omega)
  have hja:j<arr.size:=by
   rcases Nat.lt_or_ge j arr.size with h | h
   ·exact h
   ·rw [Array.getElem?_eq_none h] at hc1;simp at hc1
  rw [Nat.zero_add]
  refine ⟨by simp [World.cell?,hh,hc1],?_⟩
  have:=hfr.no j hja
  simp only [World.frozen?,hh]
  simp;omega
 have hargs:[Value.slice (some ⟨b,0*1,none⟩) nd cap,u2].toArray=#[.slice (some ⟨b,0,none⟩) nd cap,u2]:=by simp
 rw [hargs]
 refine (h b cap w hH ⟨Z,o.zlt⟩).mono ?_
 rintro e' w' ⟨rfl,n,rfl⟩
 have heap:((Sort.putRow encB w b 0 D.toArray).drewN n).heap=(Sort.putRow encB w b 0 D.toArray).heap:=by simp
 have hoth:∀ k,k≠b→((Sort.putRow encB w b 0 D.toArray).drewN n).heap[k]? = w.heap[k]?:=fun k hk=>by
  rw [heap]
  show (w.heap.modify b _)[k]? = _
  rw [Array.getElem?_modify,if_neg (fun e=>hk e.symm)]
 have hb':((Sort.putRow encB w b 0 D.toArray).drewN n).heap[b]? = some (.cells (Sort.putCells encB 0 D.toArray arr) ty fr):=by
  rw [heap]
  show (w.heap.modify b _)[b]? = _
  rw [Array.getElem?_modify,if_pos rfl,hh]
  rfl
 have hsize:((Sort.putRow encB w b 0 D.toArray).drewN n).heap.size=w.heap.size:=by rw [heap];exact Sort.size_putRow _ _ _ _ _
 have hkeep:Keep Z w ((Sort.putRow encB w b 0 D.toArray).drewN n):=fun k hk=>hoth k (fun e=>hzb (e ▸ hk))
 have hz':ZOk Z ((Sort.putRow encB w b 0 D.toArray).drewN n):=⟨fun k hk=>by rw [hsize];exact o.zlt.lt k hk,Glob.mono (fun _ h=>h) hkeep o.zlt.gl⟩
 have hpsz:(Sort.putCells encB 0 D.toArray arr).size=arr.size:=by simp [Sort.putCells]
 have hpc:∀ (i:Nat) (hi:i<A.length),(Sort.putCells encB 0 D.toArray arr)[i]? = some (encB ((D++A.drop nd).getD i 0)):=fun i hi=>by
  unfold Sort.putCells
  rw [Array.getElem?_mapIdx,hcell i hi]
  simp only [Option.map_some,Nat.zero_le,true_and,Nat.zero_add,List.size_toArray,Nat.sub_zero]
  congr 1
  by_cases hid:i<D.length
  ·rw [if_pos hid,getElem!_pos D.toArray i (by simpa using hid),List.getD_eq_getElem?_getD,List.getElem?_append_left hid,List.getElem?_eq_getElem hid];rfl
  ·rw [if_neg hid,List.getD_eq_getElem?_getD,List.getElem?_append_right (by omega),List.getElem?_drop,show nd+(i - D.length)=i by omega,List.getElem?_eq_getElem hi];rfl
 have hl2:(D++A.drop nd).length=A.length:=by simp;omega
 refine ⟨_,Z,lb,rfl,⟨o.len,fun i ob hi=>?_,fun i hi=>?_,fun i j o1 o2 c hi hj h1 h2 h3 h4=>?_,hz'⟩,by simp only [ARep,Rep,Reps];exact ⟨_,rfl,rfl⟩,by first | rfl | simp,by first | rfl | simp,⟨by first | rfl | simp,fun _=>?_⟩,Nat.le_of_eq hsize.symm,hkeep,fun _ h=>h,fun _ h _=>.inl h,fun k hk=>?_,fun k hk hn=>hoth k (fun e=>hn 0 (by rw [e];exact hb)),fun i k h=>.inl ⟨i,h⟩,fun _ _ _ h=>h⟩
 ·cases i with
  | succ i=>simp at hi
  | zero =>
   simp only [List.map_cons,List.map_nil,List.getElem?_cons_zero,Option.some.injEq] at hi
   subst hi
   refine ⟨some b,hb,hzb,by rw [hsize];exact hlt,(D++A.drop nd).map encB,_,ty,fr,?_,by decide,?_,hb',?_,?_,?_,?_⟩
   ·have:∀ l:List UInt8,Reps Z ((Sort.putRow encB w b 0 D.toArray).drewN n) (l.map eB) (l.map encB):=by
     intro l
     induction l with
     | nil=>rfl
     | cons y l ih=>simp only [List.map_cons,Reps,eB,Rep];exact ⟨_,_,rfl,⟨rfl,rfl⟩,ih⟩
    exact this _
   ·intro y hy
    obtain ⟨l,_,rfl⟩:=List.mem_map.1 hy
    exact ⟨rfl,fun y hy=>by simp [vcells,Value.cells] at hy;subst hy;rfl⟩
   ·rw [hpsz];exact hfr
   ·intro k u hk j c hc
    rw [List.getElem?_map] at hk
    obtain ⟨y,hy,rfl⟩:=Option.map_eq_some_iff.1 hk
    have hkl:k<A.length:=by rw [← hl2];exact (List.getElem?_eq_some_iff.1 hy).1
    cases j with
    | succ j=>simp [vcells,Value.cells] at hc
    | zero =>
     simp [vcells,Value.cells] at hc
     subst hc
     rw [Nat.mul_one,Nat.add_zero,hpc k hkl,List.getD_eq_getElem?_getD,hy];rfl
   ·rw [List.length_map,hl2,← hvl];exact hbig
   ·rw [List.length_map,hl2,hpsz,← hvl];exact hsz
 ·cases i with
  | succ i=>simp at hi
  | zero=>simp at hi
 ·cases i with
  | succ i=>simp at hi
  | zero=>cases j with
   | succ j=>simp at hj
   | zero=>rfl
 ·simp [World.drewN]
 ·rcases Nat.decEq k b with h | h
  ·simp only [bsize];rw [hoth k h]
  ·subst h;rw [bsize_of hb',bsize_of hh,hpsz]
end Go.Ab
namespace Go.Ab
section any
variable {E:Env} {A:Array Oper} {l:List Oper} {es:List (Option Eff)} {s0 s':ASt}
section
variable [Glob]
end
end any
section
variable [Glob]
def subN:List Nat→List Nat→Bool
 | [],_=>true
 | x::σ,T=>match elN x T with
  | true=>subN σ T
  | false=>false
def lendXT (T:List Nat) (E:Env) (rank:Nat) (g:FuncId) (ℓ:Nat→Option (Option Ob)) (xa:List AV) (K:Eff→Prop):Prop :=
 forceX (own1 ℓ (refAs xa)) fun l1=>dfsSK ℓ l1 [] (fun σ=>forceA (renAs (pos0 σ) xa) fun cas=>forceB (lentObs ℓ (pos0 σ) σ) fun Lc =>
  (renAs (atF σ rank) cas=xa∧inBs σ.length cas=true∧lentOk ℓ (atF σ rank) σ.length σ Lc∧freshN σ=true∧subN σ T=true) ∧
   callX E g cas Lc (fun r L'=>afterA ℓ rank σ σ L' [] fun wr=>K ⟨some (renA (atF σ rank) r),[],wr⟩) ⟨⟩) ⟨⟩
def gCallT (T:List Nat) (E:Env) (rank:Nat) (f:Operand) (args:List Operand):Vop:=fun ρ ℓ K=>withV (ρ f) fun
 | .p (.fn g caps)=>withC (gatherA ρ args) fun xa=>forceA (appA xa (mapP caps)) fun l=>lendXT T E rank g ℓ l K
 | _=>False
def disN (T l:List Nat):Bool:=l.all fun x=>!elN x T
def disB:Nat→List Nat→List FP→Bool
 | 0,_,_=>true
 | n+1,T,a::r=>disN T a.rd && (disN T a.wr && disB n T r)
 | _+1,_,[]=>false
structure dxQ (b:Bool) (A:Prop) (_:Tag A:=⟨⟩):Prop where
 chk:b=true
 run:A
def dxK2 (E:Env) (T:List Nat) (v0:AV) (ops q:List Oper) (rank:Nat) (dst:Option Tmp) (f:Operand) (args:List Operand) (Q:Exit→ASt→Prop) (s1:ASt) (s2:ASt) (fps:List FP):Prop :=
 dxQ (chkB ops fps && disB q.length T fps) <| onB (okDst s1.n dst) <| forceI rank (fun rank=>gCallT T E rank f args (ev s1.t) (nth s1.L) fun e=>subN (touch e) T=true∧(subN T (e.wr.map (·.1))=true∧(e.val=some v0∧Q .normal { s2 with L:=setAll s2.L e.wr }))) ⟨⟩
def dxK (E:Env) (T:List Nat) (v0:AV) (ops q:List Oper) (rank r1:Nat) (dst:Option Tmp) (f:Operand) (args:List Operand) (oX:Oper) (Q:Exit→ASt→Prop) (s1:ASt) (f1:List FP):Prop :=
 VX E ops q r1 (s1.app dst ⟨some v0,[],deads T⟩) (fpOf oX none (some ⟨some v0,[],deads T⟩)::f1) (dxK2 E T v0 ops q rank dst f args Q s1)
end
@[congr] theorem dxQ_congr {b b':Bool} {A:Prop} {t:Tag A} (h:b=b'):dxQ b A t=dxQ b' A t:=by rw [h]
attribute [go_sem ↓] gCallT lendXT
attribute [go_sem] subN touch dxK dxK2
end Go.Ab
namespace Go.Ab
set_option linter.unusedSectionVars false
section
variable [Glob]
def Nb (N:Nat) (g:Value):Prop:=∀ a n cap,g=.slice (some a) n cap→n=0∨N≤a.block
theorem rv_own {Z:Nat→Prop} {lb:Lb} {w:World} {sz n:Nat} {es:List PV} {u:Value} (ho:Own Z lb [some (.arr sz es)] w) (hr:ARep Z lb w (.sl 0 sz 0 n) u) (hn:n=es.length) :
  ∃ Zn:Nat→Prop,(∀ b,Z b→Zn b)∧(∀ b,Zn b→Z b∨∃ i:Nat,lb[i]? = some (some (some b)))∧ZOk Zn w∧Rep Zn w (.rv u (.view sz es)) u∧(∀ a m cap,u=.slice (some a) m cap→m=0∨lb[0]? = some (some (some a.block))):=by
 obtain ⟨y,rfl,hy⟩:=toPV_rep (σ:=[]) ho (.sl 0 sz 0 n) u (fun y=>y=.view sz es) (by
  refine ⟨⟨by simp,rfl⟩,es,?_,hn.symm,rfl⟩
  rw [subE_eq,List.drop_zero,hn,List.take_length]) hr
 have hz:∀ b,frz [] [some (.arr sz es)] lb Z b→Z b∨∃ i:Nat,lb[i]? = some (some (some b)):=by
  rintro b (h | ⟨i,_,_,_,h,_⟩)
  ·exact .inl h
  ·exact .inr ⟨i,h⟩
 refine ⟨_,fun b h=>.inl h,hz,⟨?_,Glob.mono (fun _ h=>.inl h) (fun _ _=>rfl) ho.zlt.gl⟩,?_,?_⟩
 ·rintro b (h | ⟨i,sz2,es2,k1,k2,_⟩)
  ·exact ho.zlt.lt b h
  ·obtain ⟨x,k3,k4⟩:=ho.obj i _ k1
   rw [k2] at k3
   simp only [Option.some.injEq] at k3
   subst k3
   exact k4.2.1
 ·simp only [ARep] at hr
  refine ⟨rfl,?_,hy,?_⟩
  ·rcases hr with ⟨_,_,_,rfl⟩ | ⟨b,cap,_,rfl,_⟩<;>rfl
  ·intro a m cap e
   rcases hr with ⟨_,_,_,rfl⟩ | ⟨b,cap2,a1,rfl,_⟩
   ·cases e
   ·cases e
    obtain ⟨vs,arr,ty,fr,g1,g2,g3,g4,g5,g6,g7,g8⟩:=obj_arr ho (k:=0) rfl a1
    exact .inr ⟨.inr ⟨0,sz,es,rfl,a1,by simp⟩,arr,ty,fr,g4,g5⟩
 ·intro a m cap e
  simp only [ARep] at hr
  rcases hr with ⟨_,_,_,rfl⟩ | ⟨b,cap2,a1,rfl,_⟩
  ·cases e
  ·cases e;exact .inr a1
theorem acx_own {P:Program} {f:FuncId} {args:List AV} {G:Type} {r:G→AV} {r':G→Value→PV} {sz:Nat} {n:G→Nat} {es:G→List PV} (N:Nat) (hN:∀ Z w,ZOk Z w→N≤w.heap.size) (h:ACallsX P f args [] r (fun g=>[.arr sz (es g)])) (hn:∀ g,n g=(es g).length)
  (hC:∀ q Z lb w u,ARep Z lb w (r q) u→∃ g,ARep Z lb w (.sl 0 sz 0 (n q)) g∧∀ Zn:Nat→Prop,(∀ b,Z b→Zn b)→Rep Zn w (.rv g (.view sz (es q))) g→Rep Zn w (r' q g) u) :
  ACallsX P f args [] (fun g:{ p:G × Value // Nb N p.2 }=>.p (r' g.1.1 g.1.2)) (fun _=>[]):=by
 refine ⟨h.1,fun _=>Nat.le_refl _,fun Z lb w vals ho hr=>(h.2.2 Z lb w vals ho hr).mono ?_⟩
 rintro e w' ⟨q,u,Z',lb',h1,h2,h3,h4,h5,h6,h7,h8,h9,h10,h11,h12,h13,h14⟩
 obtain ⟨g,k1,k2⟩:=hC q Z' lb' w' u h3
 obtain ⟨Zn,z1,z2,z3,z4,z5⟩:=rv_own h2 k1 (hn q)
 have hlb:lb=[]:=List.length_eq_zero_iff.1 ho.len
 subst hlb
 have hnew:∀ (i:Nat) b,lb'[i]? = some (some (some b))→w.heap.size≤b:=fun i b hb=>by
  rcases h13 i b hb with ⟨j,h⟩ | h
  ·simp at h
  ·exact h
 refine ⟨⟨(q,g),fun a m cap e=>(z5 a m cap e).imp id fun hb=>Nat.le_trans (hN Z w ho.zlt) (hnew 0 _ hb)⟩,u,Zn,[],h1,⟨rfl,by simp,by simp,by simp,z3⟩,?_,h4,h5,h6,h7,h8,fun b hb=>z1 b (h9 b hb),?_,h11,h12,fun i b h=>by simp at h,fun i x hi=>by simp at hi⟩
 ·simp only [ARep];exact k2 Zn z1 z4
 ·intro b hb hlt
  rcases z2 b hb with h | ⟨i,h⟩
  ·exact h10 b h hlt
  ·have:=hnew i b h;omega
theorem acx_nil {P:Program} {f:FuncId} {args:List PV} {r:PV} {r':Value→PV} (N:Nat) (h:PCalls P f args r) (hC:∀ Z w u,Rep Z w r u→∃ g,Nb N g∧Rep Z w (r' g) u) :
  ACallsX P f (args.map .p) [] (fun g:{ g:Value // Nb N g }=>.p (r' g.1)) (fun _=>[]):=by
 refine ⟨h.1,fun _=>Nat.le_refl _,fun Z lb w vals ho hr=>(h.2 Z w vals ho.zlt (areps_p.1 hr)).mono ?_⟩
 rintro e w' ⟨u,Z',h1,h2,h3,h4⟩
 obtain ⟨g,k1,k2⟩:=hC Z' w' u h4
 have hlb:lb=[]:=List.length_eq_zero_iff.1 ho.len
 subst hlb
 exact ⟨⟨g,k1⟩,u,Z',[],h1,⟨rfl,by simp,by simp,by simp,h3⟩,by simpa only [ARep] using k2,h2.os,h2.tape,h2.output,h2.size,h2.keep,h2.z1,h2.z2,h2.bs,h2.hp,fun i b h=>by simp at h,fun i x hi=>by simp at hi⟩
def gwp (P:Program) (c:Code) (QF:Exit→Act→World→Prop) (s:ASt) (Z0:Nat→Prop) (lb0:Lb) (w0:World):Prop :=
 ∀ Z lb a w,St Z lb s a w→Ext 0 Z0 lb0 w0 Z lb w→c.wp P QF a w
def gthen (P:Program) (y:Code) (QF:Exit→Act→World→Prop) (Z0:Nat→Prop) (lb0:Lb) (w0:World):Exit→ASt→Prop
 | .normal,s=>gwp P y QF s Z0 lb0 w0
 | _,_=>False
theorem owp_mono {P:Program} {o:Oper} {a:Act} {w:World} {K K':Act→World→Prop} {Q Q':Exit→Act→World→Prop} (h:∀ a' w',(∃ v,a'.tmps=(a.put o.dst v).tmps)→K a' w'→K' a' w') (hq:∀ e a w,e≠.normal→Q e a w→Q' e a w)
  (hh:o.wp P a w K Q):o.wp P a w K' Q':=by
 unfold Oper.wp at *
 generalize (execOp a.eval o).run P w=r at *
 cases r with
 | ok n w' =>
  cases n with
  | value v=>exact h _ _ ⟨v,rfl⟩ hh
  | skip=>exact h _ _ ⟨undef,rfl⟩ hh
  | defer d=>exact h _ _ ⟨undef,by cases h:o.dst<;>simp [Act.put,h]⟩ hh
  | enter f args =>
   refine Calls.mono hh (fun e w'' he=>?_)
   cases e with
   | returned v=>exact h _ _ ⟨v,rfl⟩ he
   | panicked c=>exact hq _ _ _ (by simp) he
   | outgrown=>obtain ⟨a,w,he⟩:=he;exact ⟨a,w,hq _ _ _ (by simp) he⟩
  | row r args=>exact Rows.mono hh fun v w'' he=>h _ _ ⟨v,rfl⟩ he
  | _=>exact hh
 | halt x w' =>
  cases x with
  | panic v=>exact hq _ _ _ (by simp) hh
  | _=>exact hh
theorem letsOut_mono {Q Q':Exit→Act→World→Prop} (hq:∀ e a w,e≠.normal→Q e a w→Q' e a w) (h:LetsOut Q):LetsOut Q':=by
 obtain ⟨a,w,h⟩:=h;exact ⟨a,w,hq _ _ _ (by simp) h⟩
theorem wpList_app {P:Program} {A:Array Oper} {Q Q1:Exit→Act→World→Prop} {l2:List Oper} (hn:∀ a w,Q1 .normal a w→wpList P A Q l2 a w) (hq:∀ e a w,e≠.normal→Q1 e a w→Q e a w):∀ {l1:List Oper} {a:Act} {w:World},wpList P A Q1 l1 a w→wpList P A Q (l1++l2) a w
 | [],a,w,h=>hn a w h
 | o::l1,a,w,h=>by
  unfold wpList at h
  show wpList P A Q (o::(l1++l2)) a w
  unfold wpList
  split
  ·rename_i hw
   rw [if_pos hw] at h
   rcases h with h | ⟨h1,h2⟩
   ·exact .inl (owp_mono (fun a w _ h=>wpList_app hn hq h) hq h)
   ·exact .inr ⟨h1,letsOut_mono hq h2⟩
  ·rename_i hw
   rw [if_neg hw] at h
   exact wpList_app hn hq h
theorem put_other {a:Act} {o:Option Tmp} {v:Value} {t:Nat} (h:o≠some t):(a.put o v).tmps[t]? = a.tmps[t]?:=by
 cases o with
 | none=>rfl
 | some d =>
  have:d≠t:=fun e=>h (by rw [e])
  simp [Act.put,Array.getElem?_setIfInBounds,this]
theorem wpList_frame {P:Program} {A:Array Oper} {Q:Exit→Act→World→Prop}:∀ {l:List Oper} {a:Act} {w:World},wpList P A Q l a w→wpList P A (fun e a' w'=>Q e a' w'∧(e=.normal→∀ t:Nat,(∀ o,o∈l→o.dst≠some t)→a'.tmps[t]? = a.tmps[t]?)) l a w
 | [],a,w,h=>⟨h,fun _ _ _=>rfl⟩
 | o::l,a,w,h=>by
  have step:∀ {a1:Act} {w1:World} {v:Value},a1.tmps=(a.put o.dst v).tmps→wpList P A Q l a1 w1→wpList P A (fun e a' w'=>Q e a' w'∧(e=.normal→∀ t:Nat,(∀ x,x∈o::l→x.dst≠some t)→a'.tmps[t]? = a.tmps[t]?)) l a1 w1:=by
   intro a1 w1 v e hl
   have:=wpList_app (l2:=[]) (Q:=fun e a' w'=>Q e a' w'∧(e=.normal→∀ t:Nat,(∀ x,x∈o::l→x.dst≠some t)→a'.tmps[t]? = a.tmps[t]?)) (fun a' w' h=>⟨h.1,fun h0 t ht=>?_⟩) (fun e a' w' he h=>⟨h.1,fun h0=>absurd h0 he⟩) (wpList_frame hl)
   ·rwa [List.append_nil] at this
   ·rw [h.2 rfl t fun x hx=>ht x (List.mem_cons_of_mem _ hx),e]
    exact put_other (ht o List.mem_cons_self)
  unfold wpList at h ⊢
  split
  ·rename_i hw
   rw [if_pos hw] at h
   rcases h with h | ⟨h1,h2⟩
   ·exact .inl (owp_mono (fun a1 w1 ⟨v,e⟩ h=>step e h) (fun e a w he h=>⟨h,fun h0=>absurd h0 he⟩) h)
   ·exact .inr ⟨h1,letsOut_mono (fun e a w he h=>⟨h,fun h0=>absurd h0 he⟩) h2⟩
  ·rename_i hw
   rw [if_neg hw] at h
   exact step rfl h
theorem exec_store {E:Env} {P:Program} {o:Oper} {T:TypeId} {x y:Operand} (ho:o.op=.store T x y) {i:TyI} {d:TypeDesc} {inf:TypeInfo} {z:Value} (F:TyFacts P T i d inf z) {a:Act} {w:World} {b off:Nat} {c:Array Value} {ty:TypeId} {fr:Nat × Nat}
  (hx:a.eval x=.pointer (some ⟨b,off,none⟩)) (hlen:(vcells (a.eval y)).length=i.size) (h:w.heap[b]? = some (.cells c ty fr)) (hle:off+(vcells (a.eval y)).length≤c.size) (hf:Unfrozen fr c.size) (h1:AllOne (vcells (a.eval y))) :
  (execOp a.eval o).run P w=.ok .skip (wput w b (arrSplice c off (vcells (a.eval y)))):=by
 simp only [execOp,ho,hx,Instr.storeAt,Instr.sureAddr,Sem.run_bind,Sem.run_pure,Result.andThen_ok,run_storeVar F hlen h hle hf h1]
theorem wp_store {E:Env} {id:Nat} {pre:List Oper} {o:Oper} {s:ASt} {QF:Exit→Act→World→Prop} {Z:Nat→Prop} {lb:Lb} {a:Act} {w:World} {K:ASt→Prop} (hs:St Z lb s a w) (hg:o.guard=none)
  (h:VX E (pre++[o]) pre (lenL s.L) { s with L:=addL s.L (holesOf pre) } [] (fun s _=>K s))
  (hk:∀ Z' lb' s' a' w',Ext 0 Z lb w Z' lb' w'→St Z' lb' s' a' w'→K s'→(∀ t:Nat,(∀ x,x∈pre→x.dst≠some t)→a'.tmps[t]? = a.tmps[t]?)→∃ w2,(execOp a'.eval o).run E.P w'=.ok .skip w2∧QF .normal (a'.put o.dst undef) w2) :
  (Code.region id (pre++[o]).toArray false).wp E.P QF a w:=by
 obtain ⟨es,s',ht,hK⟩:=vexec_trace E (pre++[o]) pre _ _ _ _ h.run
 have hs1:=hs.addHoles (holesOf pre)
 have hext:=(hs.own.addHoles (holesOf pre)).2 0
 refine wp_region_lit ?_
 have h1:wpList E.P (pre++[o]).toArray (fun e a' w'=>e=.normal∧∃ Z' lb',Ext 0 Z lb w Z' lb' w'∧St Z' lb' s' a' w') pre a w :=
  seq_sound (ops:=pre++[o]) (by simp) ht hs1 fun Z' lb' a' w' st hs'=>⟨rfl,Z',lb',hext.trans (st.ext 0),hs'⟩
 refine wpList_app (fun a' w' h=>?_) (fun e a' w' he h=>absurd h.1.1 he) (wpList_frame h1)
 obtain ⟨⟨_,Z',lb',k1,k2⟩,k3⟩:=h
 obtain ⟨w2,k4,k5⟩:=hk Z' lb' s' a' w' k1 k2 hK (k3 rfl)
 unfold wpList
 rw [if_pos (by simp [Region.wanted,hg])]
 refine .inl ?_
 unfold Oper.wp
 rw [k4]
 exact k5
def splitLast {α:Type}:List α→Option (List α × α)
 | []=>none
 | x::l=>match l with
  | []=>some ([],x)
  | y::r=>match splitLast (y::r) with
   | some (p,o)=>some (x::p,o)
   | none=>none
theorem splitLast_eq {α:Type}:∀ {l p:List α} {o:α},splitLast l=some (p,o)→l=p++[o]
 | [],p,o,h=>by simp [splitLast] at h
 | [x],p,o,h=>by simp only [splitLast,Option.some.injEq,Prod.mk.injEq] at h;obtain ⟨rfl,rfl⟩:=h;rfl
 | x::y::r,p,o,h=>by
  simp only [splitLast] at h
  split at h
  ·rename_i p' o' h'
   simp only [Option.some.injEq,Prod.mk.injEq] at h
   obtain ⟨rfl,rfl⟩:=h
   rw [splitLast_eq h'];rfl
  ·simp at h
theorem wp_store2 {E:Env} {id:Nat} {ops pre:List Oper} {o:Oper} {s:ASt} {QF:Exit→Act→World→Prop} {Z:Nat→Prop} {lb:Lb} {a:Act} {w:World} {K:ASt→Prop} (h0:splitLast ops=some (pre,o)) (hs:St Z lb s a w) (hg:o.guard=none) (hd:o.dst=none)
  (h:VX E ops pre (lenL s.L) { s with L:=addL s.L (holesOf pre) } [] (fun s _=>K s))
  (hk:∀ Z' lb' s' a' w',Ext 0 Z lb w Z' lb' w'→St Z' lb' s' a' w'→K s'→(∀ t:Nat,(∀ x,x∈pre→x.dst≠some t)→a'.tmps[t]? = a.tmps[t]?)→∃ w2,(execOp a'.eval o).run E.P w'=.ok .skip w2∧QF .normal a' w2) :
  (Code.region id ops.toArray false).wp E.P QF a w:=by
 obtain rfl:=splitLast_eq h0
 refine wp_store hs hg h fun Z' lb' s' a' w' h1 h2 h3 h4=>?_
 obtain ⟨w2,k1,k2⟩:=hk Z' lb' s' a' w' h1 h2 h3 h4
 exact ⟨w2,k1,by rw [hd];exact k2⟩
theorem wp_regF {E:Env} {id:Nat} {ops:List Oper} {s:ASt} {QF:Exit→Act→World→Prop} {Z:Nat→Prop} {lb:Lb} {a:Act} {w:World} {K:ASt→Prop} (hs:St Z lb s a w)
  (h:VX E ops ops (lenL s.L) { s with L:=addL s.L (holesOf ops) } [] (fun s _=>K s))
  (hk:∀ Z' lb' s' a' w',Ext 0 Z lb w Z' lb' w'→St Z' lb' s' a' w'→K s'→(∀ t:Nat,(∀ x,x∈ops→x.dst≠some t)→a'.tmps[t]? = a.tmps[t]?)→QF .normal a' w') :
  (Code.region id ops.toArray false).wp E.P QF a w:=by
 obtain ⟨es,s',ht,hK⟩:=vexec_trace E ops ops _ _ _ _ h.run
 have hs1:=hs.addHoles (holesOf ops)
 have hext:=(hs.own.addHoles (holesOf ops)).2 0
 refine wp_region_lit ?_
 have h1:wpList E.P ops.toArray (fun e a' w'=>e=.normal∧∃ Z' lb',Ext 0 Z lb w Z' lb' w'∧St Z' lb' s' a' w') ops a w :=
  seq_sound (ops:=ops) (by simp) ht hs1 fun Z' lb' a' w' st hs'=>⟨rfl,Z',lb',hext.trans (st.ext 0),hs'⟩
 have h2:=wpList_app (l2:=[]) (Q:=QF) (fun a' w' h=>?_) (fun e a' w' he h=>absurd h.1.1 he) (wpList_frame h1)
 ·rwa [List.append_nil] at h2
 ·obtain ⟨⟨_,Z',lb',k1,k2⟩,k3⟩:=h
  exact hk Z' lb' s' a' w' k1 k2 hK (k3 rfl)
theorem own_glob {g1 g2:Glob} {Z:Nat→Prop} {lb:Lb} {L:List (Option Ob)} {w:World} (h:@Own g1 Z lb L w) (hG:@Glob.G g2 Z w):@Own g2 Z lb L w:=by
 rcases h with ⟨a,b,c,d,⟨e,_⟩⟩
 exact @Own.mk g2 Z lb L w a b c d (@ZOk.mk g2 Z w e hG)
theorem outD_glob {g1 g2:Glob} (hd:@Glob.dr g2→@Glob.dr g1) {w w':World} (h:@OutD g1 w w'):@OutD g2 w w':=by
 rcases h with ⟨a,b⟩
 exact @OutD.mk g2 _ _ a fun hh=>b (hd hh)
theorem stp_glob {g1 g2:Glob} (hd:@Glob.dr g2→@Glob.dr g1) {Z Z':Nat→Prop} {lb lb':Lb} {w w':World} (h:@Stp g1 Z lb w Z' lb' w'):@Stp g2 Z lb w Z' lb' w':=by
 rcases h with ⟨a,b,c,d,e,f,g,h,i,j,k,l⟩
 exact @Stp.mk g2 _ _ _ _ _ _ a b (outD_glob hd c) d e f g h i j k l
theorem zok_glob {g1 g2:Glob} {Z Z':Nat→Prop} {w w':World} (h:@ZOk g1 Z' w') (hz:@ZOk g2 Z w) (hl:∀ b,Z b→Z' b) (hk:Keep Z w w'):@ZOk g2 Z' w':=by
 rcases h with ⟨a,_⟩
 rcases hz with ⟨_,b⟩
 exact @ZOk.mk g2 Z' w' a (@Glob.mono g2 _ _ _ _ hl hk b)
theorem pcalls_glob {g1 g2:Glob} (hG:∀ Z w,@Glob.G g2 Z w→@Glob.G g1 Z w) (hd:@Glob.dr g2→@Glob.dr g1) {P:Program} {f:FuncId} {args:List PV} {r:PV} (h:@PCalls g1 P f args r):@PCalls g2 P f args r:=by
 rcases h with ⟨h1,h2⟩
 refine @PCalls.mk g2 P f args r h1 fun Z w vals hz hr=>?_
 have hz1:@ZOk g1 Z w:=by
  rcases hz with ⟨a,b⟩
  exact @ZOk.mk g1 Z w a (hG _ _ b)
 refine (h2 Z w vals hz1 hr).mono ?_
 rintro e w' ⟨u,Z',k1,st,k3,k4⟩
 have st2:=stp_glob hd st
 rcases st2 with ⟨a,b,c,d,e',f',g',h',i,j,k,l⟩
 exact ⟨u,Z',k1,stp_glob hd st,zok_glob k3 hz f' e',k4⟩
theorem acallsx_glob {g1 g2:Glob} (hG:∀ Z w,@Glob.G g2 Z w→@Glob.G g1 Z w) (hd:@Glob.dr g2→@Glob.dr g1) {P:Program} {f:FuncId} {args:List AV} {L:List Ob} {G:Type} {r:G→AV} {L':G→List Ob} (h:@ACallsX g1 P f args L G r L'):@ACallsX g2 P f args L G r L':=by
 rcases h with ⟨h1,h2,h3⟩
 refine ⟨h1,h2,fun Z lb w vals ho hr=>?_⟩
 have hg:@Glob.G g2 Z w:=by rcases ho with ⟨_,_,_,_,⟨_,g⟩⟩;exact g
 refine (h3 Z lb w vals (own_glob ho (hG _ _ hg)) hr).mono ?_
 rintro e w' ⟨q,u,Z',lb',h1,h2,h3,h4,h5,h6,h7,h8,h9,h10⟩
 exact ⟨q,u,Z',lb',h1,own_glob h2 (@Glob.mono g2 _ _ _ _ h9 h8 hg),h3,h4,h5,outD_glob hd h6,h7,h8,h9,h10⟩
theorem acalls_glob {g1 g2:Glob} (hG:∀ Z w,@Glob.G g2 Z w→@Glob.G g1 Z w) (hd:@Glob.dr g2→@Glob.dr g1) {P:Program} {f:FuncId} {args:List AV} {L L':List Ob} {r:AV} (h:@ACalls g1 P f args L r L'):@ACalls g2 P f args L r L':=by
 rcases h with ⟨h1,h2,h3⟩
 refine ⟨h1,h2,fun Z lb w vals ho hr=>?_⟩
 have hg:@Glob.G g2 Z w:=by rcases ho with ⟨_,_,_,_,⟨_,g⟩⟩;exact g
 refine (h3 Z lb w vals (own_glob ho (hG _ _ hg)) hr).mono ?_
 rintro e w' ⟨u,Z',lb',h1,h2,h3,h4,h5,h6,h7,h8,h9,h10⟩
 exact ⟨u,Z',lb',h1,own_glob h2 (@Glob.mono g2 _ _ _ _ h9 h8 hg),h3,h4,h5,outD_glob hd h6,h7,h8,h9,h10⟩
theorem wp_grF {E:Env} {id:Nat} (gs:List Nat) (p:List Oper) (o:Oper) (q:List Oper) {s:ASt} {QF:Exit→Act→World→Prop} {Z:Nat→Prop} {lb:Lb} {a:Act} {w:World} {K:ASt→Prop} (hg:isG gs o=true) (hs:St Z lb s a w)
  (h:VX E (p++o::q) p (lenL s.L) { s with L:=addL s.L (holesOf (p++o::q)) } [] fun s1 _=>gstep E o (lenL s.L+holesOf p) s1 fun e=>VX E (p++o::q) q (lenL s.L+holesOf p+slotsOf o) (s1.app o.dst e) [] (fun s _=>K s))
  (hk:∀ Z' lb' s' a' w',Ext 0 Z lb w Z' lb' w'→St Z' lb' s' a' w'→K s'→(∀ t:Nat,(∀ x,x∈p++o::q→x.dst≠some t)→a'.tmps[t]? = a.tmps[t]?)→QF .normal a' w') :
  (Code.region id (p++o::q).toArray false).wp E.P QF a w:=by
 obtain ⟨es,s',ht,hK⟩:=vexec_trace E _ p _ _ _ _ h.run
 have hs1:=hs.addHoles (holesOf (p++o::q))
 have hext:=(hs.own.addHoles (holesOf (p++o::q))).2 0
 have h1:wpList E.P (p++o::q).toArray (fun e a' w'=>e=.normal∧∃ Z' lb' s2,Ext 0 Z lb w Z' lb' w'∧St Z' lb' s2 a' w'∧K s2) (p++o::q) a w:=by
  refine seq_pre (by simp) ht hs1 fun Z1 lb1 a1 w1 st1 hs1'=>?_
  have hgd:o.guard=none:=by
   unfold isG at hg
   split at hg
   ·simp at hg
   ·assumption
  unfold wpList
  rw [if_pos (by simp [Region.wanted,hgd])]
  refine .inl ?_
  obtain ⟨hd,hg2⟩:=onB_some hK
  refine gop_sound E o _ _ _ _ hg2 s' hd (fun _ _=>rfl) (fun k=>(nth_eq _ _).symm) Z1 lb1 a1 w1 hs1' _ _ fun e he Z2 lb2 a2 w2 st2 hs2=>?_
  obtain ⟨es2,s2,ht2,hK2⟩:=vexec_trace E _ q _ _ _ _ he.run
  refine seq_sound (ops:=p++o::q) (by simp) ht2 hs2 fun Z3 lb3 a3 w3 st3 hs3=>?_
  exact ⟨rfl,Z3,lb3,s2,hext.trans (((st1.trans st2).trans st3).ext 0),hs3,hK2⟩
 refine wp_region_lit ?_
 have h2:=wpList_app (l2:=[]) (Q:=QF) (fun a' w' h=>?_) (fun e a' w' he h=>absurd h.1.1 he) (wpList_frame h1)
 ·rwa [List.append_nil] at h2
 ·obtain ⟨⟨_,Z',lb',s2,k1,k2,k4⟩,k3⟩:=h
  exact hk Z' lb' s2 a' w' k1 k2 k4 (k3 rfl)
theorem wp_grF1 {E:Env} {id:Nat} (gs:List Nat) {a0 o:Oper} {q:List Oper} {s:ASt} {QF:Exit→Act→World→Prop} {Z:Nat→Prop} {lb:Lb} {a:Act} {w:World} {K:ASt→Prop} (hg:isG gs o=true) (hs:St Z lb s a w)
  (h:VX E (a0::o::q) [a0] (lenL s.L) { s with L:=addL s.L (holesOf (a0::o::q)) } [] fun s1 _=>gstep E o (lenL s.L+holesOf [a0]) s1 fun e=>VX E (a0::o::q) q (lenL s.L+holesOf [a0]+slotsOf o) (s1.app o.dst e) [] (fun s _=>K s))
  (hk:∀ Z' lb' s' a' w',Ext 0 Z lb w Z' lb' w'→St Z' lb' s' a' w'→K s'→(∀ t:Nat,(∀ x,x∈a0::o::q→x.dst≠some t)→a'.tmps[t]? = a.tmps[t]?)→QF .normal a' w') :
  (Code.region id (a0::o::q).toArray false).wp E.P QF a w:=wp_grF gs [a0] o q hg hs h hk
theorem wp_grF2 {E:Env} {id:Nat} (gs:List Nat) {a0 a1 o:Oper} {q:List Oper} {s:ASt} {QF:Exit→Act→World→Prop} {Z:Nat→Prop} {lb:Lb} {a:Act} {w:World} {K:ASt→Prop} (hg:isG gs o=true) (hs:St Z lb s a w)
  (h:VX E (a0::a1::o::q) [a0,a1] (lenL s.L) { s with L:=addL s.L (holesOf (a0::a1::o::q)) } [] fun s1 _=>gstep E o (lenL s.L+holesOf [a0,a1]) s1 fun e=>VX E (a0::a1::o::q) q (lenL s.L+holesOf [a0,a1]+slotsOf o) (s1.app o.dst e) [] (fun s _=>K s))
  (hk:∀ Z' lb' s' a' w',Ext 0 Z lb w Z' lb' w'→St Z' lb' s' a' w'→K s'→(∀ t:Nat,(∀ x,x∈a0::a1::o::q→x.dst≠some t)→a'.tmps[t]? = a.tmps[t]?)→QF .normal a' w') :
  (Code.region id (a0::a1::o::q).toArray false).wp E.P QF a w:=wp_grF gs [a0,a1] o q hg hs h hk
end
end Go.Ab
