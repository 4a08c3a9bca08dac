/- Contracts of functions of this program, and the plain facts that they rest on. No conditions. -/
import Derived.Test.YtckhjklcfagkoaaGreatDoorEnv2
import Derived.Test.YtckhjklcfagkoaaGreatDoorAc4
import Derived.Lib.ItoaLen
import Derived.Lib.AtoiErrMem
set_option linter.unusedSimpArgs false
set_option linter.unusedVariables false
namespace Go.Proofs.YtckhjklcfagkoaaGreatDoor
open Go Go.Ab
attribute [local irreducible] callK callF loopQ vstep vskip pickE hideP
set_option maxRecDepth 100000
def eU (x:Int):PV:=.v (.int .u64 x)
def eWr (x:Int × Int):PV:=.agg [.v (.int .u64 x.1),.v (.int .u64 x.2)]
def upd {α:Type} (f:Nat→α) (r:Nat) (x:α):Nat→α:=fun i=>if i=r then x else f i
theorem lt8 {k:Nat} (h:k<8):k=0∨k=1∨k=2∨k=3∨k=4∨k=5∨k=6∨k=7:=by omega
theorem lt6 {k:Nat} (h:k<6):k=0∨k=1∨k=2∨k=3∨k=4∨k=5:=by omega
@[go_sem high] theorem nthT4 {a0 a1 a2 a3:Option Ob} {e:Nat→Int} {k:Nat} {l:List (Option Ob)} (hk:k<8):nth (a0::a1::a2::a3::some (.var [.loc 0 0,.p (.v (.int .i64 0)),.p (.v (.int .i64 (e 0))),.mref 18])::some (.var [.loc 0 0,.p (.v (.int .i64 1)),.p (.v (.int .i64 (e 1))),.mref 19])::some (.var [.loc 0 0,.p (.v (.int .i64 2)),.p (.v (.int .i64 (e 2))),.mref 20])::some (.var [.loc 0 0,.p (.v (.int .i64 3)),.p (.v (.int .i64 (e 3))),.mref 21])::some (.var [.loc 0 0,.p (.v (.int .i64 4)),.p (.v (.int .i64 (e 4))),.mref 22])::some (.var [.loc 0 0,.p (.v (.int .i64 5)),.p (.v (.int .i64 (e 5))),.mref 23])::some (.var [.loc 0 0,.p (.v (.int .i64 6)),.p (.v (.int .i64 (e 6))),.mref 24])::some (.var [.loc 0 0,.p (.v (.int .i64 7)),.p (.v (.int .i64 (e 7))),.mref 25])::l) (4+k)=some (some (.var [.loc 0 0,.p (.v (.int .i64 k)),.p (.v (.int .i64 (e k))),.mref (18+k)])):=by
 rcases lt8 hk with rfl | rfl | rfl | rfl | rfl | rfl | rfl | rfl<;>rfl
@[go_sem high] theorem setT4 {a0 a1 a2 a3:Option Ob} {e:Nat→Int} {k:Nat} {x:Int} {l:List (Option Ob)} (hk:k<8):setL (a0::a1::a2::a3::some (.var [.loc 0 0,.p (.v (.int .i64 0)),.p (.v (.int .i64 (e 0))),.mref 18])::some (.var [.loc 0 0,.p (.v (.int .i64 1)),.p (.v (.int .i64 (e 1))),.mref 19])::some (.var [.loc 0 0,.p (.v (.int .i64 2)),.p (.v (.int .i64 (e 2))),.mref 20])::some (.var [.loc 0 0,.p (.v (.int .i64 3)),.p (.v (.int .i64 (e 3))),.mref 21])::some (.var [.loc 0 0,.p (.v (.int .i64 4)),.p (.v (.int .i64 (e 4))),.mref 22])::some (.var [.loc 0 0,.p (.v (.int .i64 5)),.p (.v (.int .i64 (e 5))),.mref 23])::some (.var [.loc 0 0,.p (.v (.int .i64 6)),.p (.v (.int .i64 (e 6))),.mref 24])::some (.var [.loc 0 0,.p (.v (.int .i64 7)),.p (.v (.int .i64 (e 7))),.mref 25])::l) (4+k) (some (.var [.loc 0 0,.p (.v (.int .i64 k)),.p (.v (.int .i64 x)),.mref (18+k)]))=a0::a1::a2::a3::some (.var [.loc 0 0,.p (.v (.int .i64 0)),.p (.v (.int .i64 (upd e k x 0))),.mref 18])::some (.var [.loc 0 0,.p (.v (.int .i64 1)),.p (.v (.int .i64 (upd e k x 1))),.mref 19])::some (.var [.loc 0 0,.p (.v (.int .i64 2)),.p (.v (.int .i64 (upd e k x 2))),.mref 20])::some (.var [.loc 0 0,.p (.v (.int .i64 3)),.p (.v (.int .i64 (upd e k x 3))),.mref 21])::some (.var [.loc 0 0,.p (.v (.int .i64 4)),.p (.v (.int .i64 (upd e k x 4))),.mref 22])::some (.var [.loc 0 0,.p (.v (.int .i64 5)),.p (.v (.int .i64 (upd e k x 5))),.mref 23])::some (.var [.loc 0 0,.p (.v (.int .i64 6)),.p (.v (.int .i64 (upd e k x 6))),.mref 24])::some (.var [.loc 0 0,.p (.v (.int .i64 7)),.p (.v (.int .i64 (upd e k x 7))),.mref 25])::l:=by
 rcases lt8 hk with rfl | rfl | rfl | rfl | rfl | rfl | rfl | rfl<;>rfl
@[go_sem high] theorem elN8_4 {k:Nat} {l:List Nat} (hk:k<8):elN (4+k) (4::5::6::7::8::9::10::11::l)=true:=by
 rcases lt8 hk with rfl | rfl | rfl | rfl | rfl | rfl | rfl | rfl<;>rfl
@[go_sem ↓ high] theorem posN8_4 {k i:Nat} {l:List Nat} (hk:k<8):posN (4::5::6::7::8::9::10::11::l) (4+k) i=i+k:=by
 rcases lt8 hk with rfl | rfl | rfl | rfl | rfl | rfl | rfl | rfl<;>rfl
@[go_sem high] theorem nthN_4_4 {a0 a1 a2 a3 k:Nat} {l:List Nat} (hk:k<8):nth (a0::a1::a2::a3::4::5::6::7::8::9::10::11::l) (4+k)=some (4+k):=by
 rcases lt8 hk with rfl | rfl | rfl | rfl | rfl | rfl | rfl | rfl<;>rfl
@[go_sem high] theorem elN8_d {k:Nat} {l:List Nat} (hk:k<8):elN (4+k) (1::2::3::4::5::6::7::8::9::10::11::l)=true:=by
 rcases lt8 hk with rfl | rfl | rfl | rfl | rfl | rfl | rfl | rfl<;>rfl
@[go_sem ↓ high] theorem posN8_d {k:Nat} {l:List Nat} (hk:k<8):posN (0::1::2::3::4::5::6::7::8::9::10::11::l) (4+k) 0=4+k:=by
 rcases lt8 hk with rfl | rfl | rfl | rfl | rfl | rfl | rfl | rfl<;>rfl
structure Dv where
 n:Nat
 per:List Int
 cur:List Int
 hist:Nat→List (Int × Int)
 done:Nat→Int
 err:Nat→Int
 note:Nat→Value→Option Int
 off:Bool
 armed:Bool
 left:Int
 ex:Int
abbrev JT:=Nat→List (Int × Int)
abbrev MT:=Nat→List (Nat × Int)
def jk (A:Dv) (J:JT) (r:Nat):List (Int × Int):=match A.hist r with
 | []=>[]
 | _::_=>J r
def deO (A:Dv) (p c l t:Nat):Ob:=.var [.sl p 1 0 (8*A.n),.sl c 1 0 (8*A.n),.sl l 2 0 A.n,.loc t 0,.loc (t+1) 0,.loc (t+2) 0,.loc (t+3) 0,.loc (t+4) 0,.loc (t+5) 0,.loc (t+6) 0,.loc (t+7) 0,.p (.v (.bool A.off)),.p (.v (.bool A.armed)),.p (.v (.int .i64 A.left)),.p (.v (.int .u64 A.ex))]
def peO (A:Dv):Ob:=.arr 1 (A.per.map eU)
def cuO (A:Dv):Ob:=.arr 1 (A.cur.map eU)
def liO (A:Dv) (J:JT) (h:Nat):Ob:=.pvar (2*A.n) [.p (.v (.int .u64 (A.done 0))),.sl h 2 (jk A J 0).length (A.hist 0).length,.p (.v (.int .u64 (A.done 1))),.sl (h+1) 2 (jk A J 1).length (A.hist 1).length,.p (.v (.int .u64 (A.done 2))),.sl (h+2) 2 (jk A J 2).length (A.hist 2).length,.p (.v (.int .u64 (A.done 3))),.sl (h+3) 2 (jk A J 3).length (A.hist 3).length,.p (.v (.int .u64 (A.done 4))),.sl (h+4) 2 (jk A J 4).length (A.hist 4).length,.p (.v (.int .u64 (A.done 5))),.sl (h+5) 2 (jk A J 5).length (A.hist 5).length]
def thO (A:Dv) (k d m:Nat):Ob:=.var [.loc d 0,.p (.v (.int .i64 k)),.p (.v (.int .i64 (A.err k))),.mref (m+k)]
def hiO (A:Dv) (J:JT) (r:Nat):Ob:=.arr 2 ((jk A J r).map eWr++(A.hist r).map eWr)
def noO (A:Dv) (k:Nat):Ob:=.mp (some .i64) (.i .u64 (A.note k))
def dvL (A:Dv) (J:JT):List Ob:=[deO A 1 2 3 4,peO A,cuO A,liO A J 12,thO A 0 0 18,thO A 1 0 18,thO A 2 0 18,thO A 3 0 18,thO A 4 0 18,thO A 5 0 18,thO A 6 0 18,thO A 7 0 18,hiO A J 0,hiO A J 1,hiO A J 2,hiO A J 3,hiO A J 4,hiO A J 5,noO A 0,noO A 1,noO A 2,noO A 3,noO A 4,noO A 5,noO A 6,noO A 7]
def dv2 (A:Dv) (J:JT):List Ob:=[deO A 1 2 3 4,peO A,cuO A,liO A J 26,thO A 0 0 18,thO A 1 0 18,thO A 2 0 18,thO A 3 0 18,thO A 4 0 18,thO A 5 0 18,thO A 6 0 18,thO A 7 0 18,.dead,.dead,.dead,.dead,.dead,.dead,noO A 0,noO A 1,noO A 2,noO A 3,noO A 4,noO A 5,noO A 6,noO A 7,hiO A J 0,hiO A J 1,hiO A J 2,hiO A J 3,hiO A J 4,hiO A J 5]
attribute [go_sem] dvL dv2
def appL (ws:List Int) (l:List (Int × Int)):List Int:=l.foldl (fun ws s=>ws.set (s.1 / 8).toNat s.2) ws
theorem appL_len (l:List (Int × Int)):∀ ws:List Int,(appL ws l).length=ws.length:=by
 unfold appL
 induction l with
 | nil=>intro ws;rfl
 | cons x l ih=>intro ws;rw [List.foldl_cons,ih,List.length_set]
theorem appL_app (ws:List Int) (a b:List (Int × Int)):appL ws (a++b)=appL (appL ws a) b:=by unfold appL;rw [List.foldl_append]
def contS (A:Dv) (f:Nat→Nat):List Int:=(List.range (8*A.n)).map fun j=>(appL A.per ((A.hist (j / 8)).take (f (j / 8)))).getD j 0
theorem contS_len (A:Dv) (f:Nat→Nat):(contS A f).length=8*A.n:=by simp [contS]
structure WF (A:Dv):Prop where
 n0:0<A.n
 n6:A.n≤6
 per:A.per.length=8*A.n
 cur:A.cur.length=8*A.n
 hist:∀ r,r<6→∀ x,x∈A.hist r→((r:Int)=x.1 / 64∧x.1 % 8=0∧0≤x.1)∧0≤x.2∧x.2≤18446744073709551615
 top:∀ r,A.n≤r→r<6→A.hist r=[]
 len:∀ r,r<6→0≤A.done r∧A.done r+(A.hist r).length≤1000000000
 jl:True
theorem appL_off (l:List (Int × Int)) (j:Nat) (h:∀ x,x∈l→(x.1 / 8).toNat≠j):∀ ws:List Int,(appL ws l).getD j 0=ws.getD j 0:=by
 induction l with
 | nil=>intro ws;rfl
 | cons x l ih =>
  intro ws
  have h1:=ih (fun y hy=>h y (List.mem_cons_of_mem _ hy)) (ws.set (x.1 / 8).toNat x.2)
  have e:appL ws (x::l)=appL (ws.set (x.1 / 8).toNat x.2) l:=rfl
  rw [e,h1]
  simp only [List.getD_eq_getElem?_getD]
  rw [List.getElem?_set_ne (h x List.mem_cons_self)]
theorem contS_get (A:Dv) (f:Nat→Nat) (j:Nat) (hj:j<8*A.n):(contS A f).getD j 0=(appL A.per ((A.hist (j / 8)).take (f (j / 8)))).getD j 0:=by
 unfold contS;simp [List.getD_eq_getElem?_getD,hj]
theorem list_getD {a b:List Int} (hl:a.length=b.length) (h:∀ j,j<a.length→a.getD j 0=b.getD j 0):a=b:=by
 refine List.ext_getElem hl fun i h1 h2=>?_
 have:=h i h1
 simpa [List.getD_eq_getElem?_getD,h1,h2] using this
end Go.Proofs.YtckhjklcfagkoaaGreatDoor
namespace Go.Proofs.YtckhjklcfagkoaaGreatDoor
open Go Go.Ab
attribute [local irreducible] callK callF loopQ vstep vskip pickE hideP
open Go.RowKit
set_option maxRecDepth 100000
abbrev bs (l:List UInt8):ByteArray:=⟨l.toArray⟩
theorem bs_size (l:List UInt8):(ByteArray.mk l.toArray).size=l.length:=by simp [ByteArray.size]
theorem bs_list (l:List UInt8):(ByteArray.mk l.toArray).data.toList=l:=rfl
theorem toList_bs (l:List UInt8):(ByteArray.mk l.toArray).toList=l:=by rw [Lib.toList_data]
theorem bs_inj {a b:List UInt8}:(ByteArray.mk a.toArray=ByteArray.mk b.toArray)↔a=b:=by
 constructor
 ·intro h;have:=congrArg (fun x=>x.data.toList) h;simpa using this
 ·rintro rfl;rfl
theorem ext_bs (l:List UInt8) (a b:Nat):(ByteArray.mk l.toArray).extract a b=ByteArray.mk ((l.drop a).take (b - a)).toArray:=by
 apply ByteArray.ext
 apply Array.ext'
 simp [List.extract_eq_take_drop]
theorem app_bs (a b:List UInt8):ByteArray.mk a.toArray++ByteArray.mk b.toArray=ByteArray.mk (a++b).toArray:=by
 apply ByteArray.ext;simp
theorem beq_dec (a b:List UInt8):(a == b)=decide (a=b):=by by_cases h:a=b<;>simp [h]
theorem byteAt_bs (l:List UInt8) (n:Nat):byteAt ⟨l.toArray⟩ n=((l.getD n 0).toNat:Int):=rfl
theorem imax:IntKind.i64.max=9223372036854775807:=rfl
attribute [go_sem] toList_bs beq_dec bs_size bs_list app_bs imax
theorem wr64 (x:Int):IntKind.u64.wrap x=x % 18446744073709551616:=IntKind.wrap_u64 x
theorem wr8 (x:Int):IntKind.u8.wrap x=x % 256:=IntKind.wrap_u8 x
theorem i64w {x:Int} (h1:-9223372036854775808≤x) (h2:x≤9223372036854775807):IntKind.i64.wrap x=x:=by rw [IntKind.wrap_i64];omega
def numL (n:Int):List UInt8:=Lib.itoa n
theorem numL_pos {n:Int} (h:0≤n):numL n=Lib.decDigits n.toNat:=by unfold numL Lib.itoa;rw [if_neg (by omega)]
theorem numL_len {n:Int} (h:-9223372036854775808≤n∧n≤18446744073709551615):(numL n).length≤21∧1≤(numL n).length:=by
 have key:∀ u:Nat,u<18446744073709551616→(Lib.decDigits u).length≤20∧1≤(Lib.decDigits u).length:=fun u hu=>by
  rw [Lib.decDigits_length]
  refine ⟨Lib.nDigits_le20 u (by omega),?_⟩
  rw [Lib.nDigits];split<;>omega
 unfold numL Lib.itoa
 split
 ·have:=key n.natAbs (by omega)
  rw [List.length_cons];omega
 ·have:=key n.toNat (by omega);omega
def eT (l:List UInt8):PV:=.v (.string (bs l))
structure Ev where
 k:Int
 th:Int
 o:Int
 v:Int
 w:Int
 ln:Int
 n:Int
 ch:List UInt8
instance:Inhabited Ev:=⟨⟨0,0,0,0,0,0,0,[]⟩⟩
def eE (x:Ev):PV:=.agg [.v (.int .u8 x.k),.v (.int .i64 x.th),.v (.int .u64 x.o),.v (.int .u64 x.v),.v (.int .u64 x.w),.v (.int .i64 x.ln),.v (.int .i64 x.n),.view 1 (x.ch.map eB)]
def rE (x:Ev):PV:=.agg [.v (.int .i64 x.k),.v (.int .i64 x.th),.v (.int .u64 x.o),.v (.int .u64 x.v),.v (.int .u64 x.w),.v (.int .i64 x.ln),.v (.int .i64 x.n),.view 1 (x.ch.map eB)]
structure Rng (x:Ev):Prop where
 th:-9223372036854775808≤x.th∧x.th≤9223372036854775807
 o:0≤x.o∧x.o≤18446744073709551615
 v:0≤x.v∧x.v≤18446744073709551615
 w:0≤x.w∧x.w≤18446744073709551615
 ln:-9223372036854775808≤x.ln∧x.ln≤9223372036854775807
 n:-9223372036854775808≤x.n∧x.n≤9223372036854775807
def okK (x:Ev):Prop :=
 x.k=1∧(0≤x.th∧x.th≤7)∧x.w=0∧x.ln=0∧x.n=0∧x.ch.length=0 ∨
 x.k=2∧(0≤x.th∧x.th≤7)∧x.ln=0∧x.n=0∧x.ch.length=0 ∨
 x.k=3∧(0≤x.th∧x.th≤7)∧x.v=0∧x.w=0∧x.ln=0∧x.n=0∧x.ch.length=0 ∨
 x.k=4∧(0≤x.th∧x.th≤7)∧x.o=0∧x.v=0∧x.w=0∧x.ln=0∧x.n=0∧x.ch.length=0 ∨
 x.k=5∧x.th=0∧x.o=0∧x.v=0∧x.w=0∧(0≤x.ln∧x.ln≤4095)∧(0≤x.n∧x.n≤2147483647)∧x.ch.length=0 ∨
 x.k=6∧x.th=0∧x.o=0∧x.v=0∧x.w=0∧x.ln=0∧(-1≤x.n∧x.n≤2147483647)∧x.ch.length=0 ∨
 x.k=7∧x.th=0∧x.o=0∧x.v=0∧x.w=0∧x.ln=0∧x.n=0∧x.ch.length≤512
instance (x:Ev):Decidable (okK x):=by unfold okK;exact inferInstance
def okE (x:Ev):Bool:=decide (okK x)
theorem okE_t {x:Ev} (h:okE x=true):okK x:=of_decide_eq_true h
def hexS:List UInt8:=[48,49,50,51,52,53,54,55,56,57,97,98,99,100,101,102]
def hexL:List UInt8→List UInt8
 | []=>[]
 | b::l=>hexS.getD (b.toNat / 16) 0::hexS.getD (b.toNat % 16) 0::hexL l
theorem hexL_len:∀ l,(hexL l).length=2*l.length
 | []=>rfl
 | b::l=>by simp only [hexL,List.length_cons,hexL_len l];omega
theorem hexL_app:∀ a b,hexL (a++b)=hexL a++hexL b
 | [],b=>rfl
 | x::a,b=>by simp only [hexL,List.cons_append,hexL_app a b]
def chL (c:List UInt8):List UInt8:=match c with
 | []=>[45]
 | b::l=>hexL (b::l)
def wsE (x:Ev):List (List UInt8) :=
 if x.k=1 then [[115,116,111,114,101],numL x.th,numL x.o,numL x.v]
 else if x.k=2 then [[99,97,115],numL x.th,numL x.o,numL x.w,numL x.v]
 else if x.k=3 then [[102,108,117,115,104],numL x.th,numL x.o]
 else if x.k=4 then [[102,101,110,99,101],numL x.th]
 else if x.k=5 then [[119,114,105,116,101,98,97,99,107],numL x.ln,numL x.n]
 else if x.k=6 then [[97,114,109],numL x.n]
 else [[99,114,97,115,104],chL x.ch]
def joinL (x:UInt8):List (List UInt8)→List UInt8
 | []=>[]
 | [w]=>w
 | w::v::ws=>w++x::joinL x (v::ws)
def txE (x:Ev):List UInt8:=joinL 32 (wsE x)
def txV (x:Ev):List UInt8:=if okE x=true then txE x else []
def lnE (x:Ev):List UInt8:=if okE x=true then txE x++[10] else []
def txL:List Ev→List UInt8
 | []=>[]
 | x::l=>lnE x++txL l
theorem txL_app:∀ a b,txL (a++b)=txL a++txL b
 | [],b=>rfl
 | x::a,b=>by simp only [txL,List.cons_append,txL_app a b,List.append_assoc]
theorem chL_len (c:List UInt8):(chL c).length≤1+2*c.length:=by
 unfold chL;split
 ·simp
 ·rw [hexL_len];omega
theorem wsE_of {x:Ev} (h:okK x) (R:Rng x):∀ w,w∈wsE x→w.length≤1030:=by
 have n1:=(numL_len (n:=x.th) ⟨R.th.1,by have:=R.th.2;omega⟩).1
 have n2:=(numL_len (n:=x.o) ⟨by have:=R.o.1;omega,R.o.2⟩).1
 have n3:=(numL_len (n:=x.v) ⟨by have:=R.v.1;omega,R.v.2⟩).1
 have n4:=(numL_len (n:=x.w) ⟨by have:=R.w.1;omega,R.w.2⟩).1
 have n5:=(numL_len (n:=x.ln) ⟨R.ln.1,by have:=R.ln.2;omega⟩).1
 have n6:=(numL_len (n:=x.n) ⟨R.n.1,by have:=R.n.2;omega⟩).1
 have n7:=chL_len x.ch
 have n8:x.ch.length≤512:=by unfold okK at h;omega
 unfold wsE
 repeat' split
 all_goals
  simp only [List.mem_cons,List.not_mem_nil,or_false,forall_eq_or_imp,forall_eq]
  repeat' (refine And.intro ?_ ?_)
  all_goals first | omega | (simp only [List.length_cons,List.length_nil];omega)
theorem num_ns (n:Int) (x:UInt8) (hx:x=32∨x=10):x ∉ numL n:=by
 have dec_digit:∀ (u:Nat) (c:UInt8),c∈Lib.decDigits u→48≤c.toNat∧c.toNat≤57:=by
  intro u
  induction u using Nat.strongRecOn with
  | _ u ih =>
   intro c hc
   by_cases h:u<10
   ·rw [Lib.decDigits,dif_pos h] at hc
    simp at hc;subst hc;simp;omega
   ·rw [Lib.decDigits,dif_neg h] at hc
    rcases List.mem_append.1 hc with hc | hc
    ·exact ih (u / 10) (by omega) c hc
    ·simp at hc;subst hc;simp;omega
 intro h
 unfold numL Lib.itoa at h
 have key:∀ u,x∈Lib.decDigits u→False:=fun u hu=>by
  have:=dec_digit u x hu
  rcases hx with rfl | rfl
  ·have e:(32:UInt8).toNat=32:=rfl
   omega
  ·have e:(10:UInt8).toNat=10:=rfl
   omega
 split at h
 ·rcases List.mem_cons.1 h with h | h
  ·subst h;rcases hx with h | h<;>exact absurd h (by decide)
  ·exact key _ h
 ·exact key _ h
theorem hexS_ns:∀ n:Nat,n<16→¬ hexS.getD n 0=32∧¬ hexS.getD n 0=10:=by decide
theorem hex_ns (x:UInt8) (hx:x=32∨x=10):∀ l,x ∉ hexL l
 | []=>by simp [hexL]
 | b::l=>by
  have h1:=hexS_ns (b.toNat / 16) (by have:=UInt8.toNat_lt b;omega)
  have h2:=hexS_ns (b.toNat % 16) (by omega)
  have h3:=hex_ns x hx l
  intro h
  simp only [hexL,List.mem_cons] at h
  rcases hx with rfl | rfl
  ·rcases h with h | h | h
   ·exact h1.1 h.symm
   ·exact h2.1 h.symm
   ·exact h3 h
  ·rcases h with h | h | h
   ·exact h1.2 h.symm
   ·exact h2.2 h.symm
   ·exact h3 h
theorem ch_ns (c:List UInt8) (x:UInt8) (hx:x=32∨x=10):x ∉ chL c:=by
 unfold chL;split
 ·rcases hx with rfl | rfl<;>decide
 ·exact hex_ns x hx _
theorem wsE_ns (x:Ev) (c:UInt8) (hc:c=32∨c=10):∀ w,w∈wsE x→c ∉ w:=by
 unfold wsE
 repeat' split
 all_goals
  simp only [List.mem_cons,List.not_mem_nil,or_false,forall_eq_or_imp,forall_eq]
  repeat' (refine And.intro ?_ ?_)
  all_goals first | exact num_ns _ _ hc | exact ch_ns _ _ hc | (rcases hc with rfl | rfl<;>decide)
theorem wsE_ne (x:Ev):wsE x≠[]∧(wsE x).length≤5:=by
 unfold wsE
 repeat' split
 all_goals exact ⟨by simp,by simp⟩
theorem join_len (x:UInt8):∀ (ws:List (List UInt8)) (m:Nat),(∀ w,w∈ws→w.length≤m)→(joinL x ws).length≤ws.length*(m+1)
 | [],m,_=>by simp [joinL]
 | [w],m,h=>by simp only [joinL,List.length_cons,List.length_nil];have:=h w (by simp);omega
 | w::v::ws,m,h=>by
  have ih:=join_len x (v::ws) m (fun u hu=>h u (List.mem_cons_of_mem _ hu))
  have hw:=h w (by simp)
  simp only [joinL,List.length_append,List.length_cons] at ih ⊢
  have e:(ws.length+1+1)*(m+1)=(ws.length+1)*(m+1)+(m+1):=Nat.succ_mul _ _
  omega
theorem join_ns (x c:UInt8) (hx:c≠x):∀ (ws:List (List UInt8)),(∀ w,w∈ws→c ∉ w)→c ∉ joinL x ws
 | [],_=>by simp [joinL]
 | [w],h=>by simpa [joinL] using h w (by simp)
 | w::v::ws,h=>by
  have ih:=join_ns x c hx (v::ws) (fun u hu=>h u (List.mem_cons_of_mem _ hu))
  have hw:=h w (by simp)
  simp only [joinL,List.mem_append,List.mem_cons,not_or]
  exact ⟨hw,hx,ih⟩
theorem txE_len {x:Ev} (h:okE x=true) (R:Rng x):(txE x).length≤5155:=by
 have h1:=join_len 32 (wsE x) 1030 (wsE_of (okE_t h) R)
 have h2:=(wsE_ne x).2
 have h3:(wsE x).length*(1030+1)≤5*1031:=Nat.mul_le_mul_right _ h2
 unfold txE;omega
theorem txE_ns (x:Ev):(10:UInt8) ∉ txE x:=join_ns 32 10 (by decide) _ (wsE_ns x 10 (.inr rfl))
theorem lnE_len {x:Ev} (R:Rng x):(lnE x).length≤5156:=by
 unfold lnE;split
 ·rename_i h;have:=txE_len h R;simp only [List.length_append,List.length_cons,List.length_nil];omega
 ·simp
theorem txL_len:∀ l:List Ev,(∀ x,x∈l→Rng x)→(txL l).length≤5156*l.length
 | [],_=>by simp [txL]
 | x::l,h=>by
  have h1:=lnE_len (h x (by simp))
  have h2:=txL_len l (fun y hy=>h y (List.mem_cons_of_mem _ hy))
  simp only [txL,List.length_append,List.length_cons];omega
end Go.Proofs.YtckhjklcfagkoaaGreatDoor
namespace Go.Proofs.YtckhjklcfagkoaaGreatDoor
set_option maxHeartbeats 4000000
set_option maxRecDepth 100000
open Go Go.Ab
attribute [local irreducible] callK callF loopQ vstep vskip pickE hideP
attribute [local go_sem] eE rE
theorem okE_is {x:Ev} {b:Bool} (h:b=true↔okK x):b=okE x:=by
 unfold okE
 cases b with
 | true=>exact (decide_eq_true (h.1 rfl)).symm
 | false=>exact (decide_eq_false fun hk=>Bool.noConfusion (h.2 hk)).symm
theorem okE_1 {x:Ev} {b:Bool} (hk:x.k=1) (h:b=true↔((0≤x.th∧x.th≤7)∧x.w=0∧x.ln=0∧x.n=0∧x.ch.length=0)):Value.bool b=Value.bool (okE x):=by
 refine congrArg Value.bool (okE_is ?_)
 unfold okK;rw [h];simp [hk]
theorem okE_2 {x:Ev} {b:Bool} (hk:x.k=2) (h:b=true↔((0≤x.th∧x.th≤7)∧x.ln=0∧x.n=0∧x.ch.length=0)):Value.bool b=Value.bool (okE x):=by
 refine congrArg Value.bool (okE_is ?_)
 unfold okK;rw [h];simp [hk]
theorem okE_3 {x:Ev} {b:Bool} (hk:x.k=3) (h:b=true↔((0≤x.th∧x.th≤7)∧x.v=0∧x.w=0∧x.ln=0∧x.n=0∧x.ch.length=0)):Value.bool b=Value.bool (okE x):=by
 refine congrArg Value.bool (okE_is ?_)
 unfold okK;rw [h];simp [hk]
theorem okE_4 {x:Ev} {b:Bool} (hk:x.k=4) (h:b=true↔((0≤x.th∧x.th≤7)∧x.o=0∧x.v=0∧x.w=0∧x.ln=0∧x.n=0∧x.ch.length=0)):Value.bool b=Value.bool (okE x):=by
 refine congrArg Value.bool (okE_is ?_)
 unfold okK;rw [h];simp [hk]
theorem okE_5 {x:Ev} {b:Bool} (hk:x.k=5) (h:b=true↔(x.th=0∧x.o=0∧x.v=0∧x.w=0∧(0≤x.ln∧x.ln≤4095)∧(0≤x.n∧x.n≤2147483647)∧x.ch.length=0)):Value.bool b=Value.bool (okE x):=by
 refine congrArg Value.bool (okE_is ?_)
 unfold okK;rw [h];simp [hk]
theorem okE_6 {x:Ev} {b:Bool} (hk:x.k=6) (h:b=true↔(x.th=0∧x.o=0∧x.v=0∧x.w=0∧x.ln=0∧(-1≤x.n∧x.n≤2147483647)∧x.ch.length=0)):Value.bool b=Value.bool (okE x):=by
 refine congrArg Value.bool (okE_is ?_)
 unfold okK;rw [h];simp [hk]
theorem okE_7 {x:Ev} {b:Bool} (hk:x.k=7) (h:b=true↔(x.th=0∧x.o=0∧x.v=0∧x.w=0∧x.ln=0∧x.n=0∧x.ch.length≤512)):Value.bool b=Value.bool (okE x):=by
 refine congrArg Value.bool (okE_is ?_)
 unfold okK;rw [h];simp [hk]
theorem okE_0 {x:Ev} (hk:x.k<1∨7<x.k):Value.bool false=Value.bool (okE x):=by
 refine congrArg Value.bool (okE_is ?_)
 unfold okK;simp only [Bool.false_eq_true,false_iff];omega
theorem dec_is {p:Prop} [Decidable p] {b:Bool} (h:b=true↔p):Value.bool b=Value.bool (decide p):=by
 congr 1
 cases b with
 | true=>exact (decide_eq_true (h.1 rfl)).symm
 | false=>exact (decide_eq_false fun hk=>Bool.noConfusion (h.2 hk)).symm
def plB (x:Ev):Bool:=decide (x.ln=0∧x.n=0)
def woB (x:Ev):Bool:=decide (x.th=0∧x.o=0∧x.v=0∧x.w=0)
theorem sValid (x:Ev) (hc:x.ch.length≤1000000):PCalls Tryz.prog 33 [eE x] (.v (.bool (okE x))):=by
 refine yB (E:=E) (fn:=Tryz.f33) 138 [.tmp 2] rfl rfl rfl rfl (by decide) rfl ?_
 have h1:plB x=true↔(x.ln=0∧x.n=0):=decide_eq_true_iff
 have h2:woB x=true↔(x.th=0∧x.o=0∧x.v=0∧x.w=0):=decide_eq_true_iff
 have hks:x.k=1∨x.k=2∨x.k=3∨x.k=4∨x.k=5∨x.k=6∨x.k=7∨(x.k<1∨7<x.k):=by omega
 repeat' ((fail_if_success (with_reducible show awp _ _ (Code.seq (Code.region 7 _ _) _) _ _));first
  | (with_reducible first | apply zY | apply zT | apply zM | apply zN | apply zO | refine qK ?_ | (show False;omega))
  | ((with_reducible first | apply zP | apply zQ | apply zR | apply zL)<;>intro h<;>try (exfalso;first | omega | exact h rfl | (revert h;decide) | (cases h;done)))
  | ((first | (with_reducible first | apply zW | apply zV | apply zU | apply zS | apply zX | show VX _ _ _ _ _ _ _ | show vstep _ _ _ _ _ | show vskip _ _ _ | show withV _ _ | apply qN | apply qR | refine zB default ?_ | refine zC default ?_ | refine qI ?_) | ((with_reducible show pickE _ _ _);refine qA _ ?_));try simp -dsimp -implicitDefEqProofs (maxSteps:=1000000) (disch:=first | omega | (simp only [LN];omega)) only [go_sem])
 )
 all_goals first | (exfalso;omega) | (rcases hks with hks | hks | hks | hks | hks | hks | hks | hks<;>first | (exfalso;omega) | exact okE_0 hks | (refine okE_1 hks ?_;simp only [Bool.false_eq_true,false_iff];omega) | (refine okE_2 hks ?_;simp only [Bool.false_eq_true,false_iff];omega) | (refine okE_3 hks ?_;simp only [Bool.false_eq_true,false_iff];omega) | (refine okE_4 hks ?_;simp only [Bool.false_eq_true,false_iff];omega) | (refine okE_5 hks ?_;simp only [Bool.false_eq_true,false_iff];omega) | (refine okE_6 hks ?_;simp only [Bool.false_eq_true,false_iff];omega) | (refine okE_7 hks ?_;simp only [Bool.false_eq_true,false_iff];omega)) | skip
 all_goals
  refine r_cut (α:=Nat) [1] (fun u b=>[(3,.p (.v (.bool (plB x))))]) (fun u b=>[]) (fun u=>[]) (fun u=>u≤5) ?I_1 ?hI_1 ?way_1 ?rest_1
  case hI_1=>intro x;(simp -dsimp -implicitDefEqProofs (maxSteps:=1000000) (disch:=first | omega | (simp only [LN];omega)) only [go_sem])<;>exact rfl
  case way_1 =>
   repeat' (first
    | (with_reducible first | apply zY | apply zT | apply zM | apply zN | apply zO | refine qK ?_ | (show False;omega))
    | ((with_reducible first | apply zP | apply zQ | apply zR | apply zL)<;>intro h<;>try (exfalso;first | omega | exact h rfl | (revert h;decide) | (cases h;done)))
    | ((first | (with_reducible first | apply zW | apply zV | apply zU | apply zS | apply zX | show VX _ _ _ _ _ _ _ | show vstep _ _ _ _ _ | show vskip _ _ _ | show withV _ _ | apply qN | apply qR | refine zB default ?_ | refine zC default ?_ | refine qI ?_) | ((with_reducible show pickE _ _ _);refine qA _ ?_));try simp -dsimp -implicitDefEqProofs (maxSteps:=1000000) (disch:=first | omega | (simp only [LN];omega)) only [go_sem])
   )
   all_goals
    (refine cut_next (0) ?_ ?_;(omega);(simp -dsimp -implicitDefEqProofs (maxSteps:=1000000) (disch:=first | omega | (simp only [LN,plB];omega)) only [go_sem,plB];try trivial))
    all_goals first | (refine dec_is ?_;simp only [beq_iff_eq,Bool.false_eq_true,true_iff,false_iff];omega)
  case rest_1 =>
   intro u _
   refine r_cut (α:=Nat) [1,3] (fun u b=>[(4,.p (.v (.bool (woB x))))]) (fun u b=>[]) (fun u=>[]) (fun u=>u≤5) ?I_2 ?hI_2 ?way_2 ?rest_2
   case hI_2=>intro x;(simp -dsimp -implicitDefEqProofs (maxSteps:=1000000) (disch:=first | omega | (simp only [LN];omega)) only [go_sem])<;>exact rfl
   case way_2 =>
    repeat' (first
     | (with_reducible first | apply zY | apply zT | apply zM | apply zN | apply zO | refine qK ?_ | (show False;omega))
     | ((with_reducible first | apply zP | apply zQ | apply zR | apply zL)<;>intro h<;>try (exfalso;first | omega | exact h rfl | (revert h;decide) | (cases h;done)))
     | ((first | (with_reducible first | apply zW | apply zV | apply zU | apply zS | apply zX | show VX _ _ _ _ _ _ _ | show vstep _ _ _ _ _ | show vskip _ _ _ | show withV _ _ | apply qN | apply qR | refine zB default ?_ | refine zC default ?_ | refine qI ?_) | ((with_reducible show pickE _ _ _);refine qA _ ?_));try simp -dsimp -implicitDefEqProofs (maxSteps:=1000000) (disch:=first | omega | (simp only [LN];omega)) only [go_sem])
    )
    all_goals
     (refine cut_next (0) ?_ ?_;(omega);(simp -dsimp -implicitDefEqProofs (maxSteps:=1000000) (disch:=first | omega | (simp only [LN,woB];omega)) only [go_sem,woB];try trivial))
     all_goals first | (refine dec_is ?_;simp only [beq_iff_eq,Bool.false_eq_true,true_iff,false_iff];omega)
   case rest_2 =>
    intro u _
    rcases hks with hk | hk | hk | hk | hk | hk | hk | hk
    all_goals
     cases hp:plB x<;>cases hw:woB x
     all_goals
      simp only [hp,hw,Bool.false_eq_true,true_iff,false_iff] at h1 h2
      repeat' (first
       | (with_reducible first | apply zY | apply zT | apply zM | apply zN | apply zO | refine qK ?_ | (show False;omega))
       | ((with_reducible first | apply zP | apply zQ | apply zR | apply zL)<;>intro h<;>try (exfalso;first | omega | exact h rfl | (revert h;decide) | (cases h;done)))
       | ((first | (with_reducible first | apply zW | apply zV | apply zU | apply zS | apply zX | show VX _ _ _ _ _ _ _ | show vstep _ _ _ _ _ | show vskip _ _ _ | show withV _ _ | apply qN | apply qR | refine zB default ?_ (by first | omega | (simp only [LN,hp,hw,hk];omega)) (by first | omega | (simp only [LN,hp,hw,hk];omega)) | refine zC default ?_ (by first | omega | (simp only [LN,hp,hw,hk];omega)) | refine qI ?_ (by first | decide | omega | assumption | (simp only [LN,hp,hw,hk];omega))) | ((with_reducible show pickE _ _ _);refine qA _ ?_));try simp -dsimp -implicitDefEqProofs (maxSteps:=1000000) (disch:=first | omega | (simp only [LN,hp,hw,hk];omega)) only [go_sem,hp,hw,hk])
      )
      all_goals first | exact okE_0 (by omega) | (refine okE_1 (by assumption) ?_;simp only [decide_eq_true_eq,beq_iff_eq,Bool.false_eq_true,true_iff,false_iff];omega) | (refine okE_2 (by assumption) ?_;simp only [decide_eq_true_eq,beq_iff_eq,Bool.false_eq_true,true_iff,false_iff];omega) | (refine okE_3 (by assumption) ?_;simp only [decide_eq_true_eq,beq_iff_eq,Bool.false_eq_true,true_iff,false_iff];omega) | (refine okE_4 (by assumption) ?_;simp only [decide_eq_true_eq,beq_iff_eq,Bool.false_eq_true,true_iff,false_iff];omega) | (refine okE_5 (by assumption) ?_;simp only [decide_eq_true_eq,beq_iff_eq,Bool.false_eq_true,true_iff,false_iff];omega) | (refine okE_6 (by assumption) ?_;simp only [decide_eq_true_eq,beq_iff_eq,Bool.false_eq_true,true_iff,false_iff];omega) | (refine okE_7 (by assumption) ?_;simp only [decide_eq_true_eq,beq_iff_eq,Bool.false_eq_true,true_iff,false_iff];omega)
theorem rValid (x:Ev) (hc:x.ch.length≤1000000):PCalls Tryz.prog 23 [rE x] (.v (.bool (okE x))):=by
 refine yB (E:=E) (fn:=Tryz.f23) 138 [.tmp 2] rfl rfl rfl rfl (by decide) rfl ?_
 have hks:x.k=1∨x.k=2∨x.k=3∨x.k=4∨x.k=5∨x.k=6∨x.k=7∨(x.k<1∨7<x.k):=by omega
 rcases hks with hk | hk | hk | hk | hk | hk | hk | hk
 all_goals
  repeat' (first
   | (with_reducible first | apply zY | apply zT | apply zM | apply zN | apply zO | refine qK ?_ | (show False;omega))
   | ((with_reducible first | apply zP | apply zQ | apply zR | apply zL)<;>intro h<;>try (exfalso;first | omega | exact h rfl | (revert h;decide) | (cases h;done)))
   | ((first | (with_reducible first | apply zW | apply zV | apply zU | apply zS | apply zX | show VX _ _ _ _ _ _ _ | show vstep _ _ _ _ _ | show vskip _ _ _ | show withV _ _ | apply qN | apply qR | refine zB default ?_ (by first | omega | (simp only [LN,hk];omega)) (by first | omega | (simp only [LN,hk];omega)) | refine zC default ?_ (by first | omega | (simp only [LN,hk];omega)) | refine qI ?_ (by first | decide | omega | assumption | (simp only [LN,hk];omega))) | ((with_reducible show pickE _ _ _);refine qA _ ?_));try simp -dsimp -implicitDefEqProofs (maxSteps:=1000000) (disch:=first | omega | (simp only [LN,hk];omega)) only [go_sem,hk])
  )
  all_goals first | exact okE_0 (by omega) | (refine okE_1 (by assumption) ?_;simp only [decide_eq_true_eq,beq_iff_eq,Bool.false_eq_true,true_iff,false_iff];omega) | (refine okE_2 (by assumption) ?_;simp only [decide_eq_true_eq,beq_iff_eq,Bool.false_eq_true,true_iff,false_iff];omega) | (refine okE_3 (by assumption) ?_;simp only [decide_eq_true_eq,beq_iff_eq,Bool.false_eq_true,true_iff,false_iff];omega) | (refine okE_4 (by assumption) ?_;simp only [decide_eq_true_eq,beq_iff_eq,Bool.false_eq_true,true_iff,false_iff];omega) | (refine okE_5 (by assumption) ?_;simp only [decide_eq_true_eq,beq_iff_eq,Bool.false_eq_true,true_iff,false_iff];omega) | (refine okE_6 (by assumption) ?_;simp only [decide_eq_true_eq,beq_iff_eq,Bool.false_eq_true,true_iff,false_iff];omega) | (refine okE_7 (by assumption) ?_;simp only [decide_eq_true_eq,beq_iff_eq,Bool.false_eq_true,true_iff,false_iff];omega)
end Go.Proofs.YtckhjklcfagkoaaGreatDoor
namespace Go.Proofs.YtckhjklcfagkoaaGreatDoor
open Go Go.Ab
attribute [local irreducible] callK callF loopQ vstep vskip pickE hideP
open Go.RowKit
set_option maxRecDepth 100000
attribute [local go_sem] eE rE eT bs_inj ext_bs byteAt_bs
attribute [local irreducible] numL
def nmS:List (List UInt8):=[[],[115,116,111,114,101],[99,97,115],[102,108,117,115,104],[102,101,110,99,101],[119,114,105,116,101,98,97,99,107],[97,114,109],[99,114,97,115,104]]
theorem hexL_take {l:List UInt8} {i:Nat} (h:i<l.length):hexL (l.take (i+1))=hexL (l.take i)++[hexS.getD ((l.getD i default).toNat / 16) 0,hexS.getD ((l.getD i default).toNat % 16) 0]:=by
 have e:l.getD i default=l[i]:=by simp [List.getD_eq_getElem?_getD,h]
 rw [List.take_add_one,hexL_app,e,List.getElem?_eq_getElem h];rfl
theorem chL_e {l:List UInt8} (h:¬ l.length=0):chL l=hexL l:=by
 cases l with
 | nil=>exact absurd rfl h
 | cons b l=>rfl
end Go.Proofs.YtckhjklcfagkoaaGreatDoor
