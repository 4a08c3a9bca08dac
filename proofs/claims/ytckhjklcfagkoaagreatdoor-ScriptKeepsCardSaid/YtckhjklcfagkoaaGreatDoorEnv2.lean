/- The types of this program, as tables, and what is known of its package-level variables. No conditions. -/
import Derived.Test.YtckhjklcfagkoaaGreatDoorAc4
import Derived.Test.YtckhjklcfagkoaaGreatDoorProg
import Derived.KernelRfl
namespace Go.Proofs.YtckhjklcfagkoaaGreatDoor
open Go Go.Ab
theorem gn0:Tryz.prog.globalNamed "internal/strconv.uint64pow10"=some 1:=by kernel_rfl
def Gl (Z:Nat→Prop) (w:World):Prop:=(Z 1∧Z 0)∧Lib.TabIs Tryz.prog w "internal/strconv.uint64pow10" .u64 Lib.pow10Tab∧∃ m,w.cell? ⟨0,0,none⟩=some (.int .i64 m)
noncomputable instance:Glob where
 G:=Gl
 mono:=fun hz hk h=>⟨⟨hz _ h.1.1,hz _ h.1.2⟩,tabIs_keep gn0 (hk _ h.1.1) h.2.1,by obtain ⟨m,hm⟩:=h.2.2;exact ⟨m,by rw [← hm];exact cell_of_heap (hk _ h.1.2)⟩⟩
 tab:=[]
 bld:=130
 slots:=slotOf [(62,25),(82,26),(31,26),(37,26),(81,6),(86,6),(38,6),(40,6),(35,6),(43,6),(11,26),(16,26),(28,28),(8,28),(15,26),(30,6),(50,2),(78,2),(13,2),(18,2)]
 ok:=fun _ h=>by simp [gfind] at h
instance:Quick:=⟨fun h=>h⟩
@[go_sem] theorem bldE:(Glob.bld:TypeId)=130:=rfl
@[go_sem] theorem slotsE (g:Nat):Glob.slots g=slotOf [(62,25),(82,26),(31,26),(37,26),(81,6),(86,6),(38,6),(40,6),(35,6),(43,6),(11,26),(16,26),(28,28),(8,28),(15,26),(30,6),(50,2),(78,2),(13,2),(18,2)] g:=rfl
def u2:TyI:=TyI.mk (TK.int .i64) 1 8 ((Value.int .i64 0)::[]) false false
def u3:TyI:=TyI.mk (TK.int .i64) 1 8 ((Value.int .i64 0)::[]) false false
def u4:TyI:=TyI.mk TK.bool 1 1 ((Value.bool false)::[]) false false
def u5:TyI:=TyI.mk (TK.int .u8) 1 1 ((Value.int .u8 0)::[]) false false
def u6:TyI:=TyI.mk (TK.int .u8) 1 1 ((Value.int .u8 0)::[]) false false
def u7:TyI:=TyI.mk (TK.struct (⟨0,1,2,true,false⟩::(⟨1,1,3,true,false⟩::(⟨2,1,4,true,false⟩::(⟨3,1,6,true,false⟩::[]))))) 4 24 ((Value.int .i64 0)::((Value.int .i64 0)::((Value.bool false)::((Value.int .u8 0)::[])))) false false
def u8:TyI:=TyI.mk (TK.struct (⟨0,1,2,true,false⟩::(⟨1,1,3,true,false⟩::(⟨2,1,4,true,false⟩::(⟨3,1,6,true,false⟩::[]))))) 4 24 ((Value.int .i64 0)::((Value.int .i64 0)::((Value.bool false)::((Value.int .u8 0)::[])))) false false
def u9:TyI:=TyI.mk TK.str 1 16 ((Value.string (ByteArray.mk (Array.mk [])))::[]) false false
def u10:TyI:=TyI.mk TK.str 1 16 ((Value.string (ByteArray.mk (Array.mk [])))::[]) false false
def u11:TyI:=TyI.mk TK.str 1 16 ((Value.string (ByteArray.mk (Array.mk [])))::[]) false false
def u12:TyI:=TyI.mk (TK.int .u64) 1 8 ((Value.int .u64 0)::[]) false false
def u13:TyI:=TyI.mk (TK.struct (⟨0,1,9,true,false⟩::(⟨1,1,12,true,false⟩::[]))) 2 24 ((Value.string (ByteArray.mk (Array.mk [])))::((Value.int .u64 0)::[])) true false
def u14:TyI:=TyI.mk (TK.struct (⟨0,1,9,true,false⟩::(⟨1,1,12,true,false⟩::[]))) 2 24 ((Value.string (ByteArray.mk (Array.mk [])))::((Value.int .u64 0)::[])) true false
def u15:TyI:=TyI.mk (TK.ptr 221) 1 8 ((Value.pointer none)::[]) false false
def u16:TyI:=TyI.mk (TK.ptr 224) 1 8 ((Value.pointer none)::[]) false false
def u17:TyI:=TyI.mk (TK.ptr 231) 1 8 ((Value.pointer none)::[]) false false
def u18:TyI:=TyI.mk (TK.struct (⟨0,1,17,true,false⟩::[])) 1 8 ((Value.pointer none)::[]) true false
def u19:TyI:=TyI.mk (TK.struct (⟨0,1,17,true,false⟩::[])) 1 8 ((Value.pointer none)::[]) true false
def u20:TyI:=TyI.mk (TK.iface true) 1 16 (Value.nilIface::[]) false false
def u22:TyI:=TyI.mk (TK.slice 69 6 48 (Value.agg (Array.mk ((Value.int .i64 0)::((Value.int .i64 0)::((Value.int .u64 0)::((Value.int .u64 0)::((Value.int .u64 0)::((Value.int .i64 0)::[]))))))))) 1 24 ((Value.slice none 0 0)::[]) false false
def u24:TyI:=TyI.mk (TK.struct (⟨0,1,3,true,false⟩::(⟨1,1,22,true,false⟩::[]))) 2 32 ((Value.int .i64 0)::((Value.slice none 0 0)::[])) false false
def u25:TyI:=TyI.mk (TK.slice 35 8 80 (Value.agg (Array.mk ((Value.int .i64 0)::((Value.int .i64 0)::((Value.int .u64 0)::((Value.int .u64 0)::((Value.int .u64 0)::((Value.int .i64 0)::((Value.int .i64 0)::((Value.slice none 0 0)::[]))))))))))) 1 24 ((Value.slice none 0 0)::[]) false false
def u26:TyI:=TyI.mk (TK.ptr 114) 1 8 ((Value.pointer none)::[]) false false
def u27:TyI:=TyI.mk (TK.ptr 86) 1 8 ((Value.pointer none)::[]) false false
def u28:TyI:=TyI.mk TK.other 1 0 ((Value.tuple (Array.mk ((Value.pointer none)::((Value.pointer none)::[]))))::[]) false false
def u32:TyI:=TyI.mk (TK.int .u64) 1 8 ((Value.int .u64 0)::[]) false false
def u33:TyI:=TyI.mk (TK.slice 5 1 1 (Value.int .u8 0)) 1 24 ((Value.slice none 0 0)::[]) false false
def u34:TyI:=TyI.mk (TK.struct (⟨0,1,3,true,false⟩::(⟨1,1,3,true,false⟩::(⟨2,1,32,true,false⟩::(⟨3,1,32,true,false⟩::(⟨4,1,32,true,false⟩::(⟨5,1,3,true,false⟩::(⟨6,1,3,true,false⟩::(⟨7,1,33,true,false⟩::[]))))))))) 8 80 ((Value.int .i64 0)::((Value.int .i64 0)::((Value.int .u64 0)::((Value.int .u64 0)::((Value.int .u64 0)::((Value.int .i64 0)::((Value.int .i64 0)::((Value.slice none 0 0)::[])))))))) false false
def u35:TyI:=TyI.mk (TK.struct (⟨0,1,3,true,false⟩::(⟨1,1,3,true,false⟩::(⟨2,1,32,true,false⟩::(⟨3,1,32,true,false⟩::(⟨4,1,32,true,false⟩::(⟨5,1,3,true,false⟩::(⟨6,1,3,true,false⟩::(⟨7,1,33,true,false⟩::[]))))))))) 8 80 ((Value.int .i64 0)::((Value.int .i64 0)::((Value.int .u64 0)::((Value.int .u64 0)::((Value.int .u64 0)::((Value.int .i64 0)::((Value.int .i64 0)::((Value.slice none 0 0)::[])))))))) false false
def u36:TyI:=TyI.mk (TK.int .i64) 1 8 ((Value.int .i64 0)::[]) false false
def u37:TyI:=TyI.mk TK.other 1 0 ((Value.tuple (Array.mk ((Value.pointer none)::((Value.bool false)::((Value.int .i64 0)::[])))))::[]) false false
def u38:TyI:=TyI.mk TK.func 1 8 (Value.nilFunc::[]) false false
def u39:TyI:=TyI.mk (TK.int .u8) 1 1 ((Value.int .u8 0)::[]) false false
def u40:TyI:=TyI.mk (TK.struct (⟨0,1,39,true,false⟩::(⟨1,1,3,true,false⟩::(⟨2,1,32,true,false⟩::(⟨3,1,32,true,false⟩::(⟨4,1,32,true,false⟩::(⟨5,1,3,true,false⟩::(⟨6,1,3,true,false⟩::(⟨7,1,33,true,false⟩::[]))))))))) 8 80 ((Value.int .u8 0)::((Value.int .i64 0)::((Value.int .u64 0)::((Value.int .u64 0)::((Value.int .u64 0)::((Value.int .i64 0)::((Value.int .i64 0)::((Value.slice none 0 0)::[])))))))) false false
def u41:TyI:=TyI.mk (TK.struct (⟨0,1,39,true,false⟩::(⟨1,1,3,true,false⟩::(⟨2,1,32,true,false⟩::(⟨3,1,32,true,false⟩::(⟨4,1,32,true,false⟩::(⟨5,1,3,true,false⟩::(⟨6,1,3,true,false⟩::(⟨7,1,33,true,false⟩::[]))))))))) 8 80 ((Value.int .u8 0)::((Value.int .i64 0)::((Value.int .u64 0)::((Value.int .u64 0)::((Value.int .u64 0)::((Value.int .i64 0)::((Value.int .i64 0)::((Value.slice none 0 0)::[])))))))) false false
def u43:TyI:=TyI.mk TK.other 1 0 ((Value.tuple (Array.mk ((Value.pointer none)::((Value.bool false)::((Value.int .i64 0)::[])))))::[]) false false
def u44:TyI:=TyI.mk TK.func 1 8 (Value.nilFunc::[]) false false
def u46:TyI:=TyI.mk TK.func 1 8 (Value.nilFunc::[]) false false
def u48:TyI:=TyI.mk TK.other 1 0 ((Value.tuple (Array.mk ((Value.pointer none)::((Value.int .i64 0)::[]))))::[]) false false
def u50:TyI:=TyI.mk (TK.slice 41 8 80 (Value.agg (Array.mk ((Value.int .u8 0)::((Value.int .i64 0)::((Value.int .u64 0)::((Value.int .u64 0)::((Value.int .u64 0)::((Value.int .i64 0)::((Value.int .i64 0)::((Value.slice none 0 0)::[]))))))))))) 1 24 ((Value.slice none 0 0)::[]) false false
def u51:TyI:=TyI.mk TK.func 1 8 (Value.nilFunc::[]) false false
def u52:TyI:=TyI.mk TK.other 1 0 ((Value.tuple (Array.mk ((Value.pointer none)::((Value.int .i64 0)::[]))))::[]) false false
def u59:TyI:=TyI.mk TK.func 1 8 (Value.nilFunc::[]) false false
def u60:TyI:=TyI.mk TK.other 1 0 ((Value.tuple (Array.mk ((Value.slice none 0 0)::((Value.int .i64 0)::((Value.int .i64 0)::[])))))::[]) false false
def u61:TyI:=TyI.mk TK.func 1 8 (Value.nilFunc::[]) false false
def u64:TyI:=TyI.mk TK.func 1 8 (Value.nilFunc::[]) false false
def u68:TyI:=TyI.mk (TK.struct (⟨0,1,3,true,false⟩::(⟨1,1,3,true,false⟩::(⟨2,1,32,true,false⟩::(⟨3,1,32,true,false⟩::(⟨4,1,32,true,false⟩::(⟨5,1,3,true,false⟩::[]))))))) 6 48 ((Value.int .i64 0)::((Value.int .i64 0)::((Value.int .u64 0)::((Value.int .u64 0)::((Value.int .u64 0)::((Value.int .i64 0)::[])))))) false false
def u69:TyI:=TyI.mk (TK.struct (⟨0,1,3,true,false⟩::(⟨1,1,3,true,false⟩::(⟨2,1,32,true,false⟩::(⟨3,1,32,true,false⟩::(⟨4,1,32,true,false⟩::(⟨5,1,3,true,false⟩::[]))))))) 6 48 ((Value.int .i64 0)::((Value.int .i64 0)::((Value.int .u64 0)::((Value.int .u64 0)::((Value.int .u64 0)::((Value.int .i64 0)::[])))))) false false
def u72:TyI:=TyI.mk (TK.ptr 122) 1 8 ((Value.pointer none)::[]) false false
def u74:TyI:=TyI.mk TK.func 1 8 (Value.nilFunc::[]) false false
def u80:TyI:=TyI.mk TK.func 1 8 (Value.nilFunc::[]) false false
def u81:TyI:=TyI.mk (TK.slice 103 10 96 (Value.agg (Array.mk ((Value.int .u64 0)::((Value.int .u64 0)::((Value.int .u64 0)::((Value.int .u64 0)::((Value.int .u64 0)::((Value.int .u64 0)::((Value.int .u64 0)::((Value.int .u64 0)::((Value.slice none 0 0)::((Value.int .i64 0)::[]))))))))))))) 1 24 ((Value.slice none 0 0)::[]) false false
def u82:TyI:=TyI.mk (TK.slice 155 2 16 (Value.agg (Array.mk ((Value.int .i64 0)::((Value.int .i64 0)::[]))))) 1 24 ((Value.slice none 0 0)::[]) false false
def u83:TyI:=TyI.mk (TK.arr 8 82 1 false) 8 192 ((Value.slice none 0 0)::((Value.slice none 0 0)::((Value.slice none 0 0)::((Value.slice none 0 0)::((Value.slice none 0 0)::((Value.slice none 0 0)::((Value.slice none 0 0)::((Value.slice none 0 0)::[])))))))) false false
def u84:TyI:=TyI.mk (TK.arr 8 3 1 false) 8 64 ((Value.int .i64 0)::((Value.int .i64 0)::((Value.int .i64 0)::((Value.int .i64 0)::((Value.int .i64 0)::((Value.int .i64 0)::((Value.int .i64 0)::((Value.int .i64 0)::[])))))))) false false
def u86:TyI:=TyI.mk (TK.struct (⟨0,1,81,true,false⟩::(⟨1,8,83,true,true⟩::(⟨9,8,84,true,true⟩::(⟨17,1,3,true,false⟩::(⟨18,1,4,true,false⟩::(⟨19,1,32,true,false⟩::[]))))))) 20 304 ((Value.slice none 0 0)::((Value.slice none 0 0)::((Value.slice none 0 0)::((Value.slice none 0 0)::((Value.slice none 0 0)::((Value.slice none 0 0)::((Value.slice none 0 0)::((Value.slice none 0 0)::((Value.slice none 0 0)::((Value.int .i64 0)::((Value.int .i64 0)::((Value.int .i64 0)::((Value.int .i64 0)::((Value.int .i64 0)::((Value.int .i64 0)::((Value.int .i64 0)::((Value.int .i64 0)::((Value.int .i64 0)::((Value.bool false)::((Value.int .u64 0)::[])))))))))))))))))))) false false
def u87:TyI:=TyI.mk TK.func 1 8 (Value.nilFunc::[]) false false
def u94:TyI:=TyI.mk TK.func 1 8 (Value.nilFunc::[]) false false
def u95:TyI:=TyI.mk TK.func 1 8 (Value.nilFunc::[]) false false
def u96:TyI:=TyI.mk TK.func 1 8 (Value.nilFunc::[]) false false
def u97:TyI:=TyI.mk (TK.slice 3 1 8 (Value.int .i64 0)) 1 24 ((Value.slice none 0 0)::[]) false false
def u98:TyI:=TyI.mk TK.func 1 8 (Value.nilFunc::[]) false false
def u100:TyI:=TyI.mk (TK.arr 8 32 1 false) 8 64 ((Value.int .u64 0)::((Value.int .u64 0)::((Value.int .u64 0)::((Value.int .u64 0)::((Value.int .u64 0)::((Value.int .u64 0)::((Value.int .u64 0)::((Value.int .u64 0)::[])))))))) false false
def u101:TyI:=TyI.mk (TK.slice 159 2 16 (Value.agg (Array.mk ((Value.int .u64 0)::((Value.int .u64 0)::[]))))) 1 24 ((Value.slice none 0 0)::[]) false false
def u103:TyI:=TyI.mk (TK.struct (⟨0,8,100,true,true⟩::(⟨8,1,101,true,false⟩::(⟨9,1,3,true,false⟩::[])))) 10 96 ((Value.int .u64 0)::((Value.int .u64 0)::((Value.int .u64 0)::((Value.int .u64 0)::((Value.int .u64 0)::((Value.int .u64 0)::((Value.int .u64 0)::((Value.int .u64 0)::((Value.slice none 0 0)::((Value.int .i64 0)::[])))))))))) false false
def u105:TyI:=TyI.mk (TK.slice 119 2 16 (Value.agg (Array.mk ((Value.int .u64 0)::((Value.int .u64 0)::[]))))) 1 24 ((Value.slice none 0 0)::[]) false false
def u107:TyI:=TyI.mk TK.func 1 8 (Value.nilFunc::[]) false false
def u109:TyI:=TyI.mk (TK.slice 32 1 8 (Value.int .u64 0)) 1 24 ((Value.slice none 0 0)::[]) false false
def u111:TyI:=TyI.mk (TK.slice 116 2 32 (Value.agg (Array.mk ((Value.int .u64 0)::((Value.slice none 0 0)::[]))))) 1 24 ((Value.slice none 0 0)::[]) false false
def u112:TyI:=TyI.mk (TK.arr 8 72 1 false) 8 64 ((Value.pointer none)::((Value.pointer none)::((Value.pointer none)::((Value.pointer none)::((Value.pointer none)::((Value.pointer none)::((Value.pointer none)::((Value.pointer none)::[])))))))) false false
def u113:TyI:=TyI.mk (TK.struct (⟨0,1,109,true,false⟩::(⟨1,1,109,true,false⟩::(⟨2,1,111,true,false⟩::(⟨3,8,112,true,true⟩::(⟨11,1,4,true,false⟩::(⟨12,1,4,true,false⟩::(⟨13,1,3,true,false⟩::(⟨14,1,32,true,false⟩::[]))))))))) 15 160 ((Value.slice none 0 0)::((Value.slice none 0 0)::((Value.slice none 0 0)::((Value.pointer none)::((Value.pointer none)::((Value.pointer none)::((Value.pointer none)::((Value.pointer none)::((Value.pointer none)::((Value.pointer none)::((Value.pointer none)::((Value.bool false)::((Value.bool false)::((Value.int .i64 0)::((Value.int .u64 0)::[]))))))))))))))) false false
def u114:TyI:=TyI.mk (TK.struct (⟨0,1,109,true,false⟩::(⟨1,1,109,true,false⟩::(⟨2,1,111,true,false⟩::(⟨3,8,112,true,true⟩::(⟨11,1,4,true,false⟩::(⟨12,1,4,true,false⟩::(⟨13,1,3,true,false⟩::(⟨14,1,32,true,false⟩::[]))))))))) 15 160 ((Value.slice none 0 0)::((Value.slice none 0 0)::((Value.slice none 0 0)::((Value.pointer none)::((Value.pointer none)::((Value.pointer none)::((Value.pointer none)::((Value.pointer none)::((Value.pointer none)::((Value.pointer none)::((Value.pointer none)::((Value.bool false)::((Value.bool false)::((Value.int .i64 0)::((Value.int .u64 0)::[]))))))))))))))) false false
def u116:TyI:=TyI.mk (TK.struct (⟨0,1,32,true,false⟩::(⟨1,1,105,true,false⟩::[]))) 2 32 ((Value.int .u64 0)::((Value.slice none 0 0)::[])) false false
def u117:TyI:=TyI.mk TK.func 1 8 (Value.nilFunc::[]) false false
def u119:TyI:=TyI.mk (TK.struct (⟨0,1,32,true,false⟩::(⟨1,1,32,true,false⟩::[]))) 2 16 ((Value.int .u64 0)::((Value.int .u64 0)::[])) false false
def u120:TyI:=TyI.mk (TK.map 3 32 (Value.int .u64 0)) 1 8 ((Value.map none)::[]) false false
def u121:TyI:=TyI.mk (TK.struct (⟨0,1,26,true,false⟩::(⟨1,1,3,true,false⟩::(⟨2,1,36,true,false⟩::(⟨3,1,120,true,false⟩::[]))))) 4 32 ((Value.pointer none)::((Value.int .i64 0)::((Value.int .i64 0)::((Value.map none)::[])))) false false
def u122:TyI:=TyI.mk (TK.struct (⟨0,1,26,true,false⟩::(⟨1,1,3,true,false⟩::(⟨2,1,36,true,false⟩::(⟨3,1,120,true,false⟩::[]))))) 4 32 ((Value.pointer none)::((Value.int .i64 0)::((Value.int .i64 0)::((Value.map none)::[])))) false false
def u124:TyI:=TyI.mk TK.func 1 8 (Value.nilFunc::[]) false false
def u128:TyI:=TyI.mk (TK.ptr 130) 1 8 ((Value.pointer none)::[]) false false
def u129:TyI:=TyI.mk (TK.struct (⟨0,1,128,true,false⟩::(⟨1,1,33,true,false⟩::[]))) 2 32 ((Value.pointer none)::((Value.slice none 0 0)::[])) false false
def u130:TyI:=TyI.mk (TK.struct (⟨0,1,128,true,false⟩::(⟨1,1,33,true,false⟩::[]))) 2 32 ((Value.pointer none)::((Value.slice none 0 0)::[])) false false
def u132:TyI:=TyI.mk (TK.iface false) 1 16 (Value.nilIface::[]) false true
def u133:TyI:=TyI.mk TK.other 1 0 ((Value.tuple (Array.mk ((Value.int .i64 0)::(Value.nilIface::[]))))::[]) false false
def u134:TyI:=TyI.mk TK.func 1 8 (Value.nilFunc::[]) false false
def u137:TyI:=TyI.mk TK.other 1 0 ((Value.tuple (Array.mk ((Value.string (ByteArray.mk (Array.mk [])))::((Value.string (ByteArray.mk (Array.mk [])))::((Value.bool false)::[])))))::[]) false false
def u139:TyI:=TyI.mk TK.other 1 0 ((Value.tuple (Array.mk ((Value.agg (Array.mk ((Value.int .u8 0)::((Value.int .i64 0)::((Value.int .u64 0)::((Value.int .u64 0)::((Value.int .u64 0)::((Value.int .i64 0)::((Value.int .i64 0)::((Value.slice none 0 0)::[]))))))))))::((Value.bool false)::[]))))::[]) false false
def u140:TyI:=TyI.mk TK.func 1 8 (Value.nilFunc::[]) false false
def u141:TyI:=TyI.mk TK.func 1 8 (Value.nilFunc::[]) false false
def u147:TyI:=TyI.mk TK.func 1 8 (Value.nilFunc::[]) false false
def u148:TyI:=TyI.mk TK.func 1 8 (Value.nilFunc::[]) false false
def u150:TyI:=TyI.mk (TK.ptr 116) 1 8 ((Value.pointer none)::[]) false false
def u152:TyI:=TyI.mk TK.func 1 8 (Value.nilFunc::[]) false false
def u155:TyI:=TyI.mk (TK.struct (⟨0,1,3,true,false⟩::(⟨1,1,3,true,false⟩::[]))) 2 16 ((Value.int .i64 0)::((Value.int .i64 0)::[])) false false
def u157:TyI:=TyI.mk (TK.ptr 32) 1 8 ((Value.pointer none)::[]) false false
def u159:TyI:=TyI.mk (TK.struct (⟨0,1,32,true,false⟩::(⟨1,1,32,true,false⟩::[]))) 2 16 ((Value.int .u64 0)::((Value.int .u64 0)::[])) false false
def u160:TyI:=TyI.mk TK.func 1 8 (Value.nilFunc::[]) false false
def u161:TyI:=TyI.mk (TK.int .u64) 1 8 ((Value.int .u64 0)::[]) false false
def u162:TyI:=TyI.mk (TK.slice 9 1 16 (Value.string (ByteArray.mk (Array.mk [])))) 1 24 ((Value.slice none 0 0)::[]) false false
def u164:TyI:=TyI.mk (TK.ptr 5) 1 8 ((Value.pointer none)::[]) false false
def u165:TyI:=TyI.mk (TK.ptr 168) 1 8 ((Value.pointer none)::[]) false false
def u168:TyI:=TyI.mk (TK.struct (⟨0,1,162,true,false⟩::(⟨1,1,4,true,false⟩::[]))) 2 32 ((Value.slice none 0 0)::((Value.bool false)::[])) false false
def u169:TyI:=TyI.mk TK.func 1 8 (Value.nilFunc::[]) false false
def u171:TyI:=TyI.mk (TK.ptr 103) 1 8 ((Value.pointer none)::[]) false false
def u174:TyI:=TyI.mk TK.func 1 8 (Value.nilFunc::[]) false false
def u175:TyI:=TyI.mk TK.func 1 8 (Value.nilFunc::[]) false false
def u177:TyI:=TyI.mk TK.other 1 0 ((Value.tuple (Array.mk ((Value.int .u64 0)::(Value.nilIface::[]))))::[]) false false
def u184:TyI:=TyI.mk (TK.arr 24 5 1 false) 24 24 ((Value.int .u8 0)::((Value.int .u8 0)::((Value.int .u8 0)::((Value.int .u8 0)::((Value.int .u8 0)::((Value.int .u8 0)::((Value.int .u8 0)::((Value.int .u8 0)::((Value.int .u8 0)::((Value.int .u8 0)::((Value.int .u8 0)::((Value.int .u8 0)::((Value.int .u8 0)::((Value.int .u8 0)::((Value.int .u8 0)::((Value.int .u8 0)::((Value.int .u8 0)::((Value.int .u8 0)::((Value.int .u8 0)::((Value.int .u8 0)::((Value.int .u8 0)::((Value.int .u8 0)::((Value.int .u8 0)::((Value.int .u8 0)::[])))))))))))))))))))))))) false false
def u185:TyI:=TyI.mk TK.func 1 8 (Value.nilFunc::[]) false false
def u187:TyI:=TyI.mk TK.other 1 0 ((Value.tuple (Array.mk ((Value.slice none 0 0)::((Value.string (ByteArray.mk (Array.mk [])))::[]))))::[]) false false
def u189:TyI:=TyI.mk (TK.int .u32) 1 4 ((Value.int .u32 0)::[]) false false
def u191:TyI:=TyI.mk TK.func 1 8 (Value.nilFunc::[]) false false
def u192:TyI:=TyI.mk TK.func 1 8 (Value.nilFunc::[]) false false
def u194:TyI:=TyI.mk TK.func 1 8 (Value.nilFunc::[]) false false
def u202:TyI:=TyI.mk (TK.arr 20 32 1 false) 20 160 ((Value.int .u64 0)::((Value.int .u64 0)::((Value.int .u64 0)::((Value.int .u64 0)::((Value.int .u64 0)::((Value.int .u64 0)::((Value.int .u64 0)::((Value.int .u64 0)::((Value.int .u64 0)::((Value.int .u64 0)::((Value.int .u64 0)::((Value.int .u64 0)::((Value.int .u64 0)::((Value.int .u64 0)::((Value.int .u64 0)::((Value.int .u64 0)::((Value.int .u64 0)::((Value.int .u64 0)::((Value.int .u64 0)::((Value.int .u64 0)::[])))))))))))))))))))) false false
def u206:TyI:=TyI.mk TK.func 1 8 (Value.nilFunc::[]) false false
def u210:TyI:=TyI.mk TK.func 1 8 (Value.nilFunc::[]) false false
def u221:TyI:=TyI.mk (TK.struct (⟨0,1,17,true,false⟩::(⟨1,1,17,true,false⟩::(⟨2,1,17,true,false⟩::(⟨3,1,9,true,false⟩::[]))))) 4 40 ((Value.pointer none)::((Value.pointer none)::((Value.pointer none)::((Value.string (ByteArray.mk (Array.mk [])))::[])))) true false
def u222:TyI:=TyI.mk (TK.arr 0 16 1 false) 0 0 [] false false
def u224:TyI:=TyI.mk (TK.struct (⟨0,0,222,false,true⟩::[])) 0 0 [] true false
def u225:TyI:=TyI.mk (TK.int .u8) 1 1 ((Value.int .u8 0)::[]) false false
def u226:TyI:=TyI.mk (TK.int .u8) 1 1 ((Value.int .u8 0)::[]) false false
def u227:TyI:=TyI.mk TK.func 1 8 (Value.nilFunc::[]) false false
def u228:TyI:=TyI.mk (TK.int .i32) 1 4 ((Value.int .i32 0)::[]) false false
def u229:TyI:=TyI.mk (TK.int .i32) 1 4 ((Value.int .i32 0)::[]) false false
def u231:TyI:=TyI.mk (TK.struct (⟨0,1,12,true,false⟩::(⟨1,1,12,true,false⟩::(⟨2,1,189,true,false⟩::(⟨3,1,225,true,false⟩::(⟨4,1,5,true,false⟩::(⟨5,1,5,true,false⟩::(⟨6,1,226,true,false⟩::(⟨7,1,227,true,false⟩::(⟨8,1,164,true,false⟩::(⟨9,1,228,true,false⟩::(⟨10,1,229,true,false⟩::[])))))))))))) 11 48 ((Value.int .u64 0)::((Value.int .u64 0)::((Value.int .u32 0)::((Value.int .u8 0)::((Value.int .u8 0)::((Value.int .u8 0)::((Value.int .u8 0)::(Value.nilFunc::((Value.pointer none)::((Value.int .i32 0)::((Value.int .i32 0)::[]))))))))))) true false
attribute [go_sem] u2 u3 u4 u5 u6 u7 u8 u9 u10 u11 u12 u13 u14 u15 u16 u17 u18 u19 u20 u22 u24 u25 u26 u27 u28 u32 u33 u34 u35 u36 u37 u38 u39 u40 u41 u43 u44 u46 u48 u50 u51 u52 u59 u60 u61 u64 u68 u69 u72 u74 u80 u81 u82 u83 u84 u86 u87 u94 u95 u96 u97 u98 u100 u101 u103 u105 u107 u109 u111 u112 u113 u114 u116 u117 u119 u120 u121 u122 u124 u128 u129 u130 u132 u133 u134 u137 u139 u140 u141 u147 u148 u150 u152 u155 u157 u159 u160 u161 u162 u164 u165 u168 u169 u171 u174 u175 u177 u184 u185 u187 u189 u191 u192 u194 u202 u206 u210 u221 u222 u224 u225 u226 u227 u228 u229 u231
noncomputable def tys:List (TypeId × TyI):=[
 (2,u2),
 (3,u3),
 (4,u4),
 (5,u5),
 (6,u6),
 (7,u7),
 (8,u8),
 (9,u9),
 (10,u10),
 (11,u11),
 (12,u12),
 (13,u13),
 (14,u14),
 (15,u15),
 (16,u16),
 (17,u17),
 (18,u18),
 (19,u19),
 (20,u20),
 (22,u22),
 (24,u24),
 (25,u25),
 (26,u26),
 (27,u27),
 (28,u28),
 (32,u32),
 (33,u33),
 (34,u34),
 (35,u35),
 (36,u36),
 (37,u37),
 (38,u38),
 (39,u39),
 (40,u40),
 (41,u41),
 (43,u43),
 (44,u44),
 (46,u46),
 (48,u48),
 (50,u50),
 (51,u51),
 (52,u52),
 (59,u59),
 (60,u60),
 (61,u61),
 (64,u64),
 (68,u68),
 (69,u69),
 (72,u72),
 (74,u74),
 (80,u80),
 (81,u81),
 (82,u82),
 (83,u83),
 (84,u84),
 (86,u86),
 (87,u87),
 (94,u94),
 (95,u95),
 (96,u96),
 (97,u97),
 (98,u98),
 (100,u100),
 (101,u101),
 (103,u103),
 (105,u105),
 (107,u107),
 (109,u109),
 (111,u111),
 (112,u112),
 (113,u113),
 (114,u114),
 (116,u116),
 (117,u117),
 (119,u119),
 (120,u120),
 (121,u121),
 (122,u122),
 (124,u124),
 (128,u128),
 (129,u129),
 (130,u130),
 (132,u132),
 (133,u133),
 (134,u134),
 (137,u137),
 (139,u139),
 (140,u140),
 (141,u141),
 (147,u147),
 (148,u148),
 (150,u150),
 (152,u152),
 (155,u155),
 (157,u157),
 (159,u159),
 (160,u160),
 (161,u161),
 (162,u162),
 (164,u164),
 (165,u165),
 (168,u168),
 (169,u169),
 (171,u171),
 (174,u174),
 (175,u175),
 (177,u177),
 (184,u184),
 (185,u185),
 (187,u187),
 (189,u189),
 (191,u191),
 (192,u192),
 (194,u194),
 (202,u202),
 (206,u206),
 (210,u210),
 (221,u221),
 (222,u222),
 (224,u224),
 (225,u225),
 (226,u226),
 (227,u227),
 (228,u228),
 (229,u229),
 (231,u231)
]
theorem tysOk:tys.map (fun p=>tyOf Tryz.prog p.1)=tys.map (fun p=>some p.2):=by kernel_rfl
theorem mixed:Tryz.prog.follows .mixedOrders=true:=by kernel_rfl
noncomputable def E:Env:=⟨Tryz.prog,tys,tfind_ok tysOk,mixed⟩
@[go_sem] theorem ty2:tfind E.tys 2=some u2:=rfl
@[go_sem] theorem ty3:tfind E.tys 3=some u3:=rfl
@[go_sem] theorem ty4:tfind E.tys 4=some u4:=rfl
@[go_sem] theorem ty5:tfind E.tys 5=some u5:=rfl
@[go_sem] theorem ty6:tfind E.tys 6=some u6:=rfl
@[go_sem] theorem ty7:tfind E.tys 7=some u7:=rfl
@[go_sem] theorem ty8:tfind E.tys 8=some u8:=rfl
@[go_sem] theorem ty9:tfind E.tys 9=some u9:=rfl
@[go_sem] theorem ty10:tfind E.tys 10=some u10:=rfl
@[go_sem] theorem ty11:tfind E.tys 11=some u11:=rfl
@[go_sem] theorem ty12:tfind E.tys 12=some u12:=rfl
@[go_sem] theorem ty13:tfind E.tys 13=some u13:=rfl
@[go_sem] theorem ty14:tfind E.tys 14=some u14:=rfl
@[go_sem] theorem ty18:tfind E.tys 18=some u18:=rfl
@[go_sem] theorem ty19:tfind E.tys 19=some u19:=rfl
@[go_sem] theorem ty20:tfind E.tys 20=some u20:=rfl
@[go_sem] theorem ty22:tfind E.tys 22=some u22:=rfl
@[go_sem] theorem ty24:tfind E.tys 24=some u24:=rfl
@[go_sem] theorem ty25:tfind E.tys 25=some u25:=rfl
@[go_sem] theorem ty32:tfind E.tys 32=some u32:=rfl
@[go_sem] theorem ty33:tfind E.tys 33=some u33:=rfl
@[go_sem] theorem ty34:tfind E.tys 34=some u34:=rfl
@[go_sem] theorem ty35:tfind E.tys 35=some u35:=rfl
@[go_sem] theorem ty36:tfind E.tys 36=some u36:=rfl
@[go_sem] theorem ty39:tfind E.tys 39=some u39:=rfl
@[go_sem] theorem ty40:tfind E.tys 40=some u40:=rfl
@[go_sem] theorem ty41:tfind E.tys 41=some u41:=rfl
@[go_sem] theorem ty50:tfind E.tys 50=some u50:=rfl
@[go_sem] theorem ty68:tfind E.tys 68=some u68:=rfl
@[go_sem] theorem ty69:tfind E.tys 69=some u69:=rfl
@[go_sem] theorem ty81:tfind E.tys 81=some u81:=rfl
@[go_sem] theorem ty82:tfind E.tys 82=some u82:=rfl
@[go_sem] theorem ty83:tfind E.tys 83=some u83:=rfl
@[go_sem] theorem ty84:tfind E.tys 84=some u84:=rfl
@[go_sem] theorem ty86:tfind E.tys 86=some u86:=rfl
@[go_sem] theorem ty97:tfind E.tys 97=some u97:=rfl
@[go_sem] theorem ty100:tfind E.tys 100=some u100:=rfl
@[go_sem] theorem ty101:tfind E.tys 101=some u101:=rfl
@[go_sem] theorem ty103:tfind E.tys 103=some u103:=rfl
@[go_sem] theorem ty105:tfind E.tys 105=some u105:=rfl
@[go_sem] theorem ty109:tfind E.tys 109=some u109:=rfl
@[go_sem] theorem ty111:tfind E.tys 111=some u111:=rfl
@[go_sem] theorem ty112:tfind E.tys 112=some u112:=rfl
@[go_sem] theorem ty113:tfind E.tys 113=some u113:=rfl
@[go_sem] theorem ty114:tfind E.tys 114=some u114:=rfl
@[go_sem] theorem ty116:tfind E.tys 116=some u116:=rfl
@[go_sem] theorem ty119:tfind E.tys 119=some u119:=rfl
@[go_sem] theorem ty120:tfind E.tys 120=some u120:=rfl
@[go_sem] theorem ty121:tfind E.tys 121=some u121:=rfl
@[go_sem] theorem ty122:tfind E.tys 122=some u122:=rfl
@[go_sem] theorem ty129:tfind E.tys 129=some u129:=rfl
@[go_sem] theorem ty130:tfind E.tys 130=some u130:=rfl
@[go_sem] theorem ty132:tfind E.tys 132=some u132:=rfl
@[go_sem] theorem ty155:tfind E.tys 155=some u155:=rfl
@[go_sem] theorem ty159:tfind E.tys 159=some u159:=rfl
@[go_sem] theorem ty161:tfind E.tys 161=some u161:=rfl
@[go_sem] theorem ty162:tfind E.tys 162=some u162:=rfl
@[go_sem] theorem ty168:tfind E.tys 168=some u168:=rfl
@[go_sem] theorem ty184:tfind E.tys 184=some u184:=rfl
@[go_sem] theorem ty189:tfind E.tys 189=some u189:=rfl
@[go_sem] theorem ty202:tfind E.tys 202=some u202:=rfl
@[go_sem] theorem ty221:tfind E.tys 221=some u221:=rfl
@[go_sem] theorem ty222:tfind E.tys 222=some u222:=rfl
@[go_sem] theorem ty224:tfind E.tys 224=some u224:=rfl
@[go_sem] theorem ty225:tfind E.tys 225=some u225:=rfl
@[go_sem] theorem ty226:tfind E.tys 226=some u226:=rfl
@[go_sem] theorem ty228:tfind E.tys 228=some u228:=rfl
@[go_sem] theorem ty229:tfind E.tys 229=some u229:=rfl
@[go_sem] theorem ty231:tfind E.tys 231=some u231:=rfl
@[go_sem ↓] theorem wt2 (k:TyI→Prop):withTy E 2 k=k u2:=rfl
@[go_sem ↓] theorem wt3 (k:TyI→Prop):withTy E 3 k=k u3:=rfl
@[go_sem ↓] theorem wt4 (k:TyI→Prop):withTy E 4 k=k u4:=rfl
@[go_sem ↓] theorem wt5 (k:TyI→Prop):withTy E 5 k=k u5:=rfl
@[go_sem ↓] theorem wt6 (k:TyI→Prop):withTy E 6 k=k u6:=rfl
@[go_sem ↓] theorem wt7 (k:TyI→Prop):withTy E 7 k=k u7:=rfl
@[go_sem ↓] theorem wt8 (k:TyI→Prop):withTy E 8 k=k u8:=rfl
@[go_sem ↓] theorem wt9 (k:TyI→Prop):withTy E 9 k=k u9:=rfl
@[go_sem ↓] theorem wt10 (k:TyI→Prop):withTy E 10 k=k u10:=rfl
@[go_sem ↓] theorem wt11 (k:TyI→Prop):withTy E 11 k=k u11:=rfl
@[go_sem ↓] theorem wt12 (k:TyI→Prop):withTy E 12 k=k u12:=rfl
@[go_sem ↓] theorem wt13 (k:TyI→Prop):withTy E 13 k=k u13:=rfl
@[go_sem ↓] theorem wt14 (k:TyI→Prop):withTy E 14 k=k u14:=rfl
@[go_sem ↓] theorem wt15 (k:TyI→Prop):withTy E 15 k=k u15:=rfl
@[go_sem ↓] theorem wt16 (k:TyI→Prop):withTy E 16 k=k u16:=rfl
@[go_sem ↓] theorem wt17 (k:TyI→Prop):withTy E 17 k=k u17:=rfl
@[go_sem ↓] theorem wt18 (k:TyI→Prop):withTy E 18 k=k u18:=rfl
@[go_sem ↓] theorem wt19 (k:TyI→Prop):withTy E 19 k=k u19:=rfl
@[go_sem ↓] theorem wt20 (k:TyI→Prop):withTy E 20 k=k u20:=rfl
@[go_sem ↓] theorem wt22 (k:TyI→Prop):withTy E 22 k=k u22:=rfl
@[go_sem ↓] theorem wt24 (k:TyI→Prop):withTy E 24 k=k u24:=rfl
@[go_sem ↓] theorem wt25 (k:TyI→Prop):withTy E 25 k=k u25:=rfl
@[go_sem ↓] theorem wt26 (k:TyI→Prop):withTy E 26 k=k u26:=rfl
@[go_sem ↓] theorem wt27 (k:TyI→Prop):withTy E 27 k=k u27:=rfl
@[go_sem ↓] theorem wt28 (k:TyI→Prop):withTy E 28 k=k u28:=rfl
@[go_sem ↓] theorem wt32 (k:TyI→Prop):withTy E 32 k=k u32:=rfl
@[go_sem ↓] theorem wt33 (k:TyI→Prop):withTy E 33 k=k u33:=rfl
@[go_sem ↓] theorem wt34 (k:TyI→Prop):withTy E 34 k=k u34:=rfl
@[go_sem ↓] theorem wt35 (k:TyI→Prop):withTy E 35 k=k u35:=rfl
@[go_sem ↓] theorem wt36 (k:TyI→Prop):withTy E 36 k=k u36:=rfl
@[go_sem ↓] theorem wt37 (k:TyI→Prop):withTy E 37 k=k u37:=rfl
@[go_sem ↓] theorem wt38 (k:TyI→Prop):withTy E 38 k=k u38:=rfl
@[go_sem ↓] theorem wt39 (k:TyI→Prop):withTy E 39 k=k u39:=rfl
@[go_sem ↓] theorem wt40 (k:TyI→Prop):withTy E 40 k=k u40:=rfl
@[go_sem ↓] theorem wt41 (k:TyI→Prop):withTy E 41 k=k u41:=rfl
@[go_sem ↓] theorem wt43 (k:TyI→Prop):withTy E 43 k=k u43:=rfl
@[go_sem ↓] theorem wt44 (k:TyI→Prop):withTy E 44 k=k u44:=rfl
@[go_sem ↓] theorem wt46 (k:TyI→Prop):withTy E 46 k=k u46:=rfl
@[go_sem ↓] theorem wt48 (k:TyI→Prop):withTy E 48 k=k u48:=rfl
@[go_sem ↓] theorem wt50 (k:TyI→Prop):withTy E 50 k=k u50:=rfl
@[go_sem ↓] theorem wt51 (k:TyI→Prop):withTy E 51 k=k u51:=rfl
@[go_sem ↓] theorem wt52 (k:TyI→Prop):withTy E 52 k=k u52:=rfl
@[go_sem ↓] theorem wt59 (k:TyI→Prop):withTy E 59 k=k u59:=rfl
@[go_sem ↓] theorem wt60 (k:TyI→Prop):withTy E 60 k=k u60:=rfl
@[go_sem ↓] theorem wt61 (k:TyI→Prop):withTy E 61 k=k u61:=rfl
@[go_sem ↓] theorem wt64 (k:TyI→Prop):withTy E 64 k=k u64:=rfl
@[go_sem ↓] theorem wt68 (k:TyI→Prop):withTy E 68 k=k u68:=rfl
@[go_sem ↓] theorem wt69 (k:TyI→Prop):withTy E 69 k=k u69:=rfl
@[go_sem ↓] theorem wt72 (k:TyI→Prop):withTy E 72 k=k u72:=rfl
@[go_sem ↓] theorem wt74 (k:TyI→Prop):withTy E 74 k=k u74:=rfl
@[go_sem ↓] theorem wt80 (k:TyI→Prop):withTy E 80 k=k u80:=rfl
@[go_sem ↓] theorem wt81 (k:TyI→Prop):withTy E 81 k=k u81:=rfl
@[go_sem ↓] theorem wt82 (k:TyI→Prop):withTy E 82 k=k u82:=rfl
@[go_sem ↓] theorem wt83 (k:TyI→Prop):withTy E 83 k=k u83:=rfl
@[go_sem ↓] theorem wt84 (k:TyI→Prop):withTy E 84 k=k u84:=rfl
@[go_sem ↓] theorem wt86 (k:TyI→Prop):withTy E 86 k=k u86:=rfl
@[go_sem ↓] theorem wt87 (k:TyI→Prop):withTy E 87 k=k u87:=rfl
@[go_sem ↓] theorem wt94 (k:TyI→Prop):withTy E 94 k=k u94:=rfl
@[go_sem ↓] theorem wt95 (k:TyI→Prop):withTy E 95 k=k u95:=rfl
@[go_sem ↓] theorem wt96 (k:TyI→Prop):withTy E 96 k=k u96:=rfl
@[go_sem ↓] theorem wt97 (k:TyI→Prop):withTy E 97 k=k u97:=rfl
@[go_sem ↓] theorem wt98 (k:TyI→Prop):withTy E 98 k=k u98:=rfl
@[go_sem ↓] theorem wt100 (k:TyI→Prop):withTy E 100 k=k u100:=rfl
@[go_sem ↓] theorem wt101 (k:TyI→Prop):withTy E 101 k=k u101:=rfl
@[go_sem ↓] theorem wt103 (k:TyI→Prop):withTy E 103 k=k u103:=rfl
@[go_sem ↓] theorem wt105 (k:TyI→Prop):withTy E 105 k=k u105:=rfl
@[go_sem ↓] theorem wt107 (k:TyI→Prop):withTy E 107 k=k u107:=rfl
@[go_sem ↓] theorem wt109 (k:TyI→Prop):withTy E 109 k=k u109:=rfl
@[go_sem ↓] theorem wt111 (k:TyI→Prop):withTy E 111 k=k u111:=rfl
@[go_sem ↓] theorem wt112 (k:TyI→Prop):withTy E 112 k=k u112:=rfl
@[go_sem ↓] theorem wt113 (k:TyI→Prop):withTy E 113 k=k u113:=rfl
@[go_sem ↓] theorem wt114 (k:TyI→Prop):withTy E 114 k=k u114:=rfl
@[go_sem ↓] theorem wt116 (k:TyI→Prop):withTy E 116 k=k u116:=rfl
@[go_sem ↓] theorem wt117 (k:TyI→Prop):withTy E 117 k=k u117:=rfl
@[go_sem ↓] theorem wt119 (k:TyI→Prop):withTy E 119 k=k u119:=rfl
@[go_sem ↓] theorem wt120 (k:TyI→Prop):withTy E 120 k=k u120:=rfl
@[go_sem ↓] theorem wt121 (k:TyI→Prop):withTy E 121 k=k u121:=rfl
@[go_sem ↓] theorem wt122 (k:TyI→Prop):withTy E 122 k=k u122:=rfl
@[go_sem ↓] theorem wt124 (k:TyI→Prop):withTy E 124 k=k u124:=rfl
@[go_sem ↓] theorem wt128 (k:TyI→Prop):withTy E 128 k=k u128:=rfl
@[go_sem ↓] theorem wt129 (k:TyI→Prop):withTy E 129 k=k u129:=rfl
@[go_sem ↓] theorem wt130 (k:TyI→Prop):withTy E 130 k=k u130:=rfl
@[go_sem ↓] theorem wt132 (k:TyI→Prop):withTy E 132 k=k u132:=rfl
@[go_sem ↓] theorem wt133 (k:TyI→Prop):withTy E 133 k=k u133:=rfl
@[go_sem ↓] theorem wt134 (k:TyI→Prop):withTy E 134 k=k u134:=rfl
@[go_sem ↓] theorem wt137 (k:TyI→Prop):withTy E 137 k=k u137:=rfl
@[go_sem ↓] theorem wt139 (k:TyI→Prop):withTy E 139 k=k u139:=rfl
@[go_sem ↓] theorem wt140 (k:TyI→Prop):withTy E 140 k=k u140:=rfl
@[go_sem ↓] theorem wt141 (k:TyI→Prop):withTy E 141 k=k u141:=rfl
@[go_sem ↓] theorem wt147 (k:TyI→Prop):withTy E 147 k=k u147:=rfl
@[go_sem ↓] theorem wt148 (k:TyI→Prop):withTy E 148 k=k u148:=rfl
@[go_sem ↓] theorem wt150 (k:TyI→Prop):withTy E 150 k=k u150:=rfl
@[go_sem ↓] theorem wt152 (k:TyI→Prop):withTy E 152 k=k u152:=rfl
@[go_sem ↓] theorem wt155 (k:TyI→Prop):withTy E 155 k=k u155:=rfl
@[go_sem ↓] theorem wt157 (k:TyI→Prop):withTy E 157 k=k u157:=rfl
@[go_sem ↓] theorem wt159 (k:TyI→Prop):withTy E 159 k=k u159:=rfl
@[go_sem ↓] theorem wt160 (k:TyI→Prop):withTy E 160 k=k u160:=rfl
@[go_sem ↓] theorem wt161 (k:TyI→Prop):withTy E 161 k=k u161:=rfl
@[go_sem ↓] theorem wt162 (k:TyI→Prop):withTy E 162 k=k u162:=rfl
@[go_sem ↓] theorem wt164 (k:TyI→Prop):withTy E 164 k=k u164:=rfl
@[go_sem ↓] theorem wt165 (k:TyI→Prop):withTy E 165 k=k u165:=rfl
@[go_sem ↓] theorem wt168 (k:TyI→Prop):withTy E 168 k=k u168:=rfl
@[go_sem ↓] theorem wt169 (k:TyI→Prop):withTy E 169 k=k u169:=rfl
@[go_sem ↓] theorem wt171 (k:TyI→Prop):withTy E 171 k=k u171:=rfl
@[go_sem ↓] theorem wt174 (k:TyI→Prop):withTy E 174 k=k u174:=rfl
@[go_sem ↓] theorem wt175 (k:TyI→Prop):withTy E 175 k=k u175:=rfl
@[go_sem ↓] theorem wt177 (k:TyI→Prop):withTy E 177 k=k u177:=rfl
@[go_sem ↓] theorem wt184 (k:TyI→Prop):withTy E 184 k=k u184:=rfl
@[go_sem ↓] theorem wt185 (k:TyI→Prop):withTy E 185 k=k u185:=rfl
@[go_sem ↓] theorem wt187 (k:TyI→Prop):withTy E 187 k=k u187:=rfl
@[go_sem ↓] theorem wt189 (k:TyI→Prop):withTy E 189 k=k u189:=rfl
@[go_sem ↓] theorem wt191 (k:TyI→Prop):withTy E 191 k=k u191:=rfl
@[go_sem ↓] theorem wt192 (k:TyI→Prop):withTy E 192 k=k u192:=rfl
@[go_sem ↓] theorem wt194 (k:TyI→Prop):withTy E 194 k=k u194:=rfl
@[go_sem ↓] theorem wt202 (k:TyI→Prop):withTy E 202 k=k u202:=rfl
@[go_sem ↓] theorem wt206 (k:TyI→Prop):withTy E 206 k=k u206:=rfl
@[go_sem ↓] theorem wt210 (k:TyI→Prop):withTy E 210 k=k u210:=rfl
@[go_sem ↓] theorem wt221 (k:TyI→Prop):withTy E 221 k=k u221:=rfl
@[go_sem ↓] theorem wt222 (k:TyI→Prop):withTy E 222 k=k u222:=rfl
@[go_sem ↓] theorem wt224 (k:TyI→Prop):withTy E 224 k=k u224:=rfl
@[go_sem ↓] theorem wt225 (k:TyI→Prop):withTy E 225 k=k u225:=rfl
@[go_sem ↓] theorem wt226 (k:TyI→Prop):withTy E 226 k=k u226:=rfl
@[go_sem ↓] theorem wt227 (k:TyI→Prop):withTy E 227 k=k u227:=rfl
@[go_sem ↓] theorem wt228 (k:TyI→Prop):withTy E 228 k=k u228:=rfl
@[go_sem ↓] theorem wt229 (k:TyI→Prop):withTy E 229 k=k u229:=rfl
@[go_sem ↓] theorem wt231 (k:TyI→Prop):withTy E 231 k=k u231:=rfl
attribute [go_sem] Int.reduceToNat Int.reducePow Nat.reducePow Int.reduceAdd Int.reduceMul Int.reduceSub Int.reduceNeg Nat.reduceAdd Nat.reduceMul Nat.reduceSub Nat.reduceEqDiff Nat.reduceLT Nat.reduceLeDiff
end Go.Proofs.YtckhjklcfagkoaaGreatDoor
