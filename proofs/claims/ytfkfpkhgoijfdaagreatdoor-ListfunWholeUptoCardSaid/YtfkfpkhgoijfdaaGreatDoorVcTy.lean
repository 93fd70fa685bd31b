/- The types of the program, as the reckoning asks for them: printed by wip/TyGen.lean. -/
import Derived.Test.YtfkfpkhgoijfdaaGreatDoorVcV
namespace Go.Proofs.YtfkfpkhgoijfdaaGreatDoor
set_option linter.unusedVariables false
set_option maxRecDepth 100000
abbrev tI2:TI:=⟨.int .i64,1,[.v (.int .i64 0)],false,8⟩
abbrev tI4:TI:=⟨.bool,1,[.v (.bool false)],false,1⟩
abbrev tI5:TI:=⟨.int .u8,1,[.v (.int .u8 0)],false,1⟩
abbrev tI7:TI:=⟨.struct [(0,2),(1,3),(2,4),(3,6)],4,[.v (.int .i64 0),.v (.int .i64 0),.v (.bool false),.v (.int .u8 0)],true,24⟩
abbrev tI9:TI:=⟨.str,1,[.v (.string ⟨#[]⟩)],false,16⟩
abbrev tI12:TI:=⟨.int .u64,1,[.v (.int .u64 0)],false,8⟩
abbrev tI13:TI:=⟨.struct [(0,9),(1,12)],2,[.v (.string ⟨#[]⟩),.v (.int .u64 0)],false,24⟩
abbrev tI15:TI:=⟨.other,1,[.v (.pointer none)],false,8⟩
abbrev tI18:TI:=⟨.struct [(0,17)],1,[.v (.pointer none)],false,8⟩
abbrev tI20:TI:=⟨.other,1,[.v (.nilIface)],false,16⟩
abbrev tI21:TI:=⟨.int .i32,1,[.v (.int .i32 0)],false,4⟩
abbrev tI22:TI:=⟨.slice 27,1,[.sl 0 []],false,24⟩
abbrev tI24:TI:=⟨.slice 9,1,[.sl 0 []],false,24⟩
abbrev tI25:TI:=⟨.arr 2 4,2,[.v (.bool false),.v (.bool false)],true,2⟩
abbrev tI26:TI:=⟨.struct [(0,23),(1,9),(2,22),(3,24),(4,25)],6,[.v (.int .i64 0),.v (.string ⟨#[]⟩),.sl 0 [],.sl 0 [],.v (.bool false),.v (.bool false)],false,80⟩
abbrev tI30:TI:=⟨.slice 36,1,[.sl 0 []],false,24⟩
abbrev tI35:TI:=⟨.struct [(0,34)],1,[.v (.nilIface)],false,16⟩
abbrev tI70:TI:=⟨.slice 30,1,[.sl 0 []],false,24⟩
abbrev tI86:TI:=⟨.struct [(0,85),(1,85)],2,[.v (.int .u64 0),.v (.int .u64 0)],true,16⟩
abbrev tI88:TI:=⟨.struct [(0,4),(1,87),(3,3)],4,[.v (.bool false),.v (.int .u64 0),.v (.int .u64 0),.v (.int .i64 0)],true,32⟩
abbrev tI98:TI:=⟨.struct [(0,24),(1,30)],2,[.sl 0 [],.sl 0 []],false,48⟩
abbrev tI100:TI:=⟨.slice 3,1,[.sl 0 []],false,24⟩
abbrev tI118:TI:=⟨.struct [(0,5),(1,5)],2,[.v (.int .u8 0),.v (.int .u8 0)],true,2⟩
abbrev tI120:TI:=⟨.arr 16 119,32,List.replicate 32 (.v (.int .u8 0)),false,32⟩
abbrev tI130:TI:=⟨.struct [(0,3),(1,3),(2,3)],3,[.v (.int .i64 0),.v (.int .i64 0),.v (.int .i64 0)],true,24⟩
abbrev tI135:TI:=⟨.struct [(0,3),(1,4),(2,3)],3,[.v (.int .i64 0),.v (.bool false),.v (.int .i64 0)],true,24⟩
abbrev tI140:TI:=⟨.struct [(0,131),(3,136)],6,[.v (.int .i64 0),.v (.int .i64 0),.v (.int .i64 0),.v (.int .i64 0),.v (.bool false),.v (.int .i64 0)],true,48⟩
abbrev tI146:TI:=⟨.arr 2 36,2,[.v (.nilIface),.v (.nilIface)],false,32⟩
abbrev tI147:TI:=⟨.struct [(0,146),(2,25)],4,[.v (.nilIface),.v (.nilIface),.v (.bool false),.v (.bool false)],false,40⟩
abbrev tI162:TI:=⟨.arr 4 85,4,[.v (.int .u64 0),.v (.int .u64 0),.v (.int .u64 0),.v (.int .u64 0)],false,32⟩
abbrev tI193:TI:=⟨.struct [(0,4),(1,87),(3,87),(5,3),(6,4)],7,[.v (.bool false),.v (.int .u64 0),.v (.int .u64 0),.v (.int .u64 0),.v (.int .u64 0),.v (.int .i64 0),.v (.bool false)],true,56⟩
abbrev tI203:TI:=⟨.arr 40 5,40,List.replicate 40 (.v (.int .u8 0)),false,40⟩
abbrev tI204:TI:=⟨.slice 5,1,[.sl 0 []],false,24⟩
abbrev tI233:TI:=⟨.arr 24 5,24,List.replicate 24 (.v (.int .u8 0)),false,24⟩
abbrev tI240:TI:=⟨.struct [(0,9),(1,9),(2,189)],3,[.v (.string ⟨#[]⟩),.v (.string ⟨#[]⟩),.v (.nilIface)],false,48⟩
abbrev tI244:TI:=⟨.int .u32,1,[.v (.int .u32 0)],false,4⟩
abbrev tI248:TI:=⟨.arr 20 85,20,List.replicate 20 (.v (.int .u64 0)),false,160⟩
abbrev tI254:TI:=⟨.struct [(0,9)],1,[.v (.string ⟨#[]⟩)],true,16⟩
abbrev tI258:TI:=⟨.arr 32 5,32,List.replicate 32 (.v (.int .u8 0)),false,32⟩
abbrev tI259:TI:=⟨.arr 64 5,64,List.replicate 64 (.v (.int .u8 0)),false,64⟩
abbrev tI260:TI:=⟨.struct [(0,17),(1,17),(2,17),(3,9)],4,[.v (.pointer none),.v (.pointer none),.v (.pointer none),.v (.string ⟨#[]⟩)],false,40⟩
abbrev tI262:TI:=⟨.arr 0 16,0,[],false,0⟩
abbrev tI263:TI:=⟨.struct [(0,262)],0,[],false,0⟩
def tyL:List (Nat×TI):=[(2,tI2),(3,tI2),(4,tI4),(5,tI5),(6,tI5),(7,tI7),(8,tI7),(9,tI9),(10,tI9),(11,tI9),(12,tI12),(13,tI13),(14,tI13),(15,tI15),(16,tI15),(17,tI15),(18,tI18),(19,tI18),(20,tI20),(21,tI21),(22,tI22),(23,tI2),(24,tI24),(25,tI25),(26,tI26),(27,tI26),(30,tI30),(33,tI20),(34,tI20),(35,tI35),(36,tI35),(55,tI2),(70,tI70),(85,tI12),(86,tI86),(87,tI86),(88,tI88),(89,tI88),(91,tI30),(98,tI98),(99,tI98),(100,tI100),(102,tI88),(110,tI4),(118,tI118),(119,tI118),(120,tI120),(121,tI12),(130,tI130),(131,tI130),(135,tI135),(136,tI135),(140,tI140),(141,tI140),(146,tI146),(147,tI147),(148,tI147),(150,tI9),(152,tI130),(154,tI135),(156,tI140),(158,tI2),(159,tI2),(162,tI162),(188,tI20),(189,tI20),(193,tI193),(194,tI193),(197,tI2),(203,tI203),(204,tI204),(213,tI15),(219,tI2),(222,tI15),(233,tI233),(240,tI240),(241,tI240),(244,tI244),(248,tI248),(252,tI15),(253,tI15),(254,tI254),(255,tI254),(258,tI258),(259,tI259),(260,tI260),(261,tI260),(262,tI262),(263,tI263),(264,tI263),(265,tI5),(266,tI5),(268,tI21),(269,tI21),(272,tI15)]
def tyT:TypeId→Option TI:=Gd tyL
theorem Dl {ty:TypeId→Option TI} {l:List (Nat×TypeId)} (h:(l.all fun p=>(ty p.2).isSome)=true) : ∀ fs,TD.struct l=.struct fs → ∀ p ∈ fs,(ty p.2).isSome=true:=fun fs e p hp=>by cases e;exact List.all_eq_true.1 h p hp
theorem ty2:Aw Tryz.prog tyT 2 tI2:=⟨⟨_,_,rfl,rfl,rfl,rfl,rfl,(fun h=>by cases h),(fun _=>rfl)⟩,rfl,(fun fs h=>by cases h),
 (fun h=>by cases h)⟩
theorem ty3:Aw Tryz.prog tyT 3 tI2:=⟨⟨_,_,rfl,rfl,rfl,rfl,rfl,(fun h=>by cases h),(fun _=>rfl)⟩,rfl,(fun fs h=>by cases h),
 (fun h=>by cases h)⟩
theorem ty4:Aw Tryz.prog tyT 4 tI4:=⟨⟨_,_,rfl,rfl,rfl,rfl,rfl,(fun h=>by cases h),(fun _=>rfl)⟩,rfl,(fun fs h=>by cases h),
 (fun h=>by cases h)⟩
theorem ty5:Aw Tryz.prog tyT 5 tI5:=⟨⟨_,_,rfl,rfl,rfl,rfl,rfl,(fun h=>by cases h),(fun _=>rfl)⟩,rfl,(fun fs h=>by cases h),
 (fun h=>by cases h)⟩
theorem ty6:Aw Tryz.prog tyT 6 tI5:=⟨⟨_,_,rfl,rfl,rfl,rfl,rfl,(fun h=>by cases h),(fun _=>rfl)⟩,rfl,(fun fs h=>by cases h),
 (fun h=>by cases h)⟩
theorem ty7:Aw Tryz.prog tyT 7 tI7:=⟨⟨_,_,rfl,rfl,rfl,rfl,rfl,(fun _=>⟨_,rfl⟩),(fun h=>by cases h)⟩,⟨_,rfl,rfl⟩,Dl rfl,
 (fun _=>⟨(by first | exact Tryz.stoodInHeld7 | kernel_rfl),(by first | exact Tryz.eqGuardType7 | kernel_rfl),(fun fields h=>by first | (injection h with h;injection h with h;subst h;simp;done) | (cases h))⟩)⟩
theorem ty8:Aw Tryz.prog tyT 8 tI7:=⟨⟨_,_,rfl,rfl,rfl,rfl,rfl,(fun _=>⟨_,rfl⟩),(fun h=>by cases h)⟩,⟨_,rfl,rfl⟩,Dl rfl,
 (fun _=>⟨(by first | exact Tryz.stoodInHeld8 | kernel_rfl),(by first | exact Tryz.eqGuardType8 | kernel_rfl),(fun fields h=>by first | (injection h with h;injection h with h;subst h;simp;done) | (cases h))⟩)⟩
theorem ty9:Aw Tryz.prog tyT 9 tI9:=⟨⟨_,_,rfl,rfl,rfl,rfl,rfl,(fun h=>by cases h),(fun _=>rfl)⟩,rfl,(fun fs h=>by cases h),
 (fun h=>by cases h)⟩
theorem ty10:Aw Tryz.prog tyT 10 tI9:=⟨⟨_,_,rfl,rfl,rfl,rfl,rfl,(fun h=>by cases h),(fun _=>rfl)⟩,rfl,(fun fs h=>by cases h),
 (fun h=>by cases h)⟩
theorem ty11:Aw Tryz.prog tyT 11 tI9:=⟨⟨_,_,rfl,rfl,rfl,rfl,rfl,(fun h=>by cases h),(fun _=>rfl)⟩,rfl,(fun fs h=>by cases h),
 (fun h=>by cases h)⟩
theorem ty12:Aw Tryz.prog tyT 12 tI12:=⟨⟨_,_,rfl,rfl,rfl,rfl,rfl,(fun h=>by cases h),(fun _=>rfl)⟩,rfl,(fun fs h=>by cases h),
 (fun h=>by cases h)⟩
theorem ty13:Aw Tryz.prog tyT 13 tI13:=⟨⟨_,_,rfl,rfl,rfl,rfl,rfl,(fun _=>⟨_,rfl⟩),(fun h=>by cases h)⟩,⟨_,rfl,rfl⟩,Dl rfl,
 (fun h=>by cases h)⟩
theorem ty14:Aw Tryz.prog tyT 14 tI13:=⟨⟨_,_,rfl,rfl,rfl,rfl,rfl,(fun _=>⟨_,rfl⟩),(fun h=>by cases h)⟩,⟨_,rfl,rfl⟩,Dl rfl,
 (fun h=>by cases h)⟩
theorem ty15:Aw Tryz.prog tyT 15 tI15:=⟨⟨_,_,rfl,rfl,rfl,rfl,rfl,(fun h=>by cases h),(fun _=>rfl)⟩,⟨_,rfl,(fun _ h=>by cases h),(fun _ _ h=>by cases h)⟩,(fun fs h=>by cases h),
 (fun h=>by cases h)⟩
theorem ty16:Aw Tryz.prog tyT 16 tI15:=⟨⟨_,_,rfl,rfl,rfl,rfl,rfl,(fun h=>by cases h),(fun _=>rfl)⟩,⟨_,rfl,(fun _ h=>by cases h),(fun _ _ h=>by cases h)⟩,(fun fs h=>by cases h),
 (fun h=>by cases h)⟩
theorem ty17:Aw Tryz.prog tyT 17 tI15:=⟨⟨_,_,rfl,rfl,rfl,rfl,rfl,(fun h=>by cases h),(fun _=>rfl)⟩,⟨_,rfl,(fun _ h=>by cases h),(fun _ _ h=>by cases h)⟩,(fun fs h=>by cases h),
 (fun h=>by cases h)⟩
theorem ty18:Aw Tryz.prog tyT 18 tI18:=⟨⟨_,_,rfl,rfl,rfl,rfl,rfl,(fun _=>⟨_,rfl⟩),(fun h=>by cases h)⟩,⟨_,rfl,rfl⟩,Dl rfl,
 (fun h=>by cases h)⟩
theorem ty19:Aw Tryz.prog tyT 19 tI18:=⟨⟨_,_,rfl,rfl,rfl,rfl,rfl,(fun _=>⟨_,rfl⟩),(fun h=>by cases h)⟩,⟨_,rfl,rfl⟩,Dl rfl,
 (fun h=>by cases h)⟩
theorem ty20:Aw Tryz.prog tyT 20 tI20:=⟨⟨_,_,rfl,rfl,rfl,rfl,rfl,(fun h=>by cases h),(fun _=>rfl)⟩,⟨_,rfl,(fun _ h=>by cases h),(fun _ _ h=>by cases h)⟩,(fun fs h=>by cases h),
 (fun h=>by cases h)⟩
theorem ty21:Aw Tryz.prog tyT 21 tI21:=⟨⟨_,_,rfl,rfl,rfl,rfl,rfl,(fun h=>by cases h),(fun _=>rfl)⟩,rfl,(fun fs h=>by cases h),
 (fun h=>by cases h)⟩
theorem ty22:Aw Tryz.prog tyT 22 tI22:=⟨⟨_,_,rfl,rfl,rfl,rfl,rfl,(fun h=>by cases h),(fun _=>rfl)⟩,rfl,(fun fs h=>by cases h),
 (fun h=>by cases h)⟩
theorem ty23:Aw Tryz.prog tyT 23 tI2:=⟨⟨_,_,rfl,rfl,rfl,rfl,rfl,(fun h=>by cases h),(fun _=>rfl)⟩,rfl,(fun fs h=>by cases h),
 (fun h=>by cases h)⟩
theorem ty24:Aw Tryz.prog tyT 24 tI24:=⟨⟨_,_,rfl,rfl,rfl,rfl,rfl,(fun h=>by cases h),(fun _=>rfl)⟩,rfl,(fun fs h=>by cases h),
 (fun h=>by cases h)⟩
theorem ty25:Aw Tryz.prog tyT 25 tI25:=⟨⟨_,_,rfl,rfl,rfl,rfl,rfl,(fun _=>⟨_,rfl⟩),(fun h=>by cases h)⟩,rfl,(fun fs h=>by cases h),(fun _=>⟨(by first | exact Tryz.stoodInHeld25 | kernel_rfl),(by first | exact Tryz.eqGuardType25 | kernel_rfl),(fun fields h=>by first | (injection h with h;injection h with h;subst h;simp;done) | (cases h))⟩)⟩
theorem ty26:Aw Tryz.prog tyT 26 tI26:=⟨⟨_,_,rfl,rfl,rfl,rfl,rfl,(fun _=>⟨_,rfl⟩),(fun h=>by cases h)⟩,⟨_,rfl,rfl⟩,Dl rfl,
 (fun h=>by cases h)⟩
theorem b61:Aw Tryz.prog tyT 27 tI26:=⟨⟨_,_,rfl,rfl,rfl,rfl,rfl,(fun _=>⟨_,rfl⟩),(fun h=>by cases h)⟩,⟨_,rfl,rfl⟩,Dl rfl,
 (fun h=>by cases h)⟩
theorem ty30:Aw Tryz.prog tyT 30 tI30:=⟨⟨_,_,rfl,rfl,rfl,rfl,rfl,(fun h=>by cases h),(fun _=>rfl)⟩,rfl,(fun fs h=>by cases h),
 (fun h=>by cases h)⟩
theorem ty33:Aw Tryz.prog tyT 33 tI20:=⟨⟨_,_,rfl,rfl,rfl,rfl,rfl,(fun h=>by cases h),(fun _=>rfl)⟩,⟨_,rfl,(fun _ h=>by cases h),(fun _ _ h=>by cases h)⟩,(fun fs h=>by cases h),
 (fun h=>by cases h)⟩
theorem ty34:Aw Tryz.prog tyT 34 tI20:=⟨⟨_,_,rfl,rfl,rfl,rfl,rfl,(fun h=>by cases h),(fun _=>rfl)⟩,⟨_,rfl,(fun _ h=>by cases h),(fun _ _ h=>by cases h)⟩,(fun fs h=>by cases h),
 (fun h=>by cases h)⟩
theorem ty35:Aw Tryz.prog tyT 35 tI35:=⟨⟨_,_,rfl,rfl,rfl,rfl,rfl,(fun _=>⟨_,rfl⟩),(fun h=>by cases h)⟩,⟨_,rfl,rfl⟩,Dl rfl,
 (fun h=>by cases h)⟩
theorem ty36:Aw Tryz.prog tyT 36 tI35:=⟨⟨_,_,rfl,rfl,rfl,rfl,rfl,(fun _=>⟨_,rfl⟩),(fun h=>by cases h)⟩,⟨_,rfl,rfl⟩,Dl rfl,
 (fun h=>by cases h)⟩
theorem ty55:Aw Tryz.prog tyT 55 tI2:=⟨⟨_,_,rfl,rfl,rfl,rfl,rfl,(fun h=>by cases h),(fun _=>rfl)⟩,rfl,(fun fs h=>by cases h),
 (fun h=>by cases h)⟩
theorem ty70:Aw Tryz.prog tyT 70 tI70:=⟨⟨_,_,rfl,rfl,rfl,rfl,rfl,(fun h=>by cases h),(fun _=>rfl)⟩,rfl,(fun fs h=>by cases h),
 (fun h=>by cases h)⟩
theorem ty85:Aw Tryz.prog tyT 85 tI12:=⟨⟨_,_,rfl,rfl,rfl,rfl,rfl,(fun h=>by cases h),(fun _=>rfl)⟩,rfl,(fun fs h=>by cases h),
 (fun h=>by cases h)⟩
theorem ty86:Aw Tryz.prog tyT 86 tI86:=⟨⟨_,_,rfl,rfl,rfl,rfl,rfl,(fun _=>⟨_,rfl⟩),(fun h=>by cases h)⟩,⟨_,rfl,rfl⟩,Dl rfl,
 (fun _=>⟨(by first | exact Tryz.stoodInHeld86 | kernel_rfl),(by first | exact Tryz.eqGuardType86 | kernel_rfl),(fun fields h=>by first | (injection h with h;injection h with h;subst h;simp;done) | (cases h))⟩)⟩
theorem ty87:Aw Tryz.prog tyT 87 tI86:=⟨⟨_,_,rfl,rfl,rfl,rfl,rfl,(fun _=>⟨_,rfl⟩),(fun h=>by cases h)⟩,⟨_,rfl,rfl⟩,Dl rfl,
 (fun _=>⟨(by first | exact Tryz.stoodInHeld87 | kernel_rfl),(by first | exact Tryz.eqGuardType87 | kernel_rfl),(fun fields h=>by first | (injection h with h;injection h with h;subst h;simp;done) | (cases h))⟩)⟩
theorem ty88:Aw Tryz.prog tyT 88 tI88:=⟨⟨_,_,rfl,rfl,rfl,rfl,rfl,(fun _=>⟨_,rfl⟩),(fun h=>by cases h)⟩,⟨_,rfl,rfl⟩,Dl rfl,
 (fun _=>⟨(by first | exact Tryz.stoodInHeld88 | kernel_rfl),(by first | exact Tryz.eqGuardType88 | kernel_rfl),(fun fields h=>by first | (injection h with h;injection h with h;subst h;simp;done) | (cases h))⟩)⟩
theorem ty89:Aw Tryz.prog tyT 89 tI88:=⟨⟨_,_,rfl,rfl,rfl,rfl,rfl,(fun _=>⟨_,rfl⟩),(fun h=>by cases h)⟩,⟨_,rfl,rfl⟩,Dl rfl,
 (fun _=>⟨(by first | exact Tryz.stoodInHeld89 | kernel_rfl),(by first | exact Tryz.eqGuardType89 | kernel_rfl),(fun fields h=>by first | (injection h with h;injection h with h;subst h;simp;done) | (cases h))⟩)⟩
theorem ty91:Aw Tryz.prog tyT 91 tI30:=⟨⟨_,_,rfl,rfl,rfl,rfl,rfl,(fun h=>by cases h),(fun _=>rfl)⟩,rfl,(fun fs h=>by cases h),
 (fun h=>by cases h)⟩
theorem ty98:Aw Tryz.prog tyT 98 tI98:=⟨⟨_,_,rfl,rfl,rfl,rfl,rfl,(fun _=>⟨_,rfl⟩),(fun h=>by cases h)⟩,⟨_,rfl,rfl⟩,Dl rfl,
 (fun h=>by cases h)⟩
theorem ty99:Aw Tryz.prog tyT 99 tI98:=⟨⟨_,_,rfl,rfl,rfl,rfl,rfl,(fun _=>⟨_,rfl⟩),(fun h=>by cases h)⟩,⟨_,rfl,rfl⟩,Dl rfl,
 (fun h=>by cases h)⟩
theorem b7j:Aw Tryz.prog tyT 100 tI100:=⟨⟨_,_,rfl,rfl,rfl,rfl,rfl,(fun h=>by cases h),(fun _=>rfl)⟩,rfl,(fun fs h=>by cases h),
 (fun h=>by cases h)⟩
theorem b85:Aw Tryz.prog tyT 102 tI88:=⟨⟨_,_,rfl,rfl,rfl,rfl,rfl,(fun _=>⟨_,rfl⟩),(fun h=>by cases h)⟩,⟨_,rfl,rfl⟩,Dl rfl,
 (fun _=>⟨(by first | exact Tryz.stoodInHeld102 | kernel_rfl),(by first | exact Tryz.eqGuardType102 | kernel_rfl),(fun fields h=>by first | (injection h with h;injection h with h;subst h;simp;done) | (cases h))⟩)⟩
theorem b7t:Aw Tryz.prog tyT 110 tI4:=⟨⟨_,_,rfl,rfl,rfl,rfl,rfl,(fun h=>by cases h),(fun _=>rfl)⟩,rfl,(fun fs h=>by cases h),
 (fun h=>by cases h)⟩
theorem b6w:Aw Tryz.prog tyT 118 tI118:=⟨⟨_,_,rfl,rfl,rfl,rfl,rfl,(fun _=>⟨_,rfl⟩),(fun h=>by cases h)⟩,⟨_,rfl,rfl⟩,Dl rfl,
 (fun _=>⟨(by first | exact Tryz.stoodInHeld118 | kernel_rfl),(by first | exact Tryz.eqGuardType118 | kernel_rfl),(fun fields h=>by first | (injection h with h;injection h with h;subst h;simp;done) | (cases h))⟩)⟩
theorem b79:Aw Tryz.prog tyT 119 tI118:=⟨⟨_,_,rfl,rfl,rfl,rfl,rfl,(fun _=>⟨_,rfl⟩),(fun h=>by cases h)⟩,⟨_,rfl,rfl⟩,Dl rfl,
 (fun _=>⟨(by first | exact Tryz.stoodInHeld119 | kernel_rfl),(by first | exact Tryz.eqGuardType119 | kernel_rfl),(fun fields h=>by first | (injection h with h;injection h with h;subst h;simp;done) | (cases h))⟩)⟩
theorem b9n:Aw Tryz.prog tyT 120 tI120:=⟨⟨_,_,rfl,rfl,rfl,rfl,rfl,(fun _=>⟨_,rfl⟩),(fun h=>by cases h)⟩,rfl,(fun fs h=>by cases h),(fun h=>by cases h)⟩
theorem b66:Aw Tryz.prog tyT 121 tI12:=⟨⟨_,_,rfl,rfl,rfl,rfl,rfl,(fun h=>by cases h),(fun _=>rfl)⟩,rfl,(fun fs h=>by cases h),
 (fun h=>by cases h)⟩
theorem b89:Aw Tryz.prog tyT 130 tI130:=⟨⟨_,_,rfl,rfl,rfl,rfl,rfl,(fun _=>⟨_,rfl⟩),(fun h=>by cases h)⟩,⟨_,rfl,rfl⟩,Dl rfl,
 (fun _=>⟨(by first | exact Tryz.stoodInHeld130 | kernel_rfl),(by first | exact Tryz.eqGuardType130 | kernel_rfl),(fun fields h=>by first | (injection h with h;injection h with h;subst h;simp;done) | (cases h))⟩)⟩
theorem b88:Aw Tryz.prog tyT 131 tI130:=⟨⟨_,_,rfl,rfl,rfl,rfl,rfl,(fun _=>⟨_,rfl⟩),(fun h=>by cases h)⟩,⟨_,rfl,rfl⟩,Dl rfl,
 (fun _=>⟨(by first | exact Tryz.stoodInHeld131 | kernel_rfl),(by first | exact Tryz.eqGuardType131 | kernel_rfl),(fun fields h=>by first | (injection h with h;injection h with h;subst h;simp;done) | (cases h))⟩)⟩
theorem b7b:Aw Tryz.prog tyT 135 tI135:=⟨⟨_,_,rfl,rfl,rfl,rfl,rfl,(fun _=>⟨_,rfl⟩),(fun h=>by cases h)⟩,⟨_,rfl,rfl⟩,Dl rfl,
 (fun _=>⟨(by first | exact Tryz.stoodInHeld135 | kernel_rfl),(by first | exact Tryz.eqGuardType135 | kernel_rfl),(fun fields h=>by first | (injection h with h;injection h with h;subst h;simp;done) | (cases h))⟩)⟩
theorem b8r:Aw Tryz.prog tyT 136 tI135:=⟨⟨_,_,rfl,rfl,rfl,rfl,rfl,(fun _=>⟨_,rfl⟩),(fun h=>by cases h)⟩,⟨_,rfl,rfl⟩,Dl rfl,
 (fun _=>⟨(by first | exact Tryz.stoodInHeld136 | kernel_rfl),(by first | exact Tryz.eqGuardType136 | kernel_rfl),(fun fields h=>by first | (injection h with h;injection h with h;subst h;simp;done) | (cases h))⟩)⟩
theorem b62:Aw Tryz.prog tyT 140 tI140:=⟨⟨_,_,rfl,rfl,rfl,rfl,rfl,(fun _=>⟨_,rfl⟩),(fun h=>by cases h)⟩,⟨_,rfl,rfl⟩,Dl rfl,
 (fun _=>⟨(by first | exact Tryz.stoodInHeld140 | kernel_rfl),(by first | exact Tryz.eqGuardType140 | kernel_rfl),(fun fields h=>by first | (injection h with h;injection h with h;subst h;simp;done) | (cases h))⟩)⟩
theorem b7g:Aw Tryz.prog tyT 141 tI140:=⟨⟨_,_,rfl,rfl,rfl,rfl,rfl,(fun _=>⟨_,rfl⟩),(fun h=>by cases h)⟩,⟨_,rfl,rfl⟩,Dl rfl,
 (fun _=>⟨(by first | exact Tryz.stoodInHeld141 | kernel_rfl),(by first | exact Tryz.eqGuardType141 | kernel_rfl),(fun fields h=>by first | (injection h with h;injection h with h;subst h;simp;done) | (cases h))⟩)⟩
theorem b9z:Aw Tryz.prog tyT 146 tI146:=⟨⟨_,_,rfl,rfl,rfl,rfl,rfl,(fun _=>⟨_,rfl⟩),(fun h=>by cases h)⟩,rfl,(fun fs h=>by cases h),(fun h=>by cases h)⟩
theorem b7f:Aw Tryz.prog tyT 147 tI147:=⟨⟨_,_,rfl,rfl,rfl,rfl,rfl,(fun _=>⟨_,rfl⟩),(fun h=>by cases h)⟩,⟨_,rfl,rfl⟩,Dl rfl,
 (fun h=>by cases h)⟩
theorem b3q:Aw Tryz.prog tyT 148 tI147:=⟨⟨_,_,rfl,rfl,rfl,rfl,rfl,(fun _=>⟨_,rfl⟩),(fun h=>by cases h)⟩,⟨_,rfl,rfl⟩,Dl rfl,
 (fun h=>by cases h)⟩
theorem b8b:Aw Tryz.prog tyT 150 tI9:=⟨⟨_,_,rfl,rfl,rfl,rfl,rfl,(fun h=>by cases h),(fun _=>rfl)⟩,rfl,(fun fs h=>by cases h),
 (fun h=>by cases h)⟩
theorem b8g:Aw Tryz.prog tyT 152 tI130:=⟨⟨_,_,rfl,rfl,rfl,rfl,rfl,(fun _=>⟨_,rfl⟩),(fun h=>by cases h)⟩,⟨_,rfl,rfl⟩,Dl rfl,
 (fun _=>⟨(by first | exact Tryz.stoodInHeld152 | kernel_rfl),(by first | exact Tryz.eqGuardType152 | kernel_rfl),(fun fields h=>by first | (injection h with h;injection h with h;subst h;simp;done) | (cases h))⟩)⟩
theorem b81:Aw Tryz.prog tyT 154 tI135:=⟨⟨_,_,rfl,rfl,rfl,rfl,rfl,(fun _=>⟨_,rfl⟩),(fun h=>by cases h)⟩,⟨_,rfl,rfl⟩,Dl rfl,
 (fun _=>⟨(by first | exact Tryz.stoodInHeld154 | kernel_rfl),(by first | exact Tryz.eqGuardType154 | kernel_rfl),(fun fields h=>by first | (injection h with h;injection h with h;subst h;simp;done) | (cases h))⟩)⟩
theorem b83:Aw Tryz.prog tyT 156 tI140:=⟨⟨_,_,rfl,rfl,rfl,rfl,rfl,(fun _=>⟨_,rfl⟩),(fun h=>by cases h)⟩,⟨_,rfl,rfl⟩,Dl rfl,
 (fun _=>⟨(by first | exact Tryz.stoodInHeld156 | kernel_rfl),(by first | exact Tryz.eqGuardType156 | kernel_rfl),(fun fields h=>by first | (injection h with h;injection h with h;subst h;simp;done) | (cases h))⟩)⟩
theorem b8y:Aw Tryz.prog tyT 158 tI2:=⟨⟨_,_,rfl,rfl,rfl,rfl,rfl,(fun h=>by cases h),(fun _=>rfl)⟩,rfl,(fun fs h=>by cases h),
 (fun h=>by cases h)⟩
theorem b9o:Aw Tryz.prog tyT 159 tI2:=⟨⟨_,_,rfl,rfl,rfl,rfl,rfl,(fun h=>by cases h),(fun _=>rfl)⟩,rfl,(fun fs h=>by cases h),
 (fun h=>by cases h)⟩
theorem b7a:Aw Tryz.prog tyT 162 tI162:=⟨⟨_,_,rfl,rfl,rfl,rfl,rfl,(fun _=>⟨_,rfl⟩),(fun h=>by cases h)⟩,rfl,(fun fs h=>by cases h),(fun h=>by cases h)⟩
theorem b8t:Aw Tryz.prog tyT 188 tI20:=⟨⟨_,_,rfl,rfl,rfl,rfl,rfl,(fun h=>by cases h),(fun _=>rfl)⟩,⟨_,rfl,(fun _ h=>by cases h),(fun _ _ h=>by cases h)⟩,(fun fs h=>by cases h),
 (fun h=>by cases h)⟩
theorem b9w:Aw Tryz.prog tyT 189 tI20:=⟨⟨_,_,rfl,rfl,rfl,rfl,rfl,(fun h=>by cases h),(fun _=>rfl)⟩,⟨_,rfl,(fun _ h=>by cases h),(fun _ _ h=>by cases h)⟩,(fun fs h=>by cases h),
 (fun h=>by cases h)⟩
theorem b8j:Aw Tryz.prog tyT 193 tI193:=⟨⟨_,_,rfl,rfl,rfl,rfl,rfl,(fun _=>⟨_,rfl⟩),(fun h=>by cases h)⟩,⟨_,rfl,rfl⟩,Dl rfl,
 (fun _=>⟨(by first | exact Tryz.stoodInHeld193 | kernel_rfl),(by first | exact Tryz.eqGuardType193 | kernel_rfl),(fun fields h=>by first | (injection h with h;injection h with h;subst h;simp;done) | (cases h))⟩)⟩
theorem b9v:Aw Tryz.prog tyT 194 tI193:=⟨⟨_,_,rfl,rfl,rfl,rfl,rfl,(fun _=>⟨_,rfl⟩),(fun h=>by cases h)⟩,⟨_,rfl,rfl⟩,Dl rfl,
 (fun _=>⟨(by first | exact Tryz.stoodInHeld194 | kernel_rfl),(by first | exact Tryz.eqGuardType194 | kernel_rfl),(fun fields h=>by first | (injection h with h;injection h with h;subst h;simp;done) | (cases h))⟩)⟩
theorem b86:Aw Tryz.prog tyT 197 tI2:=⟨⟨_,_,rfl,rfl,rfl,rfl,rfl,(fun h=>by cases h),(fun _=>rfl)⟩,rfl,(fun fs h=>by cases h),
 (fun h=>by cases h)⟩
theorem b6v:Aw Tryz.prog tyT 203 tI203:=⟨⟨_,_,rfl,rfl,rfl,rfl,rfl,(fun _=>⟨_,rfl⟩),(fun h=>by cases h)⟩,rfl,(fun fs h=>by cases h),(fun h=>by cases h)⟩
theorem b73:Aw Tryz.prog tyT 204 tI204:=⟨⟨_,_,rfl,rfl,rfl,rfl,rfl,(fun h=>by cases h),(fun _=>rfl)⟩,rfl,(fun fs h=>by cases h),
 (fun h=>by cases h)⟩
theorem b9a:Aw Tryz.prog tyT 213 tI15:=⟨⟨_,_,rfl,rfl,rfl,rfl,rfl,(fun h=>by cases h),(fun _=>rfl)⟩,⟨_,rfl,(fun _ h=>by cases h),(fun _ _ h=>by cases h)⟩,(fun fs h=>by cases h),
 (fun h=>by cases h)⟩
theorem b80:Aw Tryz.prog tyT 219 tI2:=⟨⟨_,_,rfl,rfl,rfl,rfl,rfl,(fun h=>by cases h),(fun _=>rfl)⟩,rfl,(fun fs h=>by cases h),
 (fun h=>by cases h)⟩
theorem b6y:Aw Tryz.prog tyT 222 tI15:=⟨⟨_,_,rfl,rfl,rfl,rfl,rfl,(fun h=>by cases h),(fun _=>rfl)⟩,⟨_,rfl,(fun _ h=>by cases h),(fun _ _ h=>by cases h)⟩,(fun fs h=>by cases h),
 (fun h=>by cases h)⟩
theorem b8h:Aw Tryz.prog tyT 233 tI233:=⟨⟨_,_,rfl,rfl,rfl,rfl,rfl,(fun _=>⟨_,rfl⟩),(fun h=>by cases h)⟩,rfl,(fun fs h=>by cases h),(fun h=>by cases h)⟩
theorem b74:Aw Tryz.prog tyT 240 tI240:=⟨⟨_,_,rfl,rfl,rfl,rfl,rfl,(fun _=>⟨_,rfl⟩),(fun h=>by cases h)⟩,⟨_,rfl,rfl⟩,Dl rfl,
 (fun h=>by cases h)⟩
theorem b9e:Aw Tryz.prog tyT 241 tI240:=⟨⟨_,_,rfl,rfl,rfl,rfl,rfl,(fun _=>⟨_,rfl⟩),(fun h=>by cases h)⟩,⟨_,rfl,rfl⟩,Dl rfl,
 (fun h=>by cases h)⟩
theorem b82:Aw Tryz.prog tyT 244 tI244:=⟨⟨_,_,rfl,rfl,rfl,rfl,rfl,(fun h=>by cases h),(fun _=>rfl)⟩,rfl,(fun fs h=>by cases h),
 (fun h=>by cases h)⟩
theorem b7i:Aw Tryz.prog tyT 248 tI248:=⟨⟨_,_,rfl,rfl,rfl,rfl,rfl,(fun _=>⟨_,rfl⟩),(fun h=>by cases h)⟩,rfl,(fun fs h=>by cases h),(fun h=>by cases h)⟩
theorem b9s:Aw Tryz.prog tyT 252 tI15:=⟨⟨_,_,rfl,rfl,rfl,rfl,rfl,(fun h=>by cases h),(fun _=>rfl)⟩,⟨_,rfl,(fun _ h=>by cases h),(fun _ _ h=>by cases h)⟩,(fun fs h=>by cases h),
 (fun h=>by cases h)⟩
theorem b6t:Aw Tryz.prog tyT 253 tI15:=⟨⟨_,_,rfl,rfl,rfl,rfl,rfl,(fun h=>by cases h),(fun _=>rfl)⟩,⟨_,rfl,(fun _ h=>by cases h),(fun _ _ h=>by cases h)⟩,(fun fs h=>by cases h),
 (fun h=>by cases h)⟩
theorem b69:Aw Tryz.prog tyT 254 tI254:=⟨⟨_,_,rfl,rfl,rfl,rfl,rfl,(fun _=>⟨_,rfl⟩),(fun h=>by cases h)⟩,⟨_,rfl,rfl⟩,Dl rfl,
 (fun _=>⟨(by first | exact Tryz.stoodInHeld254 | kernel_rfl),(by first | exact Tryz.eqGuardType254 | kernel_rfl),(fun fields h=>by first | (injection h with h;injection h with h;subst h;simp;done) | (cases h))⟩)⟩
theorem b7w:Aw Tryz.prog tyT 255 tI254:=⟨⟨_,_,rfl,rfl,rfl,rfl,rfl,(fun _=>⟨_,rfl⟩),(fun h=>by cases h)⟩,⟨_,rfl,rfl⟩,Dl rfl,
 (fun _=>⟨(by first | exact Tryz.stoodInHeld255 | kernel_rfl),(by first | exact Tryz.eqGuardType255 | kernel_rfl),(fun fields h=>by first | (injection h with h;injection h with h;subst h;simp;done) | (cases h))⟩)⟩
theorem b7n:Aw Tryz.prog tyT 258 tI258:=⟨⟨_,_,rfl,rfl,rfl,rfl,rfl,(fun _=>⟨_,rfl⟩),(fun h=>by cases h)⟩,rfl,(fun fs h=>by cases h),(fun h=>by cases h)⟩
theorem b70:Aw Tryz.prog tyT 259 tI259:=⟨⟨_,_,rfl,rfl,rfl,rfl,rfl,(fun _=>⟨_,rfl⟩),(fun h=>by cases h)⟩,rfl,(fun fs h=>by cases h),(fun h=>by cases h)⟩
theorem b8d:Aw Tryz.prog tyT 260 tI260:=⟨⟨_,_,rfl,rfl,rfl,rfl,rfl,(fun _=>⟨_,rfl⟩),(fun h=>by cases h)⟩,⟨_,rfl,rfl⟩,Dl rfl,
 (fun h=>by cases h)⟩
theorem b9m:Aw Tryz.prog tyT 261 tI260:=⟨⟨_,_,rfl,rfl,rfl,rfl,rfl,(fun _=>⟨_,rfl⟩),(fun h=>by cases h)⟩,⟨_,rfl,rfl⟩,Dl rfl,
 (fun h=>by cases h)⟩
theorem b6z:Aw Tryz.prog tyT 262 tI262:=⟨⟨_,_,rfl,rfl,rfl,rfl,rfl,(fun _=>⟨_,rfl⟩),(fun h=>by cases h)⟩,rfl,(fun fs h=>by cases h),(fun h=>by cases h)⟩
theorem b60:Aw Tryz.prog tyT 263 tI263:=⟨⟨_,_,rfl,rfl,rfl,rfl,rfl,(fun _=>⟨_,rfl⟩),(fun h=>by cases h)⟩,⟨_,rfl,rfl⟩,Dl rfl,
 (fun h=>by cases h)⟩
theorem b63:Aw Tryz.prog tyT 264 tI263:=⟨⟨_,_,rfl,rfl,rfl,rfl,rfl,(fun _=>⟨_,rfl⟩),(fun h=>by cases h)⟩,⟨_,rfl,rfl⟩,Dl rfl,
 (fun h=>by cases h)⟩
theorem b9d:Aw Tryz.prog tyT 265 tI5:=⟨⟨_,_,rfl,rfl,rfl,rfl,rfl,(fun h=>by cases h),(fun _=>rfl)⟩,rfl,(fun fs h=>by cases h),
 (fun h=>by cases h)⟩
theorem b9u:Aw Tryz.prog tyT 266 tI5:=⟨⟨_,_,rfl,rfl,rfl,rfl,rfl,(fun h=>by cases h),(fun _=>rfl)⟩,rfl,(fun fs h=>by cases h),
 (fun h=>by cases h)⟩
theorem b76:Aw Tryz.prog tyT 268 tI21:=⟨⟨_,_,rfl,rfl,rfl,rfl,rfl,(fun h=>by cases h),(fun _=>rfl)⟩,rfl,(fun fs h=>by cases h),
 (fun h=>by cases h)⟩
theorem b8z:Aw Tryz.prog tyT 269 tI21:=⟨⟨_,_,rfl,rfl,rfl,rfl,rfl,(fun h=>by cases h),(fun _=>rfl)⟩,rfl,(fun fs h=>by cases h),
 (fun h=>by cases h)⟩
theorem b67:Aw Tryz.prog tyT 272 tI15:=⟨⟨_,_,rfl,rfl,rfl,rfl,rfl,(fun h=>by cases h),(fun _=>rfl)⟩,⟨_,rfl,(fun _ h=>by cases h),(fun _ _ h=>by cases h)⟩,(fun fs h=>by cases h),
 (fun h=>by cases h)⟩
theorem Oi:Cy Tryz.prog tyT:=b2z (by
 simp only[tyL,List.forall_mem_cons,List.not_mem_nil,false_implies,implies_true,and_true]
 exact ⟨ty2,ty3,ty4,ty5,ty6,ty7,ty8,ty9,ty10,ty11,ty12,ty13,ty14,ty15,ty16,ty17,ty18,ty19,ty20,ty21,ty22,ty23,ty24,ty25,ty26,b61,ty30,ty33,ty34,ty35,ty36,ty55,ty70,ty85,ty86,ty87,ty88,ty89,ty91,ty98,ty99,b7j,b85,b7t,b6w,b79,b9n,b66,b89,b88,b7b,b8r,b62,b7g,b9z,b7f,b3q,b8b,b8g,b81,b83,b8y,b9o,b7a,b8t,b9w,b8j,b9v,b86,b6v,b73,b9a,b80,b6y,b8h,b74,b9e,b82,b7i,b9s,b6t,b69,b7w,b7n,b70,b8d,b9m,b6z,b60,b63,b9d,b9u,b76,b8z,b67⟩)
end Go.Proofs.YtfkfpkhgoijfdaaGreatDoor
