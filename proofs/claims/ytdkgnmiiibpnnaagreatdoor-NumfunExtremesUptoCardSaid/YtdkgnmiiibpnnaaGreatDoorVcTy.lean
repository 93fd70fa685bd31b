/- The types of the program, as the reckoning asks for them: printed by wip/TyGen.lean. -/
import Derived.Test.YtdkgnmiiibpnnaaGreatDoorVcV
namespace Go.Proofs.YtdkgnmiiibpnnaaGreatDoor
set_option linter.unusedVariables false
set_option maxRecDepth 100000
abbrev tI2:TI:=⟨.int .i64,1,[.v (.int .i64 0)],false,8⟩
abbrev tI4:TI:=⟨.bool,1,[.v (.bool false)],false,1⟩
abbrev tI5:TI:=⟨.int .u8,1,[.v (.int .u8 0)],false,1⟩
abbrev tI7:TI:=⟨.struct [(0,2),(1,3),(2,4),(3,6)],4,[.v (.int .i64 0),.v (.int .i64 0),.v (.bool false),.v (.int .u8 0)],true,24⟩
abbrev tI9:TI:=⟨.str,1,[.v (.string ⟨#[]⟩)],false,16⟩
abbrev tI12:TI:=⟨.int .u64,1,[.v (.int .u64 0)],false,8⟩
abbrev tI13:TI:=⟨.struct [(0,9),(1,12)],2,[.v (.string ⟨#[]⟩),.v (.int .u64 0)],false,24⟩
abbrev tI15:TI:=⟨.other,1,[.v (.pointer none)],false,8⟩
abbrev tI18:TI:=⟨.struct [(0,17)],1,[.v (.pointer none)],false,8⟩
abbrev tI20:TI:=⟨.other,1,[.v (.nilIface)],false,16⟩
abbrev tI21:TI:=⟨.int .i32,1,[.v (.int .i32 0)],false,4⟩
abbrev tI23:TI:=⟨.struct [(0,22),(1,22)],2,[.v (.int .u64 0),.v (.int .u64 0)],true,16⟩
abbrev tI25:TI:=⟨.struct [(0,4),(1,24),(3,3)],4,[.v (.bool false),.v (.int .u64 0),.v (.int .u64 0),.v (.int .i64 0)],true,32⟩
abbrev tI28:TI:=⟨.slice 32,1,[.sl 0 []],false,24⟩
abbrev tI29:TI:=⟨.slice 9,1,[.sl 0 []],false,24⟩
abbrev tI30:TI:=⟨.arr 2 4,2,[.v (.bool false),.v (.bool false)],true,2⟩
abbrev tI31:TI:=⟨.struct [(0,27),(1,9),(2,28),(3,29),(4,30)],6,[.v (.int .i64 0),.v (.string ⟨#[]⟩),.sl 0 [],.sl 0 [],.v (.bool false),.v (.bool false)],false,80⟩
abbrev tI38:TI:=⟨.struct [(0,37)],1,[.v (.nilIface)],false,16⟩
abbrev tI54:TI:=⟨.slice 39,1,[.sl 0 []],false,24⟩
abbrev tI87:TI:=⟨.struct [(0,4),(1,24),(3,24),(5,3),(6,4)],7,[.v (.bool false),.v (.int .u64 0),.v (.int .u64 0),.v (.int .u64 0),.v (.int .u64 0),.v (.int .i64 0),.v (.bool false)],true,56⟩
abbrev tI112:TI:=⟨.slice 34,1,[.sl 0 []],false,24⟩
abbrev tI131:TI:=⟨.arr 4 22,4,[.v (.int .u64 0),.v (.int .u64 0),.v (.int .u64 0),.v (.int .u64 0)],false,32⟩
abbrev tI144:TI:=⟨.struct [(0,3),(1,3),(2,3)],3,[.v (.int .i64 0),.v (.int .i64 0),.v (.int .i64 0)],true,24⟩
abbrev tI149:TI:=⟨.struct [(0,3),(1,4),(2,3)],3,[.v (.int .i64 0),.v (.bool false),.v (.int .i64 0)],true,24⟩
abbrev tI154:TI:=⟨.struct [(0,145),(3,150)],6,[.v (.int .i64 0),.v (.int .i64 0),.v (.int .i64 0),.v (.int .i64 0),.v (.bool false),.v (.int .i64 0)],true,48⟩
abbrev tI183:TI:=⟨.arr 2 3,2,[.v (.int .i64 0),.v (.int .i64 0)],false,16⟩
abbrev tI184:TI:=⟨.slice 183,1,[.sl 0 []],false,24⟩
abbrev tI196:TI:=⟨.struct [(0,29),(1,54)],2,[.sl 0 [],.sl 0 []],false,48⟩
abbrev tI198:TI:=⟨.arr 2 39,2,[.v (.nilIface),.v (.nilIface)],false,32⟩
abbrev tI199:TI:=⟨.struct [(0,198),(2,30)],4,[.v (.nilIface),.v (.nilIface),.v (.bool false),.v (.bool false)],false,40⟩
abbrev tI205:TI:=⟨.slice 3,1,[.sl 0 []],false,24⟩
abbrev tI223:TI:=⟨.struct [(0,5),(1,5)],2,[.v (.int .u8 0),.v (.int .u8 0)],true,2⟩
abbrev tI225:TI:=⟨.arr 16 224,32,List.replicate 32 (.v (.int .u8 0)),false,32⟩
abbrev tI248:TI:=⟨.arr 40 5,40,List.replicate 40 (.v (.int .u8 0)),false,40⟩
abbrev tI249:TI:=⟨.slice 5,1,[.sl 0 []],false,24⟩
abbrev tI265:TI:=⟨.struct [(0,9),(1,9),(2,166)],3,[.v (.string ⟨#[]⟩),.v (.string ⟨#[]⟩),.v (.nilIface)],false,48⟩
abbrev tI269:TI:=⟨.int .u32,1,[.v (.int .u32 0)],false,4⟩
abbrev tI272:TI:=⟨.arr 24 5,24,List.replicate 24 (.v (.int .u8 0)),false,24⟩
abbrev tI279:TI:=⟨.struct [(0,9)],1,[.v (.string ⟨#[]⟩)],true,16⟩
abbrev tI283:TI:=⟨.arr 20 22,20,List.replicate 20 (.v (.int .u64 0)),false,160⟩
abbrev tI287:TI:=⟨.arr 32 5,32,List.replicate 32 (.v (.int .u8 0)),false,32⟩
abbrev tI288:TI:=⟨.arr 64 5,64,List.replicate 64 (.v (.int .u8 0)),false,64⟩
abbrev tI289:TI:=⟨.struct [(0,17),(1,17),(2,17),(3,9)],4,[.v (.pointer none),.v (.pointer none),.v (.pointer none),.v (.string ⟨#[]⟩)],false,40⟩
abbrev tI291:TI:=⟨.arr 0 16,0,[],false,0⟩
abbrev tI292:TI:=⟨.struct [(0,291)],0,[],false,0⟩
def tyL:List (Nat×TI):=[(2,tI2),(3,tI2),(4,tI4),(5,tI5),(6,tI5),(7,tI7),(8,tI7),(9,tI9),(10,tI9),(11,tI9),(12,tI12),(13,tI13),(14,tI13),(15,tI15),(16,tI15),(17,tI15),(18,tI18),(19,tI18),(20,tI20),(21,tI21),(22,tI12),(23,tI23),(24,tI23),(25,tI25),(26,tI25),(27,tI2),(28,tI28),(29,tI29),(30,tI30),(31,tI31),(32,tI31),(34,tI25),(36,tI20),(37,tI20),(38,tI38),(39,tI38),(51,tI2),(54,tI54),(80,tI25),(87,tI87),(88,tI87),(108,tI4),(112,tI112),(118,tI54),(124,tI12),(131,tI131),(135,tI2),(138,tI2),(144,tI144),(145,tI144),(149,tI149),(150,tI149),(154,tI154),(155,tI154),(165,tI20),(166,tI20),(179,tI9),(181,tI144),(183,tI183),(184,tI184),(185,tI149),(187,tI154),(196,tI196),(197,tI196),(198,tI198),(199,tI199),(200,tI199),(205,tI205),(223,tI223),(224,tI223),(225,tI225),(246,tI15),(248,tI248),(249,tI249),(250,tI2),(253,tI15),(265,tI265),(266,tI265),(269,tI269),(272,tI272),(277,tI15),(278,tI15),(279,tI279),(280,tI279),(283,tI283),(287,tI287),(288,tI288),(289,tI289),(290,tI289),(291,tI291),(292,tI292),(293,tI292),(294,tI5),(295,tI5),(297,tI21),(298,tI21),(301,tI15)]
def tyT:TypeId→Option TI:=Gk tyL
theorem Df {ty:TypeId→Option TI} {l:List (Nat×TypeId)} (h:(l.all fun p=>(ty p.2).isSome)=true) : ∀ fs,TD.struct l=.struct fs → ∀ p ∈ fs,(ty p.2).isSome=true:=fun fs e p hp=>by cases e;exact List.all_eq_true.1 h p hp
theorem ty2:Au Tryz.prog tyT 2 tI2:=⟨⟨_,_,rfl,rfl,rfl,rfl,rfl,(fun h=>by cases h),(fun _=>rfl)⟩,rfl,(fun fs h=>by cases h),
 (fun h=>by cases h)⟩
theorem ty3:Au Tryz.prog tyT 3 tI2:=⟨⟨_,_,rfl,rfl,rfl,rfl,rfl,(fun h=>by cases h),(fun _=>rfl)⟩,rfl,(fun fs h=>by cases h),
 (fun h=>by cases h)⟩
theorem ty4:Au Tryz.prog tyT 4 tI4:=⟨⟨_,_,rfl,rfl,rfl,rfl,rfl,(fun h=>by cases h),(fun _=>rfl)⟩,rfl,(fun fs h=>by cases h),
 (fun h=>by cases h)⟩
theorem ty5:Au Tryz.prog tyT 5 tI5:=⟨⟨_,_,rfl,rfl,rfl,rfl,rfl,(fun h=>by cases h),(fun _=>rfl)⟩,rfl,(fun fs h=>by cases h),
 (fun h=>by cases h)⟩
theorem ty6:Au Tryz.prog tyT 6 tI5:=⟨⟨_,_,rfl,rfl,rfl,rfl,rfl,(fun h=>by cases h),(fun _=>rfl)⟩,rfl,(fun fs h=>by cases h),
 (fun h=>by cases h)⟩
theorem ty7:Au Tryz.prog tyT 7 tI7:=⟨⟨_,_,rfl,rfl,rfl,rfl,rfl,(fun _=>⟨_,rfl⟩),(fun h=>by cases h)⟩,⟨_,rfl,rfl⟩,Df rfl,
 (fun _=>⟨(by first | exact Tryz.stoodInHeld7 | kernel_rfl),(by first | exact Tryz.eqGuardType7 | kernel_rfl),(fun fields h=>by first | (injection h with h;injection h with h;subst h;simp;done) | (cases h))⟩)⟩
theorem ty8:Au Tryz.prog tyT 8 tI7:=⟨⟨_,_,rfl,rfl,rfl,rfl,rfl,(fun _=>⟨_,rfl⟩),(fun h=>by cases h)⟩,⟨_,rfl,rfl⟩,Df rfl,
 (fun _=>⟨(by first | exact Tryz.stoodInHeld8 | kernel_rfl),(by first | exact Tryz.eqGuardType8 | kernel_rfl),(fun fields h=>by first | (injection h with h;injection h with h;subst h;simp;done) | (cases h))⟩)⟩
theorem ty9:Au Tryz.prog tyT 9 tI9:=⟨⟨_,_,rfl,rfl,rfl,rfl,rfl,(fun h=>by cases h),(fun _=>rfl)⟩,rfl,(fun fs h=>by cases h),
 (fun h=>by cases h)⟩
theorem ty10:Au Tryz.prog tyT 10 tI9:=⟨⟨_,_,rfl,rfl,rfl,rfl,rfl,(fun h=>by cases h),(fun _=>rfl)⟩,rfl,(fun fs h=>by cases h),
 (fun h=>by cases h)⟩
theorem ty11:Au Tryz.prog tyT 11 tI9:=⟨⟨_,_,rfl,rfl,rfl,rfl,rfl,(fun h=>by cases h),(fun _=>rfl)⟩,rfl,(fun fs h=>by cases h),
 (fun h=>by cases h)⟩
theorem ty12:Au Tryz.prog tyT 12 tI12:=⟨⟨_,_,rfl,rfl,rfl,rfl,rfl,(fun h=>by cases h),(fun _=>rfl)⟩,rfl,(fun fs h=>by cases h),
 (fun h=>by cases h)⟩
theorem ty13:Au Tryz.prog tyT 13 tI13:=⟨⟨_,_,rfl,rfl,rfl,rfl,rfl,(fun _=>⟨_,rfl⟩),(fun h=>by cases h)⟩,⟨_,rfl,rfl⟩,Df rfl,
 (fun h=>by cases h)⟩
theorem ty14:Au Tryz.prog tyT 14 tI13:=⟨⟨_,_,rfl,rfl,rfl,rfl,rfl,(fun _=>⟨_,rfl⟩),(fun h=>by cases h)⟩,⟨_,rfl,rfl⟩,Df rfl,
 (fun h=>by cases h)⟩
theorem ty15:Au Tryz.prog tyT 15 tI15:=⟨⟨_,_,rfl,rfl,rfl,rfl,rfl,(fun h=>by cases h),(fun _=>rfl)⟩,⟨_,rfl,(fun _ h=>by cases h),(fun _ _ h=>by cases h)⟩,(fun fs h=>by cases h),
 (fun h=>by cases h)⟩
theorem ty16:Au Tryz.prog tyT 16 tI15:=⟨⟨_,_,rfl,rfl,rfl,rfl,rfl,(fun h=>by cases h),(fun _=>rfl)⟩,⟨_,rfl,(fun _ h=>by cases h),(fun _ _ h=>by cases h)⟩,(fun fs h=>by cases h),
 (fun h=>by cases h)⟩
theorem ty17:Au Tryz.prog tyT 17 tI15:=⟨⟨_,_,rfl,rfl,rfl,rfl,rfl,(fun h=>by cases h),(fun _=>rfl)⟩,⟨_,rfl,(fun _ h=>by cases h),(fun _ _ h=>by cases h)⟩,(fun fs h=>by cases h),
 (fun h=>by cases h)⟩
theorem ty18:Au Tryz.prog tyT 18 tI18:=⟨⟨_,_,rfl,rfl,rfl,rfl,rfl,(fun _=>⟨_,rfl⟩),(fun h=>by cases h)⟩,⟨_,rfl,rfl⟩,Df rfl,
 (fun h=>by cases h)⟩
theorem ty19:Au Tryz.prog tyT 19 tI18:=⟨⟨_,_,rfl,rfl,rfl,rfl,rfl,(fun _=>⟨_,rfl⟩),(fun h=>by cases h)⟩,⟨_,rfl,rfl⟩,Df rfl,
 (fun h=>by cases h)⟩
theorem ty20:Au Tryz.prog tyT 20 tI20:=⟨⟨_,_,rfl,rfl,rfl,rfl,rfl,(fun h=>by cases h),(fun _=>rfl)⟩,⟨_,rfl,(fun _ h=>by cases h),(fun _ _ h=>by cases h)⟩,(fun fs h=>by cases h),
 (fun h=>by cases h)⟩
theorem ty21:Au Tryz.prog tyT 21 tI21:=⟨⟨_,_,rfl,rfl,rfl,rfl,rfl,(fun h=>by cases h),(fun _=>rfl)⟩,rfl,(fun fs h=>by cases h),
 (fun h=>by cases h)⟩
theorem ty22:Au Tryz.prog tyT 22 tI12:=⟨⟨_,_,rfl,rfl,rfl,rfl,rfl,(fun h=>by cases h),(fun _=>rfl)⟩,rfl,(fun fs h=>by cases h),
 (fun h=>by cases h)⟩
theorem ty23:Au Tryz.prog tyT 23 tI23:=⟨⟨_,_,rfl,rfl,rfl,rfl,rfl,(fun _=>⟨_,rfl⟩),(fun h=>by cases h)⟩,⟨_,rfl,rfl⟩,Df rfl,
 (fun _=>⟨(by first | exact Tryz.stoodInHeld23 | kernel_rfl),(by first | exact Tryz.eqGuardType23 | kernel_rfl),(fun fields h=>by first | (injection h with h;injection h with h;subst h;simp;done) | (cases h))⟩)⟩
theorem ty24:Au Tryz.prog tyT 24 tI23:=⟨⟨_,_,rfl,rfl,rfl,rfl,rfl,(fun _=>⟨_,rfl⟩),(fun h=>by cases h)⟩,⟨_,rfl,rfl⟩,Df rfl,
 (fun _=>⟨(by first | exact Tryz.stoodInHeld24 | kernel_rfl),(by first | exact Tryz.eqGuardType24 | kernel_rfl),(fun fields h=>by first | (injection h with h;injection h with h;subst h;simp;done) | (cases h))⟩)⟩
theorem ty25:Au Tryz.prog tyT 25 tI25:=⟨⟨_,_,rfl,rfl,rfl,rfl,rfl,(fun _=>⟨_,rfl⟩),(fun h=>by cases h)⟩,⟨_,rfl,rfl⟩,Df rfl,
 (fun _=>⟨(by first | exact Tryz.stoodInHeld25 | kernel_rfl),(by first | exact Tryz.eqGuardType25 | kernel_rfl),(fun fields h=>by first | (injection h with h;injection h with h;subst h;simp;done) | (cases h))⟩)⟩
theorem ty26:Au Tryz.prog tyT 26 tI25:=⟨⟨_,_,rfl,rfl,rfl,rfl,rfl,(fun _=>⟨_,rfl⟩),(fun h=>by cases h)⟩,⟨_,rfl,rfl⟩,Df rfl,
 (fun _=>⟨(by first | exact Tryz.stoodInHeld26 | kernel_rfl),(by first | exact Tryz.eqGuardType26 | kernel_rfl),(fun fields h=>by first | (injection h with h;injection h with h;subst h;simp;done) | (cases h))⟩)⟩
theorem ty27:Au Tryz.prog tyT 27 tI2:=⟨⟨_,_,rfl,rfl,rfl,rfl,rfl,(fun h=>by cases h),(fun _=>rfl)⟩,rfl,(fun fs h=>by cases h),
 (fun h=>by cases h)⟩
theorem ty28:Au Tryz.prog tyT 28 tI28:=⟨⟨_,_,rfl,rfl,rfl,rfl,rfl,(fun h=>by cases h),(fun _=>rfl)⟩,rfl,(fun fs h=>by cases h),
 (fun h=>by cases h)⟩
theorem ty29:Au Tryz.prog tyT 29 tI29:=⟨⟨_,_,rfl,rfl,rfl,rfl,rfl,(fun h=>by cases h),(fun _=>rfl)⟩,rfl,(fun fs h=>by cases h),
 (fun h=>by cases h)⟩
theorem ty30:Au Tryz.prog tyT 30 tI30:=⟨⟨_,_,rfl,rfl,rfl,rfl,rfl,(fun _=>⟨_,rfl⟩),(fun h=>by cases h)⟩,rfl,(fun fs h=>by cases h),(fun _=>⟨(by first | exact Tryz.stoodInHeld30 | kernel_rfl),(by first | exact Tryz.eqGuardType30 | kernel_rfl),(fun fields h=>by first | (injection h with h;injection h with h;subst h;simp;done) | (cases h))⟩)⟩
theorem ty31:Au Tryz.prog tyT 31 tI31:=⟨⟨_,_,rfl,rfl,rfl,rfl,rfl,(fun _=>⟨_,rfl⟩),(fun h=>by cases h)⟩,⟨_,rfl,rfl⟩,Df rfl,
 (fun h=>by cases h)⟩
theorem ty32:Au Tryz.prog tyT 32 tI31:=⟨⟨_,_,rfl,rfl,rfl,rfl,rfl,(fun _=>⟨_,rfl⟩),(fun h=>by cases h)⟩,⟨_,rfl,rfl⟩,Df rfl,
 (fun h=>by cases h)⟩
theorem ty34:Au Tryz.prog tyT 34 tI25:=⟨⟨_,_,rfl,rfl,rfl,rfl,rfl,(fun _=>⟨_,rfl⟩),(fun h=>by cases h)⟩,⟨_,rfl,rfl⟩,Df rfl,
 (fun _=>⟨(by first | exact Tryz.stoodInHeld34 | kernel_rfl),(by first | exact Tryz.eqGuardType34 | kernel_rfl),(fun fields h=>by first | (injection h with h;injection h with h;subst h;simp;done) | (cases h))⟩)⟩
theorem ty36:Au Tryz.prog tyT 36 tI20:=⟨⟨_,_,rfl,rfl,rfl,rfl,rfl,(fun h=>by cases h),(fun _=>rfl)⟩,⟨_,rfl,(fun _ h=>by cases h),(fun _ _ h=>by cases h)⟩,(fun fs h=>by cases h),
 (fun h=>by cases h)⟩
theorem ty37:Au Tryz.prog tyT 37 tI20:=⟨⟨_,_,rfl,rfl,rfl,rfl,rfl,(fun h=>by cases h),(fun _=>rfl)⟩,⟨_,rfl,(fun _ h=>by cases h),(fun _ _ h=>by cases h)⟩,(fun fs h=>by cases h),
 (fun h=>by cases h)⟩
theorem ty38:Au Tryz.prog tyT 38 tI38:=⟨⟨_,_,rfl,rfl,rfl,rfl,rfl,(fun _=>⟨_,rfl⟩),(fun h=>by cases h)⟩,⟨_,rfl,rfl⟩,Df rfl,
 (fun h=>by cases h)⟩
theorem ty39:Au Tryz.prog tyT 39 tI38:=⟨⟨_,_,rfl,rfl,rfl,rfl,rfl,(fun _=>⟨_,rfl⟩),(fun h=>by cases h)⟩,⟨_,rfl,rfl⟩,Df rfl,
 (fun h=>by cases h)⟩
theorem ty51:Au Tryz.prog tyT 51 tI2:=⟨⟨_,_,rfl,rfl,rfl,rfl,rfl,(fun h=>by cases h),(fun _=>rfl)⟩,rfl,(fun fs h=>by cases h),
 (fun h=>by cases h)⟩
theorem ty54:Au Tryz.prog tyT 54 tI54:=⟨⟨_,_,rfl,rfl,rfl,rfl,rfl,(fun h=>by cases h),(fun _=>rfl)⟩,rfl,(fun fs h=>by cases h),
 (fun h=>by cases h)⟩
theorem ty80:Au Tryz.prog tyT 80 tI25:=⟨⟨_,_,rfl,rfl,rfl,rfl,rfl,(fun _=>⟨_,rfl⟩),(fun h=>by cases h)⟩,⟨_,rfl,rfl⟩,Df rfl,
 (fun _=>⟨(by first | exact Tryz.stoodInHeld80 | kernel_rfl),(by first | exact Tryz.eqGuardType80 | kernel_rfl),(fun fields h=>by first | (injection h with h;injection h with h;subst h;simp;done) | (cases h))⟩)⟩
theorem ty87:Au Tryz.prog tyT 87 tI87:=⟨⟨_,_,rfl,rfl,rfl,rfl,rfl,(fun _=>⟨_,rfl⟩),(fun h=>by cases h)⟩,⟨_,rfl,rfl⟩,Df rfl,
 (fun _=>⟨(by first | exact Tryz.stoodInHeld87 | kernel_rfl),(by first | exact Tryz.eqGuardType87 | kernel_rfl),(fun fields h=>by first | (injection h with h;injection h with h;subst h;simp;done) | (cases h))⟩)⟩
theorem ty88:Au Tryz.prog tyT 88 tI87:=⟨⟨_,_,rfl,rfl,rfl,rfl,rfl,(fun _=>⟨_,rfl⟩),(fun h=>by cases h)⟩,⟨_,rfl,rfl⟩,Df rfl,
 (fun _=>⟨(by first | exact Tryz.stoodInHeld88 | kernel_rfl),(by first | exact Tryz.eqGuardType88 | kernel_rfl),(fun fields h=>by first | (injection h with h;injection h with h;subst h;simp;done) | (cases h))⟩)⟩
theorem c05:Au Tryz.prog tyT 108 tI4:=⟨⟨_,_,rfl,rfl,rfl,rfl,rfl,(fun h=>by cases h),(fun _=>rfl)⟩,rfl,(fun fs h=>by cases h),
 (fun h=>by cases h)⟩
theorem c0f:Au Tryz.prog tyT 112 tI112:=⟨⟨_,_,rfl,rfl,rfl,rfl,rfl,(fun h=>by cases h),(fun _=>rfl)⟩,rfl,(fun fs h=>by cases h),
 (fun h=>by cases h)⟩
theorem b85:Au Tryz.prog tyT 118 tI54:=⟨⟨_,_,rfl,rfl,rfl,rfl,rfl,(fun h=>by cases h),(fun _=>rfl)⟩,rfl,(fun fs h=>by cases h),
 (fun h=>by cases h)⟩
theorem c0o:Au Tryz.prog tyT 124 tI12:=⟨⟨_,_,rfl,rfl,rfl,rfl,rfl,(fun h=>by cases h),(fun _=>rfl)⟩,rfl,(fun fs h=>by cases h),
 (fun h=>by cases h)⟩
theorem b8s:Au Tryz.prog tyT 131 tI131:=⟨⟨_,_,rfl,rfl,rfl,rfl,rfl,(fun _=>⟨_,rfl⟩),(fun h=>by cases h)⟩,rfl,(fun fs h=>by cases h),(fun h=>by cases h)⟩
theorem b9r:Au Tryz.prog tyT 135 tI2:=⟨⟨_,_,rfl,rfl,rfl,rfl,rfl,(fun h=>by cases h),(fun _=>rfl)⟩,rfl,(fun fs h=>by cases h),
 (fun h=>by cases h)⟩
theorem b8j:Au Tryz.prog tyT 138 tI2:=⟨⟨_,_,rfl,rfl,rfl,rfl,rfl,(fun h=>by cases h),(fun _=>rfl)⟩,rfl,(fun fs h=>by cases h),
 (fun h=>by cases h)⟩
theorem b8i:Au Tryz.prog tyT 144 tI144:=⟨⟨_,_,rfl,rfl,rfl,rfl,rfl,(fun _=>⟨_,rfl⟩),(fun h=>by cases h)⟩,⟨_,rfl,rfl⟩,Df rfl,
 (fun _=>⟨(by first | exact Tryz.stoodInHeld144 | kernel_rfl),(by first | exact Tryz.eqGuardType144 | kernel_rfl),(fun fields h=>by first | (injection h with h;injection h with h;subst h;simp;done) | (cases h))⟩)⟩
theorem b8k:Au Tryz.prog tyT 145 tI144:=⟨⟨_,_,rfl,rfl,rfl,rfl,rfl,(fun _=>⟨_,rfl⟩),(fun h=>by cases h)⟩,⟨_,rfl,rfl⟩,Df rfl,
 (fun _=>⟨(by first | exact Tryz.stoodInHeld145 | kernel_rfl),(by first | exact Tryz.eqGuardType145 | kernel_rfl),(fun fields h=>by first | (injection h with h;injection h with h;subst h;simp;done) | (cases h))⟩)⟩
theorem b9m:Au Tryz.prog tyT 149 tI149:=⟨⟨_,_,rfl,rfl,rfl,rfl,rfl,(fun _=>⟨_,rfl⟩),(fun h=>by cases h)⟩,⟨_,rfl,rfl⟩,Df rfl,
 (fun _=>⟨(by first | exact Tryz.stoodInHeld149 | kernel_rfl),(by first | exact Tryz.eqGuardType149 | kernel_rfl),(fun fields h=>by first | (injection h with h;injection h with h;subst h;simp;done) | (cases h))⟩)⟩
theorem b83:Au Tryz.prog tyT 150 tI149:=⟨⟨_,_,rfl,rfl,rfl,rfl,rfl,(fun _=>⟨_,rfl⟩),(fun h=>by cases h)⟩,⟨_,rfl,rfl⟩,Df rfl,
 (fun _=>⟨(by first | exact Tryz.stoodInHeld150 | kernel_rfl),(by first | exact Tryz.eqGuardType150 | kernel_rfl),(fun fields h=>by first | (injection h with h;injection h with h;subst h;simp;done) | (cases h))⟩)⟩
theorem b8m:Au Tryz.prog tyT 154 tI154:=⟨⟨_,_,rfl,rfl,rfl,rfl,rfl,(fun _=>⟨_,rfl⟩),(fun h=>by cases h)⟩,⟨_,rfl,rfl⟩,Df rfl,
 (fun _=>⟨(by first | exact Tryz.stoodInHeld154 | kernel_rfl),(by first | exact Tryz.eqGuardType154 | kernel_rfl),(fun fields h=>by first | (injection h with h;injection h with h;subst h;simp;done) | (cases h))⟩)⟩
theorem c00:Au Tryz.prog tyT 155 tI154:=⟨⟨_,_,rfl,rfl,rfl,rfl,rfl,(fun _=>⟨_,rfl⟩),(fun h=>by cases h)⟩,⟨_,rfl,rfl⟩,Df rfl,
 (fun _=>⟨(by first | exact Tryz.stoodInHeld155 | kernel_rfl),(by first | exact Tryz.eqGuardType155 | kernel_rfl),(fun fields h=>by first | (injection h with h;injection h with h;subst h;simp;done) | (cases h))⟩)⟩
theorem b80:Au Tryz.prog tyT 165 tI20:=⟨⟨_,_,rfl,rfl,rfl,rfl,rfl,(fun h=>by cases h),(fun _=>rfl)⟩,⟨_,rfl,(fun _ h=>by cases h),(fun _ _ h=>by cases h)⟩,(fun fs h=>by cases h),
 (fun h=>by cases h)⟩
theorem b8f:Au Tryz.prog tyT 166 tI20:=⟨⟨_,_,rfl,rfl,rfl,rfl,rfl,(fun h=>by cases h),(fun _=>rfl)⟩,⟨_,rfl,(fun _ h=>by cases h),(fun _ _ h=>by cases h)⟩,(fun fs h=>by cases h),
 (fun h=>by cases h)⟩
theorem c0d:Au Tryz.prog tyT 179 tI9:=⟨⟨_,_,rfl,rfl,rfl,rfl,rfl,(fun h=>by cases h),(fun _=>rfl)⟩,rfl,(fun fs h=>by cases h),
 (fun h=>by cases h)⟩
theorem c08:Au Tryz.prog tyT 181 tI144:=⟨⟨_,_,rfl,rfl,rfl,rfl,rfl,(fun _=>⟨_,rfl⟩),(fun h=>by cases h)⟩,⟨_,rfl,rfl⟩,Df rfl,
 (fun _=>⟨(by first | exact Tryz.stoodInHeld181 | kernel_rfl),(by first | exact Tryz.eqGuardType181 | kernel_rfl),(fun fields h=>by first | (injection h with h;injection h with h;subst h;simp;done) | (cases h))⟩)⟩
theorem b8d:Au Tryz.prog tyT 183 tI183:=⟨⟨_,_,rfl,rfl,rfl,rfl,rfl,(fun _=>⟨_,rfl⟩),(fun h=>by cases h)⟩,rfl,(fun fs h=>by cases h),(fun h=>by cases h)⟩
theorem b8u:Au Tryz.prog tyT 184 tI184:=⟨⟨_,_,rfl,rfl,rfl,rfl,rfl,(fun h=>by cases h),(fun _=>rfl)⟩,rfl,(fun fs h=>by cases h),
 (fun h=>by cases h)⟩
theorem c0k:Au Tryz.prog tyT 185 tI149:=⟨⟨_,_,rfl,rfl,rfl,rfl,rfl,(fun _=>⟨_,rfl⟩),(fun h=>by cases h)⟩,⟨_,rfl,rfl⟩,Df rfl,
 (fun _=>⟨(by first | exact Tryz.stoodInHeld185 | kernel_rfl),(by first | exact Tryz.eqGuardType185 | kernel_rfl),(fun fields h=>by first | (injection h with h;injection h with h;subst h;simp;done) | (cases h))⟩)⟩
theorem b9w:Au Tryz.prog tyT 187 tI154:=⟨⟨_,_,rfl,rfl,rfl,rfl,rfl,(fun _=>⟨_,rfl⟩),(fun h=>by cases h)⟩,⟨_,rfl,rfl⟩,Df rfl,
 (fun _=>⟨(by first | exact Tryz.stoodInHeld187 | kernel_rfl),(by first | exact Tryz.eqGuardType187 | kernel_rfl),(fun fields h=>by first | (injection h with h;injection h with h;subst h;simp;done) | (cases h))⟩)⟩
theorem b9b:Au Tryz.prog tyT 196 tI196:=⟨⟨_,_,rfl,rfl,rfl,rfl,rfl,(fun _=>⟨_,rfl⟩),(fun h=>by cases h)⟩,⟨_,rfl,rfl⟩,Df rfl,
 (fun h=>by cases h)⟩
theorem b90:Au Tryz.prog tyT 197 tI196:=⟨⟨_,_,rfl,rfl,rfl,rfl,rfl,(fun _=>⟨_,rfl⟩),(fun h=>by cases h)⟩,⟨_,rfl,rfl⟩,Df rfl,
 (fun h=>by cases h)⟩
theorem b98:Au Tryz.prog tyT 198 tI198:=⟨⟨_,_,rfl,rfl,rfl,rfl,rfl,(fun _=>⟨_,rfl⟩),(fun h=>by cases h)⟩,rfl,(fun fs h=>by cases h),(fun h=>by cases h)⟩
theorem b8g:Au Tryz.prog tyT 199 tI199:=⟨⟨_,_,rfl,rfl,rfl,rfl,rfl,(fun _=>⟨_,rfl⟩),(fun h=>by cases h)⟩,⟨_,rfl,rfl⟩,Df rfl,
 (fun h=>by cases h)⟩
theorem b8y:Au Tryz.prog tyT 200 tI199:=⟨⟨_,_,rfl,rfl,rfl,rfl,rfl,(fun _=>⟨_,rfl⟩),(fun h=>by cases h)⟩,⟨_,rfl,rfl⟩,Df rfl,
 (fun h=>by cases h)⟩
theorem c0s:Au Tryz.prog tyT 205 tI205:=⟨⟨_,_,rfl,rfl,rfl,rfl,rfl,(fun h=>by cases h),(fun _=>rfl)⟩,rfl,(fun fs h=>by cases h),
 (fun h=>by cases h)⟩
theorem b9j:Au Tryz.prog tyT 223 tI223:=⟨⟨_,_,rfl,rfl,rfl,rfl,rfl,(fun _=>⟨_,rfl⟩),(fun h=>by cases h)⟩,⟨_,rfl,rfl⟩,Df rfl,
 (fun _=>⟨(by first | exact Tryz.stoodInHeld223 | kernel_rfl),(by first | exact Tryz.eqGuardType223 | kernel_rfl),(fun fields h=>by first | (injection h with h;injection h with h;subst h;simp;done) | (cases h))⟩)⟩
theorem b9h:Au Tryz.prog tyT 224 tI223:=⟨⟨_,_,rfl,rfl,rfl,rfl,rfl,(fun _=>⟨_,rfl⟩),(fun h=>by cases h)⟩,⟨_,rfl,rfl⟩,Df rfl,
 (fun _=>⟨(by first | exact Tryz.stoodInHeld224 | kernel_rfl),(by first | exact Tryz.eqGuardType224 | kernel_rfl),(fun fields h=>by first | (injection h with h;injection h with h;subst h;simp;done) | (cases h))⟩)⟩
theorem b8r:Au Tryz.prog tyT 225 tI225:=⟨⟨_,_,rfl,rfl,rfl,rfl,rfl,(fun _=>⟨_,rfl⟩),(fun h=>by cases h)⟩,rfl,(fun fs h=>by cases h),(fun h=>by cases h)⟩
theorem b8c:Au Tryz.prog tyT 246 tI15:=⟨⟨_,_,rfl,rfl,rfl,rfl,rfl,(fun h=>by cases h),(fun _=>rfl)⟩,⟨_,rfl,(fun _ h=>by cases h),(fun _ _ h=>by cases h)⟩,(fun fs h=>by cases h),
 (fun h=>by cases h)⟩
theorem c03:Au Tryz.prog tyT 248 tI248:=⟨⟨_,_,rfl,rfl,rfl,rfl,rfl,(fun _=>⟨_,rfl⟩),(fun h=>by cases h)⟩,rfl,(fun fs h=>by cases h),(fun h=>by cases h)⟩
theorem b8b:Au Tryz.prog tyT 249 tI249:=⟨⟨_,_,rfl,rfl,rfl,rfl,rfl,(fun h=>by cases h),(fun _=>rfl)⟩,rfl,(fun fs h=>by cases h),
 (fun h=>by cases h)⟩
theorem b86:Au Tryz.prog tyT 250 tI2:=⟨⟨_,_,rfl,rfl,rfl,rfl,rfl,(fun h=>by cases h),(fun _=>rfl)⟩,rfl,(fun fs h=>by cases h),
 (fun h=>by cases h)⟩
theorem b9i:Au Tryz.prog tyT 253 tI15:=⟨⟨_,_,rfl,rfl,rfl,rfl,rfl,(fun h=>by cases h),(fun _=>rfl)⟩,⟨_,rfl,(fun _ h=>by cases h),(fun _ _ h=>by cases h)⟩,(fun fs h=>by cases h),
 (fun h=>by cases h)⟩
theorem b8t:Au Tryz.prog tyT 265 tI265:=⟨⟨_,_,rfl,rfl,rfl,rfl,rfl,(fun _=>⟨_,rfl⟩),(fun h=>by cases h)⟩,⟨_,rfl,rfl⟩,Df rfl,
 (fun h=>by cases h)⟩
theorem c0p:Au Tryz.prog tyT 266 tI265:=⟨⟨_,_,rfl,rfl,rfl,rfl,rfl,(fun _=>⟨_,rfl⟩),(fun h=>by cases h)⟩,⟨_,rfl,rfl⟩,Df rfl,
 (fun h=>by cases h)⟩
theorem b88:Au Tryz.prog tyT 269 tI269:=⟨⟨_,_,rfl,rfl,rfl,rfl,rfl,(fun h=>by cases h),(fun _=>rfl)⟩,rfl,(fun fs h=>by cases h),
 (fun h=>by cases h)⟩
theorem c1a:Au Tryz.prog tyT 272 tI272:=⟨⟨_,_,rfl,rfl,rfl,rfl,rfl,(fun _=>⟨_,rfl⟩),(fun h=>by cases h)⟩,rfl,(fun fs h=>by cases h),(fun h=>by cases h)⟩
theorem c0u:Au Tryz.prog tyT 277 tI15:=⟨⟨_,_,rfl,rfl,rfl,rfl,rfl,(fun h=>by cases h),(fun _=>rfl)⟩,⟨_,rfl,(fun _ h=>by cases h),(fun _ _ h=>by cases h)⟩,(fun fs h=>by cases h),
 (fun h=>by cases h)⟩
theorem c06:Au Tryz.prog tyT 278 tI15:=⟨⟨_,_,rfl,rfl,rfl,rfl,rfl,(fun h=>by cases h),(fun _=>rfl)⟩,⟨_,rfl,(fun _ h=>by cases h),(fun _ _ h=>by cases h)⟩,(fun fs h=>by cases h),
 (fun h=>by cases h)⟩
theorem c0b:Au Tryz.prog tyT 279 tI279:=⟨⟨_,_,rfl,rfl,rfl,rfl,rfl,(fun _=>⟨_,rfl⟩),(fun h=>by cases h)⟩,⟨_,rfl,rfl⟩,Df rfl,
 (fun _=>⟨(by first | exact Tryz.stoodInHeld279 | kernel_rfl),(by first | exact Tryz.eqGuardType279 | kernel_rfl),(fun fields h=>by first | (injection h with h;injection h with h;subst h;simp;done) | (cases h))⟩)⟩
theorem b8p:Au Tryz.prog tyT 280 tI279:=⟨⟨_,_,rfl,rfl,rfl,rfl,rfl,(fun _=>⟨_,rfl⟩),(fun h=>by cases h)⟩,⟨_,rfl,rfl⟩,Df rfl,
 (fun _=>⟨(by first | exact Tryz.stoodInHeld280 | kernel_rfl),(by first | exact Tryz.eqGuardType280 | kernel_rfl),(fun fields h=>by first | (injection h with h;injection h with h;subst h;simp;done) | (cases h))⟩)⟩
theorem b8e:Au Tryz.prog tyT 283 tI283:=⟨⟨_,_,rfl,rfl,rfl,rfl,rfl,(fun _=>⟨_,rfl⟩),(fun h=>by cases h)⟩,rfl,(fun fs h=>by cases h),(fun h=>by cases h)⟩
theorem b9z:Au Tryz.prog tyT 287 tI287:=⟨⟨_,_,rfl,rfl,rfl,rfl,rfl,(fun _=>⟨_,rfl⟩),(fun h=>by cases h)⟩,rfl,(fun fs h=>by cases h),(fun h=>by cases h)⟩
theorem b97:Au Tryz.prog tyT 288 tI288:=⟨⟨_,_,rfl,rfl,rfl,rfl,rfl,(fun _=>⟨_,rfl⟩),(fun h=>by cases h)⟩,rfl,(fun fs h=>by cases h),(fun h=>by cases h)⟩
theorem b8h:Au Tryz.prog tyT 289 tI289:=⟨⟨_,_,rfl,rfl,rfl,rfl,rfl,(fun _=>⟨_,rfl⟩),(fun h=>by cases h)⟩,⟨_,rfl,rfl⟩,Df rfl,
 (fun h=>by cases h)⟩
theorem b9t:Au Tryz.prog tyT 290 tI289:=⟨⟨_,_,rfl,rfl,rfl,rfl,rfl,(fun _=>⟨_,rfl⟩),(fun h=>by cases h)⟩,⟨_,rfl,rfl⟩,Df rfl,
 (fun h=>by cases h)⟩
theorem c0v:Au Tryz.prog tyT 291 tI291:=⟨⟨_,_,rfl,rfl,rfl,rfl,rfl,(fun _=>⟨_,rfl⟩),(fun h=>by cases h)⟩,rfl,(fun fs h=>by cases h),(fun h=>by cases h)⟩
theorem b84:Au Tryz.prog tyT 292 tI292:=⟨⟨_,_,rfl,rfl,rfl,rfl,rfl,(fun _=>⟨_,rfl⟩),(fun h=>by cases h)⟩,⟨_,rfl,rfl⟩,Df rfl,
 (fun h=>by cases h)⟩
theorem b8v:Au Tryz.prog tyT 293 tI292:=⟨⟨_,_,rfl,rfl,rfl,rfl,rfl,(fun _=>⟨_,rfl⟩),(fun h=>by cases h)⟩,⟨_,rfl,rfl⟩,Df rfl,
 (fun h=>by cases h)⟩
theorem c0y:Au Tryz.prog tyT 294 tI5:=⟨⟨_,_,rfl,rfl,rfl,rfl,rfl,(fun h=>by cases h),(fun _=>rfl)⟩,rfl,(fun fs h=>by cases h),
 (fun h=>by cases h)⟩
theorem c0e:Au Tryz.prog tyT 295 tI5:=⟨⟨_,_,rfl,rfl,rfl,rfl,rfl,(fun h=>by cases h),(fun _=>rfl)⟩,rfl,(fun fs h=>by cases h),
 (fun h=>by cases h)⟩
theorem b87:Au Tryz.prog tyT 297 tI21:=⟨⟨_,_,rfl,rfl,rfl,rfl,rfl,(fun h=>by cases h),(fun _=>rfl)⟩,rfl,(fun fs h=>by cases h),
 (fun h=>by cases h)⟩
theorem b9c:Au Tryz.prog tyT 298 tI21:=⟨⟨_,_,rfl,rfl,rfl,rfl,rfl,(fun h=>by cases h),(fun _=>rfl)⟩,rfl,(fun fs h=>by cases h),
 (fun h=>by cases h)⟩
theorem b8l:Au Tryz.prog tyT 301 tI15:=⟨⟨_,_,rfl,rfl,rfl,rfl,rfl,(fun h=>by cases h),(fun _=>rfl)⟩,⟨_,rfl,(fun _ h=>by cases h),(fun _ _ h=>by cases h)⟩,(fun fs h=>by cases h),
 (fun h=>by cases h)⟩
theorem b2d:Cv Tryz.prog tyT:=b2y (by
 simp only[tyL,List.forall_mem_cons,List.not_mem_nil,false_implies,implies_true,and_true]
 exact ⟨ty2,ty3,ty4,ty5,ty6,ty7,ty8,ty9,ty10,ty11,ty12,ty13,ty14,ty15,ty16,ty17,ty18,ty19,ty20,ty21,ty22,ty23,ty24,ty25,ty26,ty27,ty28,ty29,ty30,ty31,ty32,ty34,ty36,ty37,ty38,ty39,ty51,ty54,ty80,ty87,ty88,c05,c0f,b85,c0o,b8s,b9r,b8j,b8i,b8k,b9m,b83,b8m,c00,b80,b8f,c0d,c08,b8d,b8u,c0k,b9w,b9b,b90,b98,b8g,b8y,c0s,b9j,b9h,b8r,b8c,c03,b8b,b86,b9i,b8t,c0p,b88,c1a,c0u,c06,c0b,b8p,b8e,b9z,b97,b8h,b9t,c0v,b84,b8v,c0y,c0e,b87,b9c,b8l⟩)
end Go.Proofs.YtdkgnmiiibpnnaaGreatDoor
