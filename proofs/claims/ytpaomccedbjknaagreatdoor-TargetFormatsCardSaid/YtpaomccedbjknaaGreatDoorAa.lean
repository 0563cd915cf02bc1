/- Target: contracts of its functions (Aa). No condition but those named. -/
import Derived.Test.YtpaomccedbjknaaGreatDoorProg
import Derived.Test.YtpaomccedbjknaaGreatDoorLb
import Derived.KernelRfl
set_option linter.all false
namespace Go.Proofs.YtpaomccedbjknaaGreatDoor
open Go.Proofs Go.AL Tryz
@[go_sem] theorem Ja:cT prog 3=some 1:=by kernel_rfl
@[go_sem] theorem Jb:fP prog 3=some false:=by kernel_rfl
@[go_sem] theorem ft3:wF prog 3=some .i64/\eX prog 3=some [AV.c (.int .i64 0)]:=by refine⟨?_,?_⟩<;>kernel_rfl
@[go_sem] theorem ft4:cT prog 4=some 1/\fP prog 4=some false/\mP prog 4 isBool=true/\eX prog 4=some [AV.c (.bool false)]:=by refine⟨?_,?_,?_,?_⟩<;>kernel_rfl
@[go_sem] theorem aa1:cT prog 5=some 1:=by kernel_rfl
@[go_sem] theorem aa2:fP prog 5=some false:=by kernel_rfl
@[go_sem] theorem ft5:wF prog 5=some .u8/\eX prog 5=some [AV.c (.int .u8 0)]:=by refine⟨?_,?_⟩<;>kernel_rfl
@[go_sem] theorem ft9:mP prog 9 isString=true:=by kernel_rfl
@[go_sem] theorem bI8:mP prog 20 isAny=true:=by kernel_rfl
@[go_sem] theorem bI9:cT prog 22=some 1/\fP prog 22=some false/\fB prog 22=some (3,1):=by refine⟨?_,?_,?_⟩<;>kernel_rfl
@[go_sem] theorem bJ0:cT prog 23=some 1/\fP prog 23=some false/\fB prog 23=some (163,2):=by refine⟨?_,?_,?_⟩<;>kernel_rfl
@[go_sem] theorem bJ1:cT prog 25=some 2/\fP prog 25=some true/\cB prog 25 0=some (0,1,3)/\dD prog 25 0=some (0,1)/\cB prog 25 1=some (1,1,23)/\k8 prog 25=true/\eX prog 25=some [AV.c (.int .i64 0),AV.c (.slice none 0 0)]:=by refine⟨?_,?_,?_,?_,?_,?_,?_⟩<;>kernel_rfl
@[go_sem] theorem bJ2:cB prog 27 0=some (0,1,3)/\cB prog 27 1=some (1,1,3)/\cB prog 27 2=some (2,1,22)/\cB prog 27 3=some (3,1,3)/\cB prog 27 4=some (4,2,25):=by refine⟨?_,?_,?_,?_,?_⟩<;>kernel_rfl
@[go_sem] theorem bJ3:cT prog 29=some 1/\fP prog 29=some false/\eX prog 29=some [AV.c (.int .i64 0)]:=by refine⟨?_,?_,?_⟩<;>kernel_rfl
@[go_sem] theorem bJ4:cT prog 35=some 6/\fP prog 35=some true/\cB prog 35 0=some (0,1,22)/\dD prog 35 0=some (0,1)/\cB prog 35 1=some (1,1,3)/\dD prog 35 1=some (1,1)/\cB prog 35 2=some (2,1,3)/\dD prog 35 2=some (2,1)/\cB prog 35 3=some (3,1,3)/\dD prog 35 3=some (3,1)/\cB prog 35 4=some (4,1,3)/\cB prog 35 5=some (5,1,3)/\k8 prog 35=true/\eX prog 35=some [AV.c (.slice none 0 0),AV.c (.int .i64 0),AV.c (.int .i64 0),AV.c (.int .i64 0),AV.c (.int .i64 0),AV.c (.int .i64 0)]:=by refine⟨?_,?_,?_,?_,?_,?_,?_,?_,?_,?_,?_,?_,?_,?_⟩<;>kernel_rfl
@[go_sem] theorem bJ5:cT prog 37=some 2/\fP prog 37=some true/\cB prog 37 0=some (0,1,3)/\dD prog 37 0=some (0,1)/\cB prog 37 1=some (1,1,3)/\dD prog 37 1=some (1,1)/\k8 prog 37=true/\eX prog 37=some [AV.c (.int .i64 0),AV.c (.int .i64 0)]:=by refine⟨?_,?_,?_,?_,?_,?_,?_,?_⟩<;>kernel_rfl
@[go_sem] theorem bJ6:cT prog 39=some 6/\fP prog 39=some true/\cB prog 39 0=some (0,2,37)/\dD prog 39 0=some (0,2)/\cB prog 39 1=some (2,1,3)/\cB prog 39 2=some (3,1,3)/\cB prog 39 3=some (4,1,3)/\dD prog 39 3=some (4,1)/\cB prog 39 4=some (5,1,22)/\k8 prog 39=true/\eX prog 39=some [AV.c (.int .i64 0),AV.c (.int .i64 0),AV.c (.int .i64 0),AV.c (.int .i64 0),AV.c (.int .i64 0),AV.c (.slice none 0 0)]:=by refine⟨?_,?_,?_,?_,?_,?_,?_,?_,?_,?_,?_⟩<;>kernel_rfl
@[go_sem] theorem bJ7:cT prog 40=some 1/\fP prog 40=some false/\fB prog 40=some (192,7):=by refine⟨?_,?_,?_⟩<;>kernel_rfl
@[go_sem] theorem bJ8:cT prog 42=some 7/\fP prog 42=some true/\cB prog 42 0=some (0,6,39)/\dD prog 42 0=some (0,6)/\cB prog 42 1=some (6,1,40)/\dD prog 42 1=some (6,1)/\k8 prog 42=true/\eX prog 42=some [AV.c (.int .i64 0),AV.c (.int .i64 0),AV.c (.int .i64 0),AV.c (.int .i64 0),AV.c (.int .i64 0),AV.c (.slice none 0 0),AV.c (.slice none 0 0)]:=by refine⟨?_,?_,?_,?_,?_,?_,?_,?_⟩<;>kernel_rfl
@[go_sem] theorem bJ9:fB prog 43=some (58,1):=by kernel_rfl
@[go_sem] theorem bK0:cT prog 44=some 1/\fP prog 44=some false/\fB prog 44=some (58,1)/\eX prog 44=some [AV.c (.slice none 0 0)]:=by refine⟨?_,?_,?_,?_⟩<;>kernel_rfl
@[go_sem] theorem bK1:cT prog 45=some 1/\fP prog 45=some false/\fB prog 45=some (86,3):=by refine⟨?_,?_,?_⟩<;>kernel_rfl
@[go_sem] theorem bK2:cT prog 47=some 2/\fP prog 47=some true/\cB prog 47 0=some (0,1,44)/\dD prog 47 0=some (0,1)/\cB prog 47 1=some (1,1,45)/\k8 prog 47=true/\eX prog 47=some [AV.c (.slice none 0 0),AV.c (.slice none 0 0)]:=by refine⟨?_,?_,?_,?_,?_,?_,?_⟩<;>kernel_rfl
@[go_sem] theorem bK3:cT prog 49=some 18/\fP prog 49=some true/\cB prog 49 0=some (0,6,35)/\dD prog 49 0=some (0,6)/\cB prog 49 1=some (6,7,42)/\dD prog 49 1=some (6,7)/\cB prog 49 2=some (13,2,47)/\dD prog 49 2=some (13,2)/\cB prog 49 3=some (15,2,25)/\dD prog 49 3=some (15,2)/\cB prog 49 4=some (17,1,3)/\dD prog 49 4=some (17,1)/\k8 prog 49=true/\eX prog 49=some [AV.c (.slice none 0 0),AV.c (.int .i64 0),AV.c (.int .i64 0),AV.c (.int .i64 0),AV.c (.int .i64 0),AV.c (.int .i64 0),AV.c (.int .i64 0),AV.c (.int .i64 0),AV.c (.int .i64 0),AV.c (.int .i64 0),AV.c (.int .i64 0),AV.c (.slice none 0 0),AV.c (.slice none 0 0),AV.c (.slice none 0 0),AV.c (.slice none 0 0),AV.c (.int .i64 0),AV.c (.slice none 0 0),AV.c (.int .i64 0)]:=by refine⟨?_,?_,?_,?_,?_,?_,?_,?_,?_,?_,?_,?_,?_,?_⟩<;>kernel_rfl
@[go_sem] theorem bK4:cT prog 50=some 1/\fP prog 50=some false/\fB prog 50=some (105,3)/\eX prog 50=some [AV.c (.slice none 0 0)]:=by refine⟨?_,?_,?_,?_⟩<;>kernel_rfl
@[go_sem] theorem bK5:cT prog 58=some 1/\fP prog 58=some false/\fB prog 58=some (67,8)/\eX prog 58=some [AV.c (.slice none 0 0)]:=by refine⟨?_,?_,?_,?_⟩<;>kernel_rfl
@[go_sem] theorem bK6:cT prog 59=some 1/\fP prog 59=some false/\fB prog 59=some (232,9):=by refine⟨?_,?_,?_⟩<;>kernel_rfl
@[go_sem] theorem bK7:cT prog 61=some 2/\fP prog 61=some true/\cB prog 61 0=some (0,1,58)/\dD prog 61 0=some (0,1)/\cB prog 61 1=some (1,1,59)/\dD prog 61 1=some (1,1)/\k8 prog 61=true/\eX prog 61=some [AV.c (.slice none 0 0),AV.c (.slice none 0 0)]:=by refine⟨?_,?_,?_,?_,?_,?_,?_,?_⟩<;>kernel_rfl
@[go_sem] theorem bK8:cT prog 67=some 8/\fP prog 67=some true/\r4 prog 67=some (8,5,1):=by refine⟨?_,?_,?_⟩<;>kernel_rfl
@[go_sem] theorem bK9:dD prog 67=fun i=>some (i*1,1):=by kernel_rfl
@[go_sem] theorem bL0:k8 prog 67=true:=by kernel_rfl
@[go_sem] theorem bL1:cT prog 69=some 3/\fP prog 69=some true/\cB prog 69 0=some (0,1,3)/\dD prog 69 0=some (0,1)/\cB prog 69 1=some (1,1,3)/\dD prog 69 1=some (1,1)/\cB prog 69 2=some (2,1,58)/\dD prog 69 2=some (2,1)/\k8 prog 69=true/\eX prog 69=some [AV.c (.int .i64 0),AV.c (.int .i64 0),AV.c (.slice none 0 0)]:=by refine⟨?_,?_,?_,?_,?_,?_,?_,?_,?_,?_⟩<;>kernel_rfl
@[go_sem] theorem bL2:cT prog 70=some 1/\fP prog 70=some false/\fB prog 70=some (69,3):=by refine⟨?_,?_,?_⟩<;>kernel_rfl
@[go_sem] theorem bL3:cT prog 72=some 5/\fP prog 72=some true/\cB prog 72 0=some (0,1,3)/\cB prog 72 1=some (1,1,3)/\dD prog 72 1=some (1,1)/\cB prog 72 2=some (2,1,3)/\cB prog 72 3=some (3,1,22)/\cB prog 72 4=some (4,1,70)/\dD prog 72 4=some (4,1)/\k8 prog 72=true/\eX prog 72=some [AV.c (.int .i64 0),AV.c (.int .i64 0),AV.c (.int .i64 0),AV.c (.slice none 0 0),AV.c (.slice none 0 0)]:=by refine⟨?_,?_,?_,?_,?_,?_,?_,?_,?_,?_,?_⟩<;>kernel_rfl
@[go_sem] theorem bL4:cT prog 73=some 1/\fP prog 73=some false/\fB prog 73=some (77,1)/\eX prog 73=some [AV.c (.slice none 0 0)]:=by refine⟨?_,?_,?_,?_⟩<;>kernel_rfl
@[go_sem] theorem bL5:cT prog 77=some 1/\fP prog 77=some false/\fB prog 77=some (5,1)/\eX prog 77=some [AV.c (.slice none 0 0)]:=by refine⟨?_,?_,?_,?_⟩<;>kernel_rfl
@[go_sem] theorem bL6:cT prog 86=some 3/\fP prog 86=some true/\cB prog 86 0=some (0,1,3)/\dD prog 86 0=some (0,1)/\cB prog 86 1=some (1,1,3)/\dD prog 86 1=some (1,1)/\cB prog 86 2=some (2,1,70)/\k8 prog 86=true/\eX prog 86=some [AV.c (.int .i64 0),AV.c (.int .i64 0),AV.c (.slice none 0 0)]:=by refine⟨?_,?_,?_,?_,?_,?_,?_,?_,?_⟩<;>kernel_rfl
@[go_sem] theorem bL7:cT prog 105=some 3/\fP prog 105=some true/\cB prog 105 0=some (0,1,3)/\dD prog 105 0=some (0,1)/\cB prog 105 1=some (1,1,3)/\dD prog 105 1=some (1,1)/\cB prog 105 2=some (2,1,58)/\dD prog 105 2=some (2,1)/\k8 prog 105=true/\eX prog 105=some [AV.c (.int .i64 0),AV.c (.int .i64 0),AV.c (.slice none 0 0)]:=by refine⟨?_,?_,?_,?_,?_,?_,?_,?_,?_,?_⟩<;>kernel_rfl
@[go_sem] theorem bL8:cT prog 124=some 1/\fP prog 124=some false/\wF prog 124=some .u32:=by refine⟨?_,?_,?_⟩<;>kernel_rfl
@[go_sem] theorem bL9:cT prog 127=some 3/\fP prog 127=some true/\cB prog 127 0=some (0,1,3)/\dD prog 127 0=some (0,1)/\cB prog 127 1=some (1,1,3)/\dD prog 127 1=some (1,1)/\cB prog 127 2=some (2,1,3)/\dD prog 127 2=some (2,1)/\k8 prog 127=true/\eX prog 127=some [AV.c (.int .i64 0),AV.c (.int .i64 0),AV.c (.int .i64 0)]:=by refine⟨?_,?_,?_,?_,?_,?_,?_,?_,?_,?_⟩<;>kernel_rfl
@[go_sem] theorem bM0:cT prog 132=some 4/\fP prog 132=some true/\cB prog 132 0=some (0,3,127)/\dD prog 132 0=some (0,3)/\cB prog 132 1=some (3,1,3)/\dD prog 132 1=some (3,1)/\k8 prog 132=true/\eX prog 132=some [AV.c (.int .i64 0),AV.c (.int .i64 0),AV.c (.int .i64 0),AV.c (.int .i64 0)]:=by refine⟨?_,?_,?_,?_,?_,?_,?_,?_⟩<;>kernel_rfl
@[go_sem] theorem bM1:cB prog 149 0=some (0,2,61)/\dD prog 149 0=some (0,2)/\cB prog 149 1=some (2,1,50)/\k8 prog 149=true/\eX prog 149=some [AV.c (.slice none 0 0),AV.c (.slice none 0 0),AV.c (.slice none 0 0)]:=by refine⟨?_,?_,?_,?_,?_⟩<;>kernel_rfl
@[go_sem] theorem bM2:cT prog 160=some 1/\mP prog 160 xE=true/\cB prog 160 0=some (0,1,29)/\dD prog 160 0=some (0,1)/\k8 prog 160=true/\eX prog 160=some [AV.c (.int .i64 0)]:=by refine⟨?_,?_,?_,?_,?_,?_⟩<;>kernel_rfl
@[go_sem] theorem bM3:cT prog 163=some 2/\fP prog 163=some true/\cB prog 163 0=some (0,1,3)/\cB prog 163 1=some (1,1,3)/\eX prog 163=some [AV.c (.int .i64 0),AV.c (.int .i64 0)]:=by refine⟨?_,?_,?_,?_,?_⟩<;>kernel_rfl
@[go_sem] theorem bM4:cT prog 166=some 1/\fP prog 166=some false/\eX prog 166=some [AV.c (.pointer none)]:=by refine⟨?_,?_,?_⟩<;>kernel_rfl
@[go_sem] theorem bM5:cB prog 171 0=some (0,6,35)/\dD prog 171 0=some (0,6)/\k8 prog 171=true/\eX prog 171=some [AV.c (.slice none 0 0),AV.c (.int .i64 0),AV.c (.int .i64 0),AV.c (.int .i64 0),AV.c (.int .i64 0),AV.c (.int .i64 0)]:=by refine⟨?_,?_,?_,?_⟩<;>kernel_rfl
@[go_sem] theorem bM6:fB prog 176=some (50,1):=by kernel_rfl
@[go_sem] theorem bM7:cT prog 190=some 1/\fP prog 190=some false/\fB prog 190=some (4,1):=by refine⟨?_,?_,?_⟩<;>kernel_rfl
@[go_sem] theorem bM8:cT prog 192=some 7/\fP prog 192=some true/\cB prog 192 0=some (0,1,3)/\dD prog 192 0=some (0,1)/\cB prog 192 1=some (1,1,3)/\dD prog 192 1=some (1,1)/\cB prog 192 2=some (2,1,3)/\dD prog 192 2=some (2,1)/\cB prog 192 3=some (3,1,73)/\cB prog 192 4=some (4,1,190)/\dD prog 192 4=some (4,1)/\cB prog 192 5=some (5,1,22)/\dD prog 192 5=some (5,1)/\cB prog 192 6=some (6,1,4)/\dD prog 192 6=some (6,1)/\k8 prog 192=true/\eX prog 192=some [AV.c (.int .i64 0),AV.c (.int .i64 0),AV.c (.int .i64 0),AV.c (.slice none 0 0),AV.c (.slice none 0 0),AV.c (.slice none 0 0),AV.c (.bool false)]:=by refine⟨?_,?_,?_,?_,?_,?_,?_,?_,?_,?_,?_,?_,?_,?_,?_,?_,?_⟩<;>kernel_rfl
@[go_sem] theorem bM9:cB prog 197 0=some (0,2,61)/\dD prog 197 0=some (0,2)/\k8 prog 197=true/\eX prog 197=some [AV.c (.slice none 0 0),AV.c (.slice none 0 0)]:=by refine⟨?_,?_,?_,?_⟩<;>kernel_rfl
@[go_sem] theorem bN0:cT prog 204=some 1/\fP prog 204=some false:=by refine⟨?_,?_⟩<;>kernel_rfl
@[go_sem] theorem bN1:fB prog 213=some (192,7):=by kernel_rfl
@[go_sem] theorem bN2:cT prog 216=some 5/\fP prog 216=some true/\cB prog 216 0=some (0,1,3)/\dD prog 216 0=some (0,1)/\cB prog 216 1=some (1,1,3)/\dD prog 216 1=some (1,1)/\cB prog 216 2=some (2,1,3)/\dD prog 216 2=some (2,1)/\cB prog 216 3=some (3,1,73)/\dD prog 216 3=some (3,1)/\cB prog 216 4=some (4,1,190)/\dD prog 216 4=some (4,1)/\k8 prog 216=true/\eX prog 216=some [AV.c (.int .i64 0),AV.c (.int .i64 0),AV.c (.int .i64 0),AV.c (.slice none 0 0),AV.c (.slice none 0 0)]:=by refine⟨?_,?_,?_,?_,?_,?_,?_,?_,?_,?_,?_,?_,?_,?_⟩<;>kernel_rfl
@[go_sem] theorem bN3:cT prog 232=some 9/\fP prog 232=some true/\cB prog 232 0=some (0,1,3)/\dD prog 232 0=some (0,1)/\cB prog 232 1=some (1,8,67)/\dD prog 232 1=some (1,8)/\k8 prog 232=true/\eX prog 232=some [AV.c (.int .i64 0),AV.c (.int .u8 0),AV.c (.int .u8 0),AV.c (.int .u8 0),AV.c (.int .u8 0),AV.c (.int .u8 0),AV.c (.int .u8 0),AV.c (.int .u8 0),AV.c (.int .u8 0)]:=by refine⟨?_,?_,?_,?_,?_,?_,?_,?_⟩<;>kernel_rfl
@[go_sem] theorem bN4:cT prog 258=some 2/\fP prog 258=some true/\cB prog 258 0=some (0,2,37)/\dD prog 258 0=some (0,2)/\k8 prog 258=true/\eX prog 258=some [AV.c (.int .i64 0),AV.c (.int .i64 0)]:=by refine⟨?_,?_,?_,?_,?_,?_⟩<;>kernel_rfl
@[go_sem] theorem bN5:cB prog 263 0=some (0,1,3)/\dD prog 263 0=some (0,1)/\cB prog 263 1=some (1,1,77)/\dD prog 263 1=some (1,1)/\k8 prog 263=true/\eX prog 263=some [AV.c (.int .i64 0),AV.c (.slice none 0 0)]:=by refine⟨?_,?_,?_,?_,?_,?_⟩<;>kernel_rfl
@[go_sem] theorem bN6:cT prog 265=some 3/\fP prog 265=some true/\cB prog 265 0=some (0,2,263)/\dD prog 265 0=some (0,2)/\cB prog 265 1=some (2,1,58)/\dD prog 265 1=some (2,1)/\k8 prog 265=true/\eX prog 265=some [AV.c (.int .i64 0),AV.c (.slice none 0 0),AV.c (.slice none 0 0)]:=by refine⟨?_,?_,?_,?_,?_,?_,?_,?_⟩<;>kernel_rfl
@[go_sem] theorem bN7:cT prog 273=some 1/\fP prog 273=some false:=by refine⟨?_,?_⟩<;>kernel_rfl
@[go_sem] theorem bN8:cT prog 274=some 2/\r4 prog 274=some (2,273,1):=by refine⟨?_,?_⟩<;>kernel_rfl
@[go_sem] theorem bN9:dD prog 274=fun i=>some (i*1,1):=by kernel_rfl
@[go_sem] theorem bO0:k8 prog 274=true/\eX prog 274=some [AV.c .nilFunc,AV.c .nilFunc]:=by refine⟨?_,?_⟩<;>kernel_rfl
@[go_sem] theorem bO1:cT prog 280=some 256/\fP prog 280=some true/\r4 prog 280=some (256,124,1)/\eX prog 280=some (List.replicate 256 (AV.c (.int .u32 0))):=by refine⟨?_,?_,?_,?_⟩<;>kernel_rfl
@[go_sem] theorem bO2:wF prog 282=some .u64:=by kernel_rfl
@[go_sem] theorem bO3:cT prog 284=some 1/\fP prog 284=some false/\eX prog 284=some [AV.c (.pointer none)]:=by refine⟨?_,?_,?_⟩<;>kernel_rfl
@[go_sem] theorem bO4:fB prog 285=some (284,1):=by kernel_rfl
@[go_sem] theorem bO5:zU prog 289=some (3,4,.int .i64):=by kernel_rfl
@[go_sem] theorem bO6:cT prog 292=some 9/\fP prog 292=some true/\cB prog 292 0=some (0,2,258)/\dD prog 292 0=some (0,2)/\cB prog 292 1=some (2,6,39)/\dD prog 292 1=some (2,6)/\cB prog 292 2=some (8,1,3)/\dD prog 292 2=some (8,1)/\k8 prog 292=true/\eX prog 292=some [AV.c (.int .i64 0),AV.c (.int .i64 0),AV.c (.int .i64 0),AV.c (.int .i64 0),AV.c (.int .i64 0),AV.c (.int .i64 0),AV.c (.int .i64 0),AV.c (.slice none 0 0),AV.c (.int .i64 0)]:=by refine⟨?_,?_,?_,?_,?_,?_,?_,?_,?_,?_⟩<;>kernel_rfl
@[go_sem] theorem bO7:cB prog 342 0=some (0,1,3)/\dD prog 342 0=some (0,1)/\cB prog 342 1=some (1,1,3)/\dD prog 342 1=some (1,1)/\cB prog 342 2=some (2,1,77)/\dD prog 342 2=some (2,1)/\k8 prog 342=true/\eX prog 342=some [AV.c (.int .i64 0),AV.c (.int .i64 0),AV.c (.slice none 0 0)]:=by refine⟨?_,?_,?_,?_,?_,?_,?_,?_⟩<;>kernel_rfl
@[go_sem] theorem bO8:cT prog 351=some 6/\fP prog 351=some true/\r4 prog 351=some (2,265,3):=by refine⟨?_,?_,?_⟩<;>kernel_rfl
@[go_sem] theorem bO9:dD prog 351=fun i=>some (i*3,3):=by kernel_rfl
@[go_sem] theorem bP0:k8 prog 351=true/\eX prog 351=some [AV.c (.int .i64 0),AV.c (.slice none 0 0),AV.c (.slice none 0 0),AV.c (.int .i64 0),AV.c (.slice none 0 0),AV.c (.slice none 0 0)]:=by refine⟨?_,?_⟩<;>kernel_rfl
@[go_sem] theorem bP1:cT prog 360=some 1/\fP prog 360=some false:=by refine⟨?_,?_⟩<;>kernel_rfl
@[go_sem] theorem bP2:fB prog 362=some (360,1):=by kernel_rfl
@[go_sem] theorem bP3:cB prog 373 0=some (0,1,77)/\dD prog 373 0=some (0,1)/\k8 prog 373=true/\eX prog 373=some [AV.c (.slice none 0 0)]:=by refine⟨?_,?_,?_,?_⟩<;>kernel_rfl
@[go_sem] theorem bP4:cT prog 377=some 1/\mP prog 377 xE=true/\cB prog 377 0=some (0,1,29)/\dD prog 377 0=some (0,1)/\k8 prog 377=true/\eX prog 377=some [AV.c (.int .i64 0)]:=by refine⟨?_,?_,?_,?_,?_,?_⟩<;>kernel_rfl
@[go_sem] theorem bP5:cB prog 389 0=some (0,1,3)/\dD prog 389 0=some (0,1)/\cB prog 389 1=some (1,1,3)/\dD prog 389 1=some (1,1)/\k8 prog 389=true/\eX prog 389=some [AV.c (.int .i64 0),AV.c (.int .i64 0)]:=by refine⟨?_,?_,?_,?_,?_,?_⟩<;>kernel_rfl
@[go_sem] theorem bP6:D4 prog 4=some (AV.c (.bool false)):=by kernel_rfl
@[go_sem] theorem bP7:oK prog 3=some 8:=by kernel_rfl
@[go_sem] theorem bP8:oK prog 4=some 1:=by kernel_rfl
@[go_sem] theorem bP9:oK prog 5=some 1:=by kernel_rfl
@[go_sem] theorem bQ0:oK prog 58=some 24:=by kernel_rfl
@[go_sem] theorem bQ1:oK prog 67=some 8:=by kernel_rfl
@[go_sem] theorem bQ2:oK prog 69=some 40:=by kernel_rfl
@[go_sem] theorem bQ3:oK prog 77=some 24:=by kernel_rfl
@[go_sem] theorem bQ4:oK prog 86=some 40:=by kernel_rfl
@[go_sem] theorem bQ5:oK prog 105=some 40:=by kernel_rfl
@[go_sem] theorem bQ6:oK prog 163=some 16:=by kernel_rfl
@[go_sem] theorem bQ7:oK prog 192=some 104:=by kernel_rfl
@[go_sem] theorem bQ8:oK prog 232=some 16:=by kernel_rfl
end Go.Proofs.YtpaomccedbjknaaGreatDoor
