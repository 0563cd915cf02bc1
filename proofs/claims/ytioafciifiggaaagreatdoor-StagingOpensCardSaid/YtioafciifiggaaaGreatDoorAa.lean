/- Staging. No condition. -/
import Derived.Test.YtioafciifiggaaaGreatDoorL0
import Derived.Test.YtioafciifiggaaaGreatDoorProg
import Derived.Test.YtioafciifiggaaaGreatDoorLb
import Derived.KernelRfl
set_option linter.all false
namespace Go.Proofs.YtioafciifiggaaaGreatDoor
open Go.Proofs Go.AL
@[go_sem] theorem ft3:dU Tryz.prog 3=some 1/\iB Tryz.prog 3=some false/\vS Tryz.prog 3=some .i64/\fQ Tryz.prog 3=some [AV.c (.int .i64 0)]:=by refine⟨?_,?_,?_,?_⟩<;>kernel_rfl
@[go_sem] theorem ft4:dU Tryz.prog 4=some 1/\iB Tryz.prog 4=some false/\mW Tryz.prog 4 isBool=true/\fQ Tryz.prog 4=some [AV.c (.bool false)]:=by refine⟨?_,?_,?_,?_⟩<;>kernel_rfl
@[go_sem] theorem Za:dU Tryz.prog 5=some 1:=by kernel_rfl
@[go_sem] theorem Zb:iB Tryz.prog 5=some false:=by kernel_rfl
@[go_sem] theorem ft5:vS Tryz.prog 5=some .u8/\fQ Tryz.prog 5=some [AV.c (.int .u8 0)]:=by refine⟨?_,?_⟩<;>kernel_rfl
@[go_sem] theorem ft9:mW Tryz.prog 9 isString=true:=by kernel_rfl
@[go_sem] theorem bw5:mW Tryz.prog 20 isAny=true:=by kernel_rfl
@[go_sem] theorem bw6:dU Tryz.prog 22=some 1/\iB Tryz.prog 22=some false/\fC Tryz.prog 22=some (124,8)/\fQ Tryz.prog 22=some [AV.c (.slice none 0 0)]:=by refine⟨?_,?_,?_,?_⟩<;>kernel_rfl
@[go_sem] theorem bw7:dU Tryz.prog 23=some 1/\iB Tryz.prog 23=some false/\fC Tryz.prog 23=some (176,9):=by refine⟨?_,?_,?_⟩<;>kernel_rfl
@[go_sem] theorem bw8:dU Tryz.prog 25=some 2/\iB Tryz.prog 25=some true/\dE Tryz.prog 25 0=some (0,1,22)/\dE Tryz.prog 25 1=some (1,1,23):=by refine⟨?_,?_,?_,?_⟩<;>kernel_rfl
@[go_sem] theorem bw9:dU Tryz.prog 27=some 2/\iB Tryz.prog 27=some true/\dE Tryz.prog 27 0=some (0,1,3)/\dE Tryz.prog 27 1=some (1,1,3)/\eK Tryz.prog 27 1=some (1,1)/\mL Tryz.prog 27=true/\fQ Tryz.prog 27=some [AV.c (.int .i64 0),AV.c (.int .i64 0)]:=by refine⟨?_,?_,?_,?_,?_,?_,?_⟩<;>kernel_rfl
@[go_sem] theorem bx0:dU Tryz.prog 28=some 1/\iB Tryz.prog 28=some false/\fC Tryz.prog 28=some (3,1):=by refine⟨?_,?_,?_⟩<;>kernel_rfl
@[go_sem] theorem bx1:dU Tryz.prog 30=some 6/\iB Tryz.prog 30=some true/\dE Tryz.prog 30 0=some (0,2,27)/\eK Tryz.prog 30 0=some (0,2)/\dE Tryz.prog 30 1=some (2,1,3)/\eK Tryz.prog 30 1=some (2,1)/\dE Tryz.prog 30 2=some (3,1,3)/\eK Tryz.prog 30 2=some (3,1)/\dE Tryz.prog 30 3=some (4,1,3)/\eK Tryz.prog 30 3=some (4,1)/\dE Tryz.prog 30 4=some (5,1,28)/\mL Tryz.prog 30=true/\fQ Tryz.prog 30=some [AV.c (.int .i64 0),AV.c (.int .i64 0),AV.c (.int .i64 0),AV.c (.int .i64 0),AV.c (.int .i64 0),AV.c (.slice none 0 0)]:=by refine⟨?_,?_,?_,?_,?_,?_,?_,?_,?_,?_,?_,?_,?_⟩<;>kernel_rfl
@[go_sem] theorem bx2:dU Tryz.prog 31=some 1/\iB Tryz.prog 31=some false/\fC Tryz.prog 31=some (64,7):=by refine⟨?_,?_,?_⟩<;>kernel_rfl
@[go_sem] theorem bx3:dU Tryz.prog 33=some 7/\iB Tryz.prog 33=some true/\dE Tryz.prog 33 0=some (0,6,30)/\eK Tryz.prog 33 0=some (0,6)/\dE Tryz.prog 33 1=some (6,1,31)/\eK Tryz.prog 33 1=some (6,1)/\mL Tryz.prog 33=true/\fQ Tryz.prog 33=some [AV.c (.int .i64 0),AV.c (.int .i64 0),AV.c (.int .i64 0),AV.c (.int .i64 0),AV.c (.int .i64 0),AV.c (.slice none 0 0),AV.c (.slice none 0 0)]:=by refine⟨?_,?_,?_,?_,?_,?_,?_,?_⟩<;>kernel_rfl
@[go_sem] theorem bx4:fC Tryz.prog 37=some (100,3):=by kernel_rfl
@[go_sem] theorem bx5:dU Tryz.prog 38=some 1/\iB Tryz.prog 38=some false/\fQ Tryz.prog 38=some [AV.c (.int .i64 0)]:=by refine⟨?_,?_,?_⟩<;>kernel_rfl
@[go_sem] theorem bx6:dU Tryz.prog 61=some 1/\iB Tryz.prog 61=some false/\fC Tryz.prog 61=some (74,1)/\fQ Tryz.prog 61=some [AV.c (.slice none 0 0)]:=by refine⟨?_,?_,?_,?_⟩<;>kernel_rfl
@[go_sem] theorem bx7:dU Tryz.prog 62=some 1/\iB Tryz.prog 62=some false/\fC Tryz.prog 62=some (4,1)/\fQ Tryz.prog 62=some [AV.c (.slice none 0 0)]:=by refine⟨?_,?_,?_,?_⟩<;>kernel_rfl
@[go_sem] theorem bx8:dU Tryz.prog 64=some 7/\iB Tryz.prog 64=some true/\dE Tryz.prog 64 0=some (0,1,3)/\eK Tryz.prog 64 0=some (0,1)/\dE Tryz.prog 64 1=some (1,1,3)/\eK Tryz.prog 64 1=some (1,1)/\dE Tryz.prog 64 2=some (2,1,3)/\eK Tryz.prog 64 2=some (2,1)/\dE Tryz.prog 64 3=some (3,1,61)/\eK Tryz.prog 64 3=some (3,1)/\dE Tryz.prog 64 4=some (4,1,62)/\eK Tryz.prog 64 4=some (4,1)/\dE Tryz.prog 64 5=some (5,1,28)/\eK Tryz.prog 64 5=some (5,1)/\dE Tryz.prog 64 6=some (6,1,4)/\eK Tryz.prog 64 6=some (6,1)/\mL Tryz.prog 64=true/\fQ Tryz.prog 64=some [AV.c (.int .i64 0),AV.c (.int .i64 0),AV.c (.int .i64 0),AV.c (.slice none 0 0),AV.c (.slice none 0 0),AV.c (.slice none 0 0),AV.c (.bool false)]:=by refine⟨?_,?_,?_,?_,?_,?_,?_,?_,?_,?_,?_,?_,?_,?_,?_,?_,?_,?_⟩<;>kernel_rfl
@[go_sem] theorem bx9:dU Tryz.prog 74=some 1/\iB Tryz.prog 74=some false/\fC Tryz.prog 74=some (5,1)/\fQ Tryz.prog 74=some [AV.c (.slice none 0 0)]:=by refine⟨?_,?_,?_,?_⟩<;>kernel_rfl
@[go_sem] theorem by0:dU Tryz.prog 77=some 1/\iB Tryz.prog 77=some false/\fC Tryz.prog 77=some (126,3):=by refine⟨?_,?_,?_⟩<;>kernel_rfl
@[go_sem] theorem by1:dU Tryz.prog 79=some 5/\iB Tryz.prog 79=some true/\dE Tryz.prog 79 0=some (0,1,3)/\eK Tryz.prog 79 0=some (0,1)/\dE Tryz.prog 79 1=some (1,1,3)/\eK Tryz.prog 79 1=some (1,1)/\dE Tryz.prog 79 2=some (2,1,3)/\dE Tryz.prog 79 3=some (3,1,28)/\dE Tryz.prog 79 4=some (4,1,77)/\eK Tryz.prog 79 4=some (4,1)/\mL Tryz.prog 79=true/\fQ Tryz.prog 79=some [AV.c (.int .i64 0),AV.c (.int .i64 0),AV.c (.int .i64 0),AV.c (.slice none 0 0),AV.c (.slice none 0 0)]:=by refine⟨?_,?_,?_,?_,?_,?_,?_,?_,?_,?_,?_,?_⟩<;>kernel_rfl
@[go_sem] theorem by2:dU Tryz.prog 88=some 1/\iB Tryz.prog 88=some false/\fC Tryz.prog 88=some (64,7):=by refine⟨?_,?_,?_⟩<;>kernel_rfl
@[go_sem] theorem by3:dE Tryz.prog 100 0=some (0,1,3)/\eK Tryz.prog 100 0=some (0,1)/\dE Tryz.prog 100 1=some (1,1,3)/\eK Tryz.prog 100 1=some (1,1)/\dE Tryz.prog 100 2=some (2,1,22)/\eK Tryz.prog 100 2=some (2,1)/\mL Tryz.prog 100=true/\fQ Tryz.prog 100=some [AV.c (.int .i64 0),AV.c (.int .i64 0),AV.c (.slice none 0 0)]:=by refine⟨?_,?_,?_,?_,?_,?_,?_,?_⟩<;>kernel_rfl
@[go_sem] theorem by4:fC Tryz.prog 104=some (111,3):=by kernel_rfl
@[go_sem] theorem by5:dE Tryz.prog 109 0=some (0,1,88)/\dE Tryz.prog 109 1=some (1,1,3)/\mL Tryz.prog 109=true/\fQ Tryz.prog 109=some [AV.c (.slice none 0 0),AV.c (.int .i64 0)]:=by refine⟨?_,?_,?_,?_⟩<;>kernel_rfl
@[go_sem] theorem by6:dU Tryz.prog 111=some 3/\iB Tryz.prog 111=some true/\dE Tryz.prog 111 0=some (0,1,3)/\eK Tryz.prog 111 0=some (0,1)/\dE Tryz.prog 111 1=some (1,1,3)/\eK Tryz.prog 111 1=some (1,1)/\dE Tryz.prog 111 2=some (2,1,74)/\eK Tryz.prog 111 2=some (2,1)/\mL Tryz.prog 111=true/\fQ Tryz.prog 111=some [AV.c (.int .i64 0),AV.c (.int .i64 0),AV.c (.slice none 0 0)]:=by refine⟨?_,?_,?_,?_,?_,?_,?_,?_,?_,?_⟩<;>kernel_rfl
@[go_sem] theorem by7:dU Tryz.prog 124=some 8/\iB Tryz.prog 124=some true/\qC Tryz.prog 124=some (8,5,1):=by refine⟨?_,?_,?_⟩<;>kernel_rfl
@[go_sem] theorem by8:eK Tryz.prog 124=fun i=>some (i*1,1):=by kernel_rfl
@[go_sem] theorem by9:mL Tryz.prog 124=true:=by kernel_rfl
@[go_sem] theorem bz0:dU Tryz.prog 126=some 3/\iB Tryz.prog 126=some true/\dE Tryz.prog 126 0=some (0,1,3)/\eK Tryz.prog 126 0=some (0,1)/\dE Tryz.prog 126 1=some (1,1,3)/\eK Tryz.prog 126 1=some (1,1)/\dE Tryz.prog 126 2=some (2,1,22)/\eK Tryz.prog 126 2=some (2,1)/\mL Tryz.prog 126=true/\fQ Tryz.prog 126=some [AV.c (.int .i64 0),AV.c (.int .i64 0),AV.c (.slice none 0 0)]:=by refine⟨?_,?_,?_,?_,?_,?_,?_,?_,?_,?_⟩<;>kernel_rfl
@[go_sem] theorem bz1:yQ Tryz.prog 128=some (3,4,.int .i64):=by kernel_rfl
@[go_sem] theorem bz2:dU Tryz.prog 132=some 2/\iB Tryz.prog 132=some true/\dE Tryz.prog 132 0=some (0,2,27)/\eK Tryz.prog 132 0=some (0,2)/\mL Tryz.prog 132=true/\fQ Tryz.prog 132=some [AV.c (.int .i64 0),AV.c (.int .i64 0)]:=by refine⟨?_,?_,?_,?_,?_,?_⟩<;>kernel_rfl
@[go_sem] theorem bz3:dU Tryz.prog 134=some 9/\iB Tryz.prog 134=some true/\dE Tryz.prog 134 0=some (0,2,132)/\eK Tryz.prog 134 0=some (0,2)/\dE Tryz.prog 134 1=some (2,6,30)/\eK Tryz.prog 134 1=some (2,6)/\dE Tryz.prog 134 2=some (8,1,3)/\eK Tryz.prog 134 2=some (8,1)/\mL Tryz.prog 134=true/\fQ Tryz.prog 134=some [AV.c (.int .i64 0),AV.c (.int .i64 0),AV.c (.int .i64 0),AV.c (.int .i64 0),AV.c (.int .i64 0),AV.c (.int .i64 0),AV.c (.int .i64 0),AV.c (.slice none 0 0),AV.c (.int .i64 0)]:=by refine⟨?_,?_,?_,?_,?_,?_,?_,?_,?_,?_⟩<;>kernel_rfl
@[go_sem] theorem bz4:dU Tryz.prog 146=some 1/\iB Tryz.prog 146=some false/\vS Tryz.prog 146=some .u32:=by refine⟨?_,?_,?_⟩<;>kernel_rfl
@[go_sem] theorem bz5:dU Tryz.prog 149=some 3/\iB Tryz.prog 149=some true/\dE Tryz.prog 149 0=some (0,1,3)/\eK Tryz.prog 149 0=some (0,1)/\dE Tryz.prog 149 1=some (1,1,3)/\eK Tryz.prog 149 1=some (1,1)/\dE Tryz.prog 149 2=some (2,1,3)/\eK Tryz.prog 149 2=some (2,1)/\mL Tryz.prog 149=true/\fQ Tryz.prog 149=some [AV.c (.int .i64 0),AV.c (.int .i64 0),AV.c (.int .i64 0)]:=by refine⟨?_,?_,?_,?_,?_,?_,?_,?_,?_,?_⟩<;>kernel_rfl
@[go_sem] theorem bz6:dU Tryz.prog 154=some 4/\iB Tryz.prog 154=some true/\dE Tryz.prog 154 0=some (0,3,149)/\eK Tryz.prog 154 0=some (0,3)/\dE Tryz.prog 154 1=some (3,1,3)/\eK Tryz.prog 154 1=some (3,1)/\mL Tryz.prog 154=true/\fQ Tryz.prog 154=some [AV.c (.int .i64 0),AV.c (.int .i64 0),AV.c (.int .i64 0),AV.c (.int .i64 0)]:=by refine⟨?_,?_,?_,?_,?_,?_,?_,?_⟩<;>kernel_rfl
@[go_sem] theorem bz7:dU Tryz.prog 161=some 5/\iB Tryz.prog 161=some true/\dE Tryz.prog 161 0=some (0,1,3)/\eK Tryz.prog 161 0=some (0,1)/\dE Tryz.prog 161 1=some (1,1,3)/\eK Tryz.prog 161 1=some (1,1)/\dE Tryz.prog 161 2=some (2,1,3)/\eK Tryz.prog 161 2=some (2,1)/\dE Tryz.prog 161 3=some (3,1,61)/\eK Tryz.prog 161 3=some (3,1)/\dE Tryz.prog 161 4=some (4,1,62)/\eK Tryz.prog 161 4=some (4,1)/\mL Tryz.prog 161=true/\fQ Tryz.prog 161=some [AV.c (.int .i64 0),AV.c (.int .i64 0),AV.c (.int .i64 0),AV.c (.slice none 0 0),AV.c (.slice none 0 0)]:=by refine⟨?_,?_,?_,?_,?_,?_,?_,?_,?_,?_,?_,?_,?_,?_⟩<;>kernel_rfl
@[go_sem] theorem bz8:dU Tryz.prog 176=some 9/\iB Tryz.prog 176=some true/\dE Tryz.prog 176 0=some (0,1,3)/\dE Tryz.prog 176 1=some (1,8,124)/\fQ Tryz.prog 176=some [AV.c (.int .i64 0),AV.c (.int .u8 0),AV.c (.int .u8 0),AV.c (.int .u8 0),AV.c (.int .u8 0),AV.c (.int .u8 0),AV.c (.int .u8 0),AV.c (.int .u8 0),AV.c (.int .u8 0)]:=by refine⟨?_,?_,?_,?_,?_⟩<;>kernel_rfl
@[go_sem] theorem bz9:dE Tryz.prog 197 0=some (0,1,3)/\eK Tryz.prog 197 0=some (0,1)/\dE Tryz.prog 197 1=some (1,1,3)/\eK Tryz.prog 197 1=some (1,1)/\mL Tryz.prog 197=true/\fQ Tryz.prog 197=some [AV.c (.int .i64 0),AV.c (.int .i64 0)]:=by refine⟨?_,?_,?_,?_,?_,?_⟩<;>kernel_rfl
@[go_sem] theorem bA0:yQ Tryz.prog 204=some (3,112,.int .i64):=by kernel_rfl
@[go_sem] theorem bA1:dU Tryz.prog 238=some 1/\iB Tryz.prog 238=some false:=by refine⟨?_,?_⟩<;>kernel_rfl
@[go_sem] theorem bA2:dE Tryz.prog 259 0=some (0,1,3)/\eK Tryz.prog 259 0=some (0,1)/\dE Tryz.prog 259 1=some (1,1,74)/\eK Tryz.prog 259 1=some (1,1)/\mL Tryz.prog 259=true/\fQ Tryz.prog 259=some [AV.c (.int .i64 0),AV.c (.slice none 0 0)]:=by refine⟨?_,?_,?_,?_,?_,?_⟩<;>kernel_rfl
@[go_sem] theorem bA3:dU Tryz.prog 261=some 3/\iB Tryz.prog 261=some true/\dE Tryz.prog 261 0=some (0,2,259)/\eK Tryz.prog 261 0=some (0,2)/\dE Tryz.prog 261 1=some (2,1,22)/\eK Tryz.prog 261 1=some (2,1)/\mL Tryz.prog 261=true/\fQ Tryz.prog 261=some [AV.c (.int .i64 0),AV.c (.slice none 0 0),AV.c (.slice none 0 0)]:=by refine⟨?_,?_,?_,?_,?_,?_,?_,?_⟩<;>kernel_rfl
@[go_sem] theorem bA4:dU Tryz.prog 262=some 6/\iB Tryz.prog 262=some true/\qC Tryz.prog 262=some (2,261,3):=by refine⟨?_,?_,?_⟩<;>kernel_rfl
@[go_sem] theorem bA5:eK Tryz.prog 262=fun i=>some (i*3,3):=by kernel_rfl
@[go_sem] theorem bA6:mL Tryz.prog 262=true/\fQ Tryz.prog 262=some [AV.c (.int .i64 0),AV.c (.slice none 0 0),AV.c (.slice none 0 0),AV.c (.int .i64 0),AV.c (.slice none 0 0),AV.c (.slice none 0 0)]:=by refine⟨?_,?_⟩<;>kernel_rfl
@[go_sem] theorem bA7:vS Tryz.prog 286=some .u64:=by kernel_rfl
@[go_sem] theorem bA8:dU Tryz.prog 289=some 5/\iB Tryz.prog 289=some true/\dE Tryz.prog 289 0=some (0,1,3)/\eK Tryz.prog 289 0=some (0,1)/\dE Tryz.prog 289 1=some (1,1,3)/\eK Tryz.prog 289 1=some (1,1)/\dE Tryz.prog 289 2=some (2,1,3)/\eK Tryz.prog 289 2=some (2,1)/\dE Tryz.prog 289 3=some (3,1,3)/\eK Tryz.prog 289 3=some (3,1)/\dE Tryz.prog 289 4=some (4,1,74)/\eK Tryz.prog 289 4=some (4,1)/\mL Tryz.prog 289=true/\fQ Tryz.prog 289=some [AV.c (.int .i64 0),AV.c (.int .i64 0),AV.c (.int .i64 0),AV.c (.int .i64 0),AV.c (.slice none 0 0)]:=by refine⟨?_,?_,?_,?_,?_,?_,?_,?_,?_,?_,?_,?_,?_,?_⟩<;>kernel_rfl
@[go_sem] theorem bA9:fC Tryz.prog 293=some (22,1):=by kernel_rfl
@[go_sem] theorem bB0:dU Tryz.prog 294=some 1/\iB Tryz.prog 294=some false/\fC Tryz.prog 294=some (22,1)/\fQ Tryz.prog 294=some [AV.c (.slice none 0 0)]:=by refine⟨?_,?_,?_,?_⟩<;>kernel_rfl
@[go_sem] theorem bB1:dU Tryz.prog 304=some 256/\iB Tryz.prog 304=some true/\qC Tryz.prog 304=some (256,146,1)/\fQ Tryz.prog 304=some (List.replicate 256 (AV.c (.int .u32 0))):=by refine⟨?_,?_,?_,?_⟩<;>kernel_rfl
@[go_sem] theorem bB2:dU Tryz.prog 307=some 1/\iB Tryz.prog 307=some false/\fQ Tryz.prog 307=some [AV.c (.pointer none)]:=by refine⟨?_,?_,?_⟩<;>kernel_rfl
@[go_sem] theorem bB3:fC Tryz.prog 308=some (307,1):=by kernel_rfl
@[go_sem] theorem bB4:dU Tryz.prog 328=some 1/\mW Tryz.prog 328 x9=true/\dE Tryz.prog 328 0=some (0,1,38)/\eK Tryz.prog 328 0=some (0,1)/\mL Tryz.prog 328=true/\fQ Tryz.prog 328=some [AV.c (.int .i64 0)]:=by refine⟨?_,?_,?_,?_,?_,?_⟩<;>kernel_rfl
@[go_sem] theorem bB5:dE Tryz.prog 332 0=some (0,1,74):=by kernel_rfl
@[go_sem] theorem bB6:dE Tryz.prog 334 0=some (0,1,332)/\dE Tryz.prog 334 1=some (1,1,3)/\dE Tryz.prog 334 2=some (2,1,3)/\mL Tryz.prog 334=true/\fQ Tryz.prog 334=some [AV.c (.slice none 0 0),AV.c (.int .i64 0),AV.c (.int .i64 0)]:=by refine⟨?_,?_,?_,?_,?_⟩<;>kernel_rfl
@[go_sem] theorem bB7:qC Tryz.prog 344=some (4,3,1)/\fQ Tryz.prog 344=some [AV.c (.int .i64 0),AV.c (.int .i64 0),AV.c (.int .i64 0),AV.c (.int .i64 0)]:=by refine⟨?_,?_⟩<;>kernel_rfl
@[go_sem] theorem bB8:dU Tryz.prog 362=some 1/\mW Tryz.prog 362 x9=true/\dE Tryz.prog 362 0=some (0,1,38)/\eK Tryz.prog 362 0=some (0,1)/\mL Tryz.prog 362=true/\fQ Tryz.prog 362=some [AV.c (.int .i64 0)]:=by refine⟨?_,?_,?_,?_,?_,?_⟩<;>kernel_rfl
@[go_sem] theorem bB9:dE Tryz.prog 376 0=some (0,1,74)/\eK Tryz.prog 376 0=some (0,1)/\mL Tryz.prog 376=true/\fQ Tryz.prog 376=some [AV.c (.slice none 0 0)]:=by refine⟨?_,?_,?_,?_⟩<;>kernel_rfl
@[go_sem] theorem bC0:BX Tryz.prog 4=some (AV.c (.bool false)):=by kernel_rfl
@[go_sem] theorem bC1:BX Tryz.prog 112=some (AV.c .nilFunc):=by kernel_rfl
@[go_sem] theorem bC2:p5 Tryz.prog 3=some 8:=by kernel_rfl
@[go_sem] theorem bC3:p5 Tryz.prog 4=some 1:=by kernel_rfl
@[go_sem] theorem bC4:p5 Tryz.prog 5=some 1:=by kernel_rfl
@[go_sem] theorem bC5:p5 Tryz.prog 22=some 24:=by kernel_rfl
@[go_sem] theorem bC6:p5 Tryz.prog 64=some 104:=by kernel_rfl
@[go_sem] theorem bC7:p5 Tryz.prog 74=some 24:=by kernel_rfl
@[go_sem] theorem bC8:p5 Tryz.prog 100=some 40:=by kernel_rfl
@[go_sem] theorem bC9:p5 Tryz.prog 111=some 40:=by kernel_rfl
@[go_sem] theorem bD0:p5 Tryz.prog 124=some 8:=by kernel_rfl
@[go_sem] theorem bD1:p5 Tryz.prog 126=some 40:=by kernel_rfl
end Go.Proofs.YtioafciifiggaaaGreatDoor
