/- Staging. No condition. -/
import Derived.Test.YtioafciifiggaaaGreatDoorL0
import Derived.Test.YtioafciifiggaaaGreatDoorProg
import Derived.Test.YtioafciifiggaaaGreatDoorLb
import Derived.KernelRfl
set_option linter.all false
namespace Go.Proofs.YtioafciifiggaaaGreatDoor
open Go.Proofs Go.AL
@[go_sem] theorem ft3:dX Tryz.prog 3=some 1/\iN Tryz.prog 3=some false/\xF Tryz.prog 3=some .i64/\fT Tryz.prog 3=some [AV.c (.int .i64 0)]:=by refine⟨?_,?_,?_,?_⟩<;>kernel_rfl
@[go_sem] theorem ft4:dX Tryz.prog 4=some 1/\iN Tryz.prog 4=some false/\oX Tryz.prog 4 isBool=true/\fT Tryz.prog 4=some [AV.c (.bool false)]:=by refine⟨?_,?_,?_,?_⟩<;>kernel_rfl
@[go_sem] theorem aH7:dX Tryz.prog 5=some 1:=by kernel_rfl
@[go_sem] theorem aH8:iN Tryz.prog 5=some false:=by kernel_rfl
@[go_sem] theorem ft5:xF Tryz.prog 5=some .u8/\fT Tryz.prog 5=some [AV.c (.int .u8 0)]:=by refine⟨?_,?_⟩<;>kernel_rfl
@[go_sem] theorem ft9:oX Tryz.prog 9 isString=true:=by kernel_rfl
@[go_sem] theorem cq7:oX Tryz.prog 20 isAny=true:=by kernel_rfl
@[go_sem] theorem cq8:dX Tryz.prog 22=some 1/\iN Tryz.prog 22=some false/\fG Tryz.prog 22=some (124,8)/\fT Tryz.prog 22=some [AV.c (.slice none 0 0)]:=by refine⟨?_,?_,?_,?_⟩<;>kernel_rfl
@[go_sem] theorem cq9:dX Tryz.prog 23=some 1/\iN Tryz.prog 23=some false/\fG Tryz.prog 23=some (176,9):=by refine⟨?_,?_,?_⟩<;>kernel_rfl
@[go_sem] theorem cr0:dX Tryz.prog 25=some 2/\iN Tryz.prog 25=some true/\dQ Tryz.prog 25 0=some (0,1,22)/\eT Tryz.prog 25 0=some (0,1)/\dQ Tryz.prog 25 1=some (1,1,23)/\eT Tryz.prog 25 1=some (1,1)/\nF Tryz.prog 25=true/\fT Tryz.prog 25=some [AV.c (.slice none 0 0),AV.c (.slice none 0 0)]:=by refine⟨?_,?_,?_,?_,?_,?_,?_,?_⟩<;>kernel_rfl
@[go_sem] theorem cr1:dX Tryz.prog 27=some 2/\iN Tryz.prog 27=some true/\dQ Tryz.prog 27 0=some (0,1,3)/\dQ Tryz.prog 27 1=some (1,1,3)/\eT Tryz.prog 27 1=some (1,1)/\nF Tryz.prog 27=true/\fT Tryz.prog 27=some [AV.c (.int .i64 0),AV.c (.int .i64 0)]:=by refine⟨?_,?_,?_,?_,?_,?_,?_⟩<;>kernel_rfl
@[go_sem] theorem cr2:dX Tryz.prog 28=some 1/\iN Tryz.prog 28=some false/\fG Tryz.prog 28=some (3,1):=by refine⟨?_,?_,?_⟩<;>kernel_rfl
@[go_sem] theorem cr3:dX Tryz.prog 30=some 6/\iN Tryz.prog 30=some true/\dQ Tryz.prog 30 0=some (0,2,27)/\eT Tryz.prog 30 0=some (0,2)/\dQ Tryz.prog 30 1=some (2,1,3)/\eT Tryz.prog 30 1=some (2,1)/\dQ Tryz.prog 30 2=some (3,1,3)/\eT Tryz.prog 30 2=some (3,1)/\dQ Tryz.prog 30 3=some (4,1,3)/\eT Tryz.prog 30 3=some (4,1)/\dQ Tryz.prog 30 4=some (5,1,28)/\nF Tryz.prog 30=true/\fT Tryz.prog 30=some [AV.c (.int .i64 0),AV.c (.int .i64 0),AV.c (.int .i64 0),AV.c (.int .i64 0),AV.c (.int .i64 0),AV.c (.slice none 0 0)]:=by refine⟨?_,?_,?_,?_,?_,?_,?_,?_,?_,?_,?_,?_,?_⟩<;>kernel_rfl
@[go_sem] theorem cr4:dX Tryz.prog 31=some 1/\iN Tryz.prog 31=some false:=by refine⟨?_,?_⟩<;>kernel_rfl
@[go_sem] theorem aH9:fG Tryz.prog 31=some (64,7):=by kernel_rfl
@[go_sem] theorem cr5:dX Tryz.prog 33=some 7/\iN Tryz.prog 33=some true/\dQ Tryz.prog 33 0=some (0,6,30)/\eT Tryz.prog 33 0=some (0,6)/\dQ Tryz.prog 33 1=some (6,1,31)/\eT Tryz.prog 33 1=some (6,1)/\nF Tryz.prog 33=true/\fT Tryz.prog 33=some [AV.c (.int .i64 0),AV.c (.int .i64 0),AV.c (.int .i64 0),AV.c (.int .i64 0),AV.c (.int .i64 0),AV.c (.slice none 0 0),AV.c (.slice none 0 0)]:=by refine⟨?_,?_,?_,?_,?_,?_,?_,?_⟩<;>kernel_rfl
@[go_sem] theorem cr6:fG Tryz.prog 37=some (100,3):=by kernel_rfl
@[go_sem] theorem cr7:dX Tryz.prog 38=some 1/\iN Tryz.prog 38=some false/\fT Tryz.prog 38=some [AV.c (.int .i64 0)]:=by refine⟨?_,?_,?_⟩<;>kernel_rfl
@[go_sem] theorem cr8:fG Tryz.prog 51=some (57,4):=by kernel_rfl
@[go_sem] theorem cr9:dX Tryz.prog 57=some 4/\iN Tryz.prog 57=some true/\dQ Tryz.prog 57 0=some (0,1,3)/\dQ Tryz.prog 57 1=some (1,1,3)/\dQ Tryz.prog 57 2=some (2,1,3)/\dQ Tryz.prog 57 3=some (3,1,5)/\fT Tryz.prog 57=some [AV.c (.int .i64 0),AV.c (.int .i64 0),AV.c (.int .i64 0),AV.c (.int .u8 0)]:=by refine⟨?_,?_,?_,?_,?_,?_,?_⟩<;>kernel_rfl
@[go_sem] theorem cs0:dX Tryz.prog 61=some 1/\iN Tryz.prog 61=some false/\fG Tryz.prog 61=some (74,1)/\fT Tryz.prog 61=some [AV.c (.slice none 0 0)]:=by refine⟨?_,?_,?_,?_⟩<;>kernel_rfl
@[go_sem] theorem cs1:dX Tryz.prog 62=some 1/\iN Tryz.prog 62=some false/\fG Tryz.prog 62=some (4,1)/\fT Tryz.prog 62=some [AV.c (.slice none 0 0)]:=by refine⟨?_,?_,?_,?_⟩<;>kernel_rfl
@[go_sem] theorem cs2:dX Tryz.prog 64=some 7/\iN Tryz.prog 64=some true/\dQ Tryz.prog 64 0=some (0,1,3)/\eT Tryz.prog 64 0=some (0,1)/\dQ Tryz.prog 64 1=some (1,1,3)/\eT Tryz.prog 64 1=some (1,1)/\dQ Tryz.prog 64 2=some (2,1,3)/\eT Tryz.prog 64 2=some (2,1)/\dQ Tryz.prog 64 3=some (3,1,61)/\dQ Tryz.prog 64 4=some (4,1,62)/\eT Tryz.prog 64 4=some (4,1)/\dQ Tryz.prog 64 5=some (5,1,28)/\eT Tryz.prog 64 5=some (5,1)/\dQ Tryz.prog 64 6=some (6,1,4)/\eT Tryz.prog 64 6=some (6,1)/\nF Tryz.prog 64=true:=by refine⟨?_,?_,?_,?_,?_,?_,?_,?_,?_,?_,?_,?_,?_,?_,?_,?_⟩<;>kernel_rfl
@[go_sem] theorem aI0:fT Tryz.prog 64=some [AV.c (.int .i64 0),AV.c (.int .i64 0),AV.c (.int .i64 0),AV.c (.slice none 0 0),AV.c (.slice none 0 0),AV.c (.slice none 0 0),AV.c (.bool false)]:=by kernel_rfl
@[go_sem] theorem cs3:xF Tryz.prog 69=some .u16:=by kernel_rfl
@[go_sem] theorem cs4:dX Tryz.prog 74=some 1/\iN Tryz.prog 74=some false/\fG Tryz.prog 74=some (5,1)/\fT Tryz.prog 74=some [AV.c (.slice none 0 0)]:=by refine⟨?_,?_,?_,?_⟩<;>kernel_rfl
@[go_sem] theorem cs5:dX Tryz.prog 77=some 1/\iN Tryz.prog 77=some false/\fG Tryz.prog 77=some (126,3):=by refine⟨?_,?_,?_⟩<;>kernel_rfl
@[go_sem] theorem cs6:dX Tryz.prog 79=some 5/\iN Tryz.prog 79=some true/\dQ Tryz.prog 79 0=some (0,1,3)/\eT Tryz.prog 79 0=some (0,1)/\dQ Tryz.prog 79 1=some (1,1,3)/\eT Tryz.prog 79 1=some (1,1)/\dQ Tryz.prog 79 2=some (2,1,3)/\dQ Tryz.prog 79 3=some (3,1,28)/\dQ Tryz.prog 79 4=some (4,1,77)/\eT Tryz.prog 79 4=some (4,1)/\nF Tryz.prog 79=true/\fT Tryz.prog 79=some [AV.c (.int .i64 0),AV.c (.int .i64 0),AV.c (.int .i64 0),AV.c (.slice none 0 0),AV.c (.slice none 0 0)]:=by refine⟨?_,?_,?_,?_,?_,?_,?_,?_,?_,?_,?_,?_⟩<;>kernel_rfl
@[go_sem] theorem cs7:dX Tryz.prog 88=some 1/\iN Tryz.prog 88=some false/\fG Tryz.prog 88=some (64,7):=by refine⟨?_,?_,?_⟩<;>kernel_rfl
@[go_sem] theorem cs8:dX Tryz.prog 100=some 3/\iN Tryz.prog 100=some true/\dQ Tryz.prog 100 0=some (0,1,3)/\eT Tryz.prog 100 0=some (0,1)/\dQ Tryz.prog 100 1=some (1,1,3)/\eT Tryz.prog 100 1=some (1,1)/\dQ Tryz.prog 100 2=some (2,1,22)/\eT Tryz.prog 100 2=some (2,1)/\nF Tryz.prog 100=true/\fT Tryz.prog 100=some [AV.c (.int .i64 0),AV.c (.int .i64 0),AV.c (.slice none 0 0)]:=by refine⟨?_,?_,?_,?_,?_,?_,?_,?_,?_,?_⟩<;>kernel_rfl
@[go_sem] theorem cs9:fG Tryz.prog 104=some (111,3):=by kernel_rfl
@[go_sem] theorem ct0:dQ Tryz.prog 109 0=some (0,1,88)/\dQ Tryz.prog 109 1=some (1,1,3)/\nF Tryz.prog 109=true/\fT Tryz.prog 109=some [AV.c (.slice none 0 0),AV.c (.int .i64 0)]:=by refine⟨?_,?_,?_,?_⟩<;>kernel_rfl
@[go_sem] theorem ct1:dX Tryz.prog 111=some 3/\iN Tryz.prog 111=some true/\dQ Tryz.prog 111 0=some (0,1,3)/\eT Tryz.prog 111 0=some (0,1)/\dQ Tryz.prog 111 1=some (1,1,3)/\eT Tryz.prog 111 1=some (1,1)/\dQ Tryz.prog 111 2=some (2,1,74)/\eT Tryz.prog 111 2=some (2,1)/\nF Tryz.prog 111=true/\fT Tryz.prog 111=some [AV.c (.int .i64 0),AV.c (.int .i64 0),AV.c (.slice none 0 0)]:=by refine⟨?_,?_,?_,?_,?_,?_,?_,?_,?_,?_⟩<;>kernel_rfl
@[go_sem] theorem ct2:dQ Tryz.prog 120 0=some (0,2,25)/\eT Tryz.prog 120 0=some (0,2)/\nF Tryz.prog 120=true/\fT Tryz.prog 120=some [AV.c (.slice none 0 0),AV.c (.slice none 0 0)]:=by refine⟨?_,?_,?_,?_⟩<;>kernel_rfl
@[go_sem] theorem ct3:dX Tryz.prog 124=some 8/\iN Tryz.prog 124=some true/\sO Tryz.prog 124=some (8,5,1):=by refine⟨?_,?_,?_⟩<;>kernel_rfl
@[go_sem] theorem ct4:eT Tryz.prog 124=fun i=>some (i*1,1):=by kernel_rfl
@[go_sem] theorem ct5:nF Tryz.prog 124=true:=by kernel_rfl
@[go_sem] theorem ct6:dX Tryz.prog 126=some 3/\iN Tryz.prog 126=some true/\dQ Tryz.prog 126 0=some (0,1,3)/\eT Tryz.prog 126 0=some (0,1)/\dQ Tryz.prog 126 1=some (1,1,3)/\eT Tryz.prog 126 1=some (1,1)/\dQ Tryz.prog 126 2=some (2,1,22)/\eT Tryz.prog 126 2=some (2,1)/\nF Tryz.prog 126=true/\fT Tryz.prog 126=some [AV.c (.int .i64 0),AV.c (.int .i64 0),AV.c (.slice none 0 0)]:=by refine⟨?_,?_,?_,?_,?_,?_,?_,?_,?_,?_⟩<;>kernel_rfl
@[go_sem] theorem ct7:zP Tryz.prog 128=some (3,4,.int .i64):=by kernel_rfl
@[go_sem] theorem ct8:dX Tryz.prog 132=some 2/\iN Tryz.prog 132=some true/\dQ Tryz.prog 132 0=some (0,2,27)/\eT Tryz.prog 132 0=some (0,2)/\nF Tryz.prog 132=true/\fT Tryz.prog 132=some [AV.c (.int .i64 0),AV.c (.int .i64 0)]:=by refine⟨?_,?_,?_,?_,?_,?_⟩<;>kernel_rfl
@[go_sem] theorem ct9:dX Tryz.prog 134=some 9/\iN Tryz.prog 134=some true/\dQ Tryz.prog 134 0=some (0,2,132)/\eT Tryz.prog 134 0=some (0,2)/\dQ Tryz.prog 134 1=some (2,6,30)/\eT Tryz.prog 134 1=some (2,6)/\dQ Tryz.prog 134 2=some (8,1,3)/\eT Tryz.prog 134 2=some (8,1)/\nF Tryz.prog 134=true/\fT Tryz.prog 134=some [AV.c (.int .i64 0),AV.c (.int .i64 0),AV.c (.int .i64 0),AV.c (.int .i64 0),AV.c (.int .i64 0),AV.c (.int .i64 0),AV.c (.int .i64 0),AV.c (.slice none 0 0),AV.c (.int .i64 0)]:=by refine⟨?_,?_,?_,?_,?_,?_,?_,?_,?_,?_⟩<;>kernel_rfl
@[go_sem] theorem cu0:dX Tryz.prog 146=some 1/\iN Tryz.prog 146=some false/\xF Tryz.prog 146=some .u32:=by refine⟨?_,?_,?_⟩<;>kernel_rfl
@[go_sem] theorem cu1:dX Tryz.prog 149=some 3/\iN Tryz.prog 149=some true/\dQ Tryz.prog 149 0=some (0,1,3)/\eT Tryz.prog 149 0=some (0,1)/\dQ Tryz.prog 149 1=some (1,1,3)/\eT Tryz.prog 149 1=some (1,1)/\dQ Tryz.prog 149 2=some (2,1,3)/\eT Tryz.prog 149 2=some (2,1)/\nF Tryz.prog 149=true/\fT Tryz.prog 149=some [AV.c (.int .i64 0),AV.c (.int .i64 0),AV.c (.int .i64 0)]:=by refine⟨?_,?_,?_,?_,?_,?_,?_,?_,?_,?_⟩<;>kernel_rfl
@[go_sem] theorem cu2:dX Tryz.prog 154=some 4/\iN Tryz.prog 154=some true/\dQ Tryz.prog 154 0=some (0,3,149)/\eT Tryz.prog 154 0=some (0,3)/\dQ Tryz.prog 154 1=some (3,1,3)/\eT Tryz.prog 154 1=some (3,1)/\nF Tryz.prog 154=true/\fT Tryz.prog 154=some [AV.c (.int .i64 0),AV.c (.int .i64 0),AV.c (.int .i64 0),AV.c (.int .i64 0)]:=by refine⟨?_,?_,?_,?_,?_,?_,?_,?_⟩<;>kernel_rfl
@[go_sem] theorem cu3:dX Tryz.prog 161=some 5/\iN Tryz.prog 161=some true/\dQ Tryz.prog 161 0=some (0,1,3)/\eT Tryz.prog 161 0=some (0,1)/\dQ Tryz.prog 161 1=some (1,1,3)/\eT Tryz.prog 161 1=some (1,1)/\dQ Tryz.prog 161 2=some (2,1,3)/\eT Tryz.prog 161 2=some (2,1)/\dQ Tryz.prog 161 3=some (3,1,61)/\eT Tryz.prog 161 3=some (3,1)/\dQ Tryz.prog 161 4=some (4,1,62)/\eT Tryz.prog 161 4=some (4,1)/\nF Tryz.prog 161=true/\fT Tryz.prog 161=some [AV.c (.int .i64 0),AV.c (.int .i64 0),AV.c (.int .i64 0),AV.c (.slice none 0 0),AV.c (.slice none 0 0)]:=by refine⟨?_,?_,?_,?_,?_,?_,?_,?_,?_,?_,?_,?_,?_,?_⟩<;>kernel_rfl
@[go_sem] theorem cu4:dX Tryz.prog 176=some 9/\iN Tryz.prog 176=some true/\dQ Tryz.prog 176 0=some (0,1,3)/\eT Tryz.prog 176 0=some (0,1)/\dQ Tryz.prog 176 1=some (1,8,124)/\eT Tryz.prog 176 1=some (1,8)/\nF Tryz.prog 176=true/\fT Tryz.prog 176=some [AV.c (.int .i64 0),AV.c (.int .u8 0),AV.c (.int .u8 0),AV.c (.int .u8 0),AV.c (.int .u8 0),AV.c (.int .u8 0),AV.c (.int .u8 0),AV.c (.int .u8 0),AV.c (.int .u8 0)]:=by refine⟨?_,?_,?_,?_,?_,?_,?_,?_⟩<;>kernel_rfl
@[go_sem] theorem cu5:dQ Tryz.prog 197 0=some (0,1,3)/\eT Tryz.prog 197 0=some (0,1)/\dQ Tryz.prog 197 1=some (1,1,3)/\eT Tryz.prog 197 1=some (1,1)/\nF Tryz.prog 197=true/\fT Tryz.prog 197=some [AV.c (.int .i64 0),AV.c (.int .i64 0)]:=by refine⟨?_,?_,?_,?_,?_,?_⟩<;>kernel_rfl
@[go_sem] theorem cu6:zP Tryz.prog 204=some (3,112,.int .i64):=by kernel_rfl
@[go_sem] theorem cu7:dX Tryz.prog 223=some 1/\iN Tryz.prog 223=some false:=by refine⟨?_,?_⟩<;>kernel_rfl
@[go_sem] theorem cu8:dX Tryz.prog 224=some 2/\sO Tryz.prog 224=some (2,223,1):=by refine⟨?_,?_⟩<;>kernel_rfl
@[go_sem] theorem cu9:eT Tryz.prog 224=fun i=>some (i*1,1):=by kernel_rfl
@[go_sem] theorem cv0:nF Tryz.prog 224=true/\fT Tryz.prog 224=some [AV.c .nilFunc,AV.c .nilFunc]:=by refine⟨?_,?_⟩<;>kernel_rfl
@[go_sem] theorem cv1:zP Tryz.prog 226=some (3,22,.int .i64):=by kernel_rfl
@[go_sem] theorem cv2:dX Tryz.prog 238=some 1/\iN Tryz.prog 238=some false:=by refine⟨?_,?_⟩<;>kernel_rfl
@[go_sem] theorem cv3:dQ Tryz.prog 259 0=some (0,1,3)/\eT Tryz.prog 259 0=some (0,1)/\dQ Tryz.prog 259 1=some (1,1,74)/\eT Tryz.prog 259 1=some (1,1)/\nF Tryz.prog 259=true/\fT Tryz.prog 259=some [AV.c (.int .i64 0),AV.c (.slice none 0 0)]:=by refine⟨?_,?_,?_,?_,?_,?_⟩<;>kernel_rfl
@[go_sem] theorem cv4:dX Tryz.prog 261=some 3/\iN Tryz.prog 261=some true/\dQ Tryz.prog 261 0=some (0,2,259)/\eT Tryz.prog 261 0=some (0,2)/\dQ Tryz.prog 261 1=some (2,1,22)/\eT Tryz.prog 261 1=some (2,1)/\nF Tryz.prog 261=true/\fT Tryz.prog 261=some [AV.c (.int .i64 0),AV.c (.slice none 0 0),AV.c (.slice none 0 0)]:=by refine⟨?_,?_,?_,?_,?_,?_,?_,?_⟩<;>kernel_rfl
@[go_sem] theorem cv5:dX Tryz.prog 262=some 6/\iN Tryz.prog 262=some true/\sO Tryz.prog 262=some (2,261,3):=by refine⟨?_,?_,?_⟩<;>kernel_rfl
@[go_sem] theorem cv6:eT Tryz.prog 262=fun i=>some (i*3,3):=by kernel_rfl
@[go_sem] theorem cv7:nF Tryz.prog 262=true/\fT Tryz.prog 262=some [AV.c (.int .i64 0),AV.c (.slice none 0 0),AV.c (.slice none 0 0),AV.c (.int .i64 0),AV.c (.slice none 0 0),AV.c (.slice none 0 0)]:=by refine⟨?_,?_⟩<;>kernel_rfl
@[go_sem] theorem cv8:xF Tryz.prog 286=some .u64:=by kernel_rfl
@[go_sem] theorem cv9:fG Tryz.prog 293=some (22,1):=by kernel_rfl
@[go_sem] theorem cw0:dX Tryz.prog 294=some 1/\iN Tryz.prog 294=some false/\fG Tryz.prog 294=some (22,1)/\fT Tryz.prog 294=some [AV.c (.slice none 0 0)]:=by refine⟨?_,?_,?_,?_⟩<;>kernel_rfl
@[go_sem] theorem cw1:dX Tryz.prog 304=some 256/\iN Tryz.prog 304=some true/\sO Tryz.prog 304=some (256,146,1)/\fT Tryz.prog 304=some (List.replicate 256 (AV.c (.int .u32 0))):=by refine⟨?_,?_,?_,?_⟩<;>kernel_rfl
@[go_sem] theorem cw2:dX Tryz.prog 307=some 1/\iN Tryz.prog 307=some false/\fT Tryz.prog 307=some [AV.c (.pointer none)]:=by refine⟨?_,?_,?_⟩<;>kernel_rfl
@[go_sem] theorem cw3:fG Tryz.prog 308=some (307,1):=by kernel_rfl
@[go_sem] theorem cw4:dX Tryz.prog 328=some 1/\oX Tryz.prog 328 zQ=true/\dQ Tryz.prog 328 0=some (0,1,38)/\eT Tryz.prog 328 0=some (0,1)/\nF Tryz.prog 328=true/\fT Tryz.prog 328=some [AV.c (.int .i64 0)]:=by refine⟨?_,?_,?_,?_,?_,?_⟩<;>kernel_rfl
@[go_sem] theorem cw5:dQ Tryz.prog 332 0=some (0,1,74):=by kernel_rfl
@[go_sem] theorem cw6:dQ Tryz.prog 334 0=some (0,1,332)/\dQ Tryz.prog 334 1=some (1,1,3)/\dQ Tryz.prog 334 2=some (2,1,3)/\nF Tryz.prog 334=true/\fT Tryz.prog 334=some [AV.c (.slice none 0 0),AV.c (.int .i64 0),AV.c (.int .i64 0)]:=by refine⟨?_,?_,?_,?_,?_⟩<;>kernel_rfl
@[go_sem] theorem cw7:dX Tryz.prog 362=some 1/\oX Tryz.prog 362 zQ=true/\dQ Tryz.prog 362 0=some (0,1,38)/\eT Tryz.prog 362 0=some (0,1)/\nF Tryz.prog 362=true/\fT Tryz.prog 362=some [AV.c (.int .i64 0)]:=by refine⟨?_,?_,?_,?_,?_,?_⟩<;>kernel_rfl
@[go_sem] theorem cw8:dQ Tryz.prog 376 0=some (0,1,74)/\eT Tryz.prog 376 0=some (0,1)/\nF Tryz.prog 376=true/\fT Tryz.prog 376=some [AV.c (.slice none 0 0)]:=by refine⟨?_,?_,?_,?_⟩<;>kernel_rfl
@[go_sem] theorem cw9:CS Tryz.prog 4=some (AV.c (.bool false)):=by kernel_rfl
@[go_sem] theorem cx0:CS Tryz.prog 22=some (AV.c (.slice none 0 0)):=by kernel_rfl
@[go_sem] theorem cx1:CS Tryz.prog 112=some (AV.c .nilFunc):=by kernel_rfl
@[go_sem] theorem cx2:qQ Tryz.prog 3=some 8:=by kernel_rfl
@[go_sem] theorem cx3:qQ Tryz.prog 4=some 1:=by kernel_rfl
@[go_sem] theorem cx4:qQ Tryz.prog 5=some 1:=by kernel_rfl
@[go_sem] theorem cx5:qQ Tryz.prog 22=some 24:=by kernel_rfl
@[go_sem] theorem cx6:qQ Tryz.prog 64=some 104:=by kernel_rfl
@[go_sem] theorem cx7:qQ Tryz.prog 74=some 24:=by kernel_rfl
@[go_sem] theorem cx8:qQ Tryz.prog 100=some 40:=by kernel_rfl
@[go_sem] theorem cx9:qQ Tryz.prog 111=some 40:=by kernel_rfl
@[go_sem] theorem cy0:qQ Tryz.prog 124=some 8:=by kernel_rfl
@[go_sem] theorem cy1:qQ Tryz.prog 126=some 40:=by kernel_rfl
@[go_sem] theorem cy2:qQ Tryz.prog 176=some 16:=by kernel_rfl
end Go.Proofs.YtioafciifiggaaaGreatDoor
