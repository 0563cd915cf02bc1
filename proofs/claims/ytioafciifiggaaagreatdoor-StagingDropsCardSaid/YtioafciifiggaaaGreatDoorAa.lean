/- Staging: contracts of its functions (Aa). No condition but those named. -/
import Derived.Test.YtioafciifiggaaaGreatDoorProg
import Derived.Test.YtioafciifiggaaaGreatDoorLb
import Derived.KernelRfl
set_option linter.unusedVariables false
set_option linter.unusedSimpArgs false
namespace Go.Proofs.YtioafciifiggaaaGreatDoor
open Go.Proofs Go.AL
@[go_sem] theorem ft3:szT Tryz.prog 3=some 1∧isAggT Tryz.prog 3=some false∧intT Tryz.prog 3=some .i64∧zeroT Tryz.prog 3=some [AV.c (.int .i64 0)]:=by refine⟨?_,?_,?_,?_⟩<;>kernel_rfl
@[go_sem] theorem ft4:szT Tryz.prog 4=some 1∧isAggT Tryz.prog 4=some false∧isT Tryz.prog 4 isBool=true∧zeroT Tryz.prog 4=some [AV.c (.bool false)]:=by refine⟨?_,?_,?_,?_⟩<;>kernel_rfl
@[go_sem] theorem szT5:szT Tryz.prog 5=some 1:=by kernel_rfl
@[go_sem] theorem isAggT5:isAggT Tryz.prog 5=some false:=by kernel_rfl
@[go_sem] theorem ft5:intT Tryz.prog 5=some .u8∧zeroT Tryz.prog 5=some [AV.c (.int .u8 0)]:=by refine⟨?_,?_⟩<;>kernel_rfl
@[go_sem] theorem ft9:isT Tryz.prog 9 isString=true:=by kernel_rfl
@[go_sem] theorem ft20:isT Tryz.prog 20 isAny=true:=by kernel_rfl
@[go_sem] theorem ft22:szT Tryz.prog 22=some 1∧isAggT Tryz.prog 22=some false∧sliceT Tryz.prog 22=some (124,8)∧zeroT Tryz.prog 22=some [AV.c (.slice none 0 0)]:=by refine⟨?_,?_,?_,?_⟩<;>kernel_rfl
@[go_sem] theorem ft23:szT Tryz.prog 23=some 1∧isAggT Tryz.prog 23=some false∧sliceT Tryz.prog 23=some (176,9):=by refine⟨?_,?_,?_⟩<;>kernel_rfl
@[go_sem] theorem ft25:szT Tryz.prog 25=some 2∧isAggT Tryz.prog 25=some true∧fieldT Tryz.prog 25 0=some (0,1,22)∧fieldT Tryz.prog 25 1=some (1,1,23):=by refine⟨?_,?_,?_,?_⟩<;>kernel_rfl
@[go_sem] theorem ft27:szT Tryz.prog 27=some 2∧isAggT Tryz.prog 27=some true∧fieldT Tryz.prog 27 0=some (0,1,3)∧fieldT Tryz.prog 27 1=some (1,1,3)∧placesT Tryz.prog 27 1=some (1,1)∧buildableT Tryz.prog 27=true∧zeroT Tryz.prog 27=some [AV.c (.int .i64 0),AV.c (.int .i64 0)]:=by refine⟨?_,?_,?_,?_,?_,?_,?_⟩<;>kernel_rfl
@[go_sem] theorem ft28:szT Tryz.prog 28=some 1∧isAggT Tryz.prog 28=some false∧sliceT Tryz.prog 28=some (3,1):=by refine⟨?_,?_,?_⟩<;>kernel_rfl
@[go_sem] theorem ft30:szT Tryz.prog 30=some 6∧isAggT Tryz.prog 30=some true∧fieldT Tryz.prog 30 0=some (0,2,27)∧placesT Tryz.prog 30 0=some (0,2)∧fieldT Tryz.prog 30 1=some (2,1,3)∧fieldT Tryz.prog 30 2=some (3,1,3)∧fieldT Tryz.prog 30 3=some (4,1,3)∧placesT Tryz.prog 30 3=some (4,1)∧fieldT Tryz.prog 30 4=some (5,1,28)∧buildableT Tryz.prog 30=true∧zeroT Tryz.prog 30=some [AV.c (.int .i64 0),AV.c (.int .i64 0),AV.c (.int .i64 0),AV.c (.int .i64 0),AV.c (.int .i64 0),AV.c (.slice none 0 0)]:=by refine⟨?_,?_,?_,?_,?_,?_,?_,?_,?_,?_,?_⟩<;>kernel_rfl
@[go_sem] theorem ft31:szT Tryz.prog 31=some 1∧isAggT Tryz.prog 31=some false∧sliceT Tryz.prog 31=some (64,7):=by refine⟨?_,?_,?_⟩<;>kernel_rfl
@[go_sem] theorem ft33:szT Tryz.prog 33=some 7∧isAggT Tryz.prog 33=some true∧fieldT Tryz.prog 33 0=some (0,6,30)∧placesT Tryz.prog 33 0=some (0,6)∧fieldT Tryz.prog 33 1=some (6,1,31)∧placesT Tryz.prog 33 1=some (6,1)∧buildableT Tryz.prog 33=true∧zeroT Tryz.prog 33=some [AV.c (.int .i64 0),AV.c (.int .i64 0),AV.c (.int .i64 0),AV.c (.int .i64 0),AV.c (.int .i64 0),AV.c (.slice none 0 0),AV.c (.slice none 0 0)]:=by refine⟨?_,?_,?_,?_,?_,?_,?_,?_⟩<;>kernel_rfl
@[go_sem] theorem ft37:sliceT Tryz.prog 37=some (100,3):=by kernel_rfl
@[go_sem] theorem ft38:szT Tryz.prog 38=some 1∧isAggT Tryz.prog 38=some false∧zeroT Tryz.prog 38=some [AV.c (.int .i64 0)]:=by refine⟨?_,?_,?_⟩<;>kernel_rfl
@[go_sem] theorem ft61:szT Tryz.prog 61=some 1∧isAggT Tryz.prog 61=some false∧sliceT Tryz.prog 61=some (74,1)∧zeroT Tryz.prog 61=some [AV.c (.slice none 0 0)]:=by refine⟨?_,?_,?_,?_⟩<;>kernel_rfl
@[go_sem] theorem ft62:szT Tryz.prog 62=some 1∧isAggT Tryz.prog 62=some false∧sliceT Tryz.prog 62=some (4,1):=by refine⟨?_,?_,?_⟩<;>kernel_rfl
@[go_sem] theorem ft64:szT Tryz.prog 64=some 7∧isAggT Tryz.prog 64=some true∧fieldT Tryz.prog 64 0=some (0,1,3)∧placesT Tryz.prog 64 0=some (0,1)∧fieldT Tryz.prog 64 1=some (1,1,3)∧placesT Tryz.prog 64 1=some (1,1)∧fieldT Tryz.prog 64 2=some (2,1,3)∧placesT Tryz.prog 64 2=some (2,1)∧fieldT Tryz.prog 64 3=some (3,1,61)∧placesT Tryz.prog 64 3=some (3,1)∧fieldT Tryz.prog 64 4=some (4,1,62)∧placesT Tryz.prog 64 4=some (4,1)∧fieldT Tryz.prog 64 5=some (5,1,28)∧placesT Tryz.prog 64 5=some (5,1)∧fieldT Tryz.prog 64 6=some (6,1,4)∧placesT Tryz.prog 64 6=some (6,1)∧buildableT Tryz.prog 64=true∧zeroT Tryz.prog 64=some [AV.c (.int .i64 0),AV.c (.int .i64 0),AV.c (.int .i64 0),AV.c (.slice none 0 0),AV.c (.slice none 0 0),AV.c (.slice none 0 0),AV.c (.bool false)]:=by refine⟨?_,?_,?_,?_,?_,?_,?_,?_,?_,?_,?_,?_,?_,?_,?_,?_,?_,?_⟩<;>kernel_rfl
@[go_sem] theorem ft74:szT Tryz.prog 74=some 1∧isAggT Tryz.prog 74=some false∧sliceT Tryz.prog 74=some (5,1)∧zeroT Tryz.prog 74=some [AV.c (.slice none 0 0)]:=by refine⟨?_,?_,?_,?_⟩<;>kernel_rfl
@[go_sem] theorem ft77:szT Tryz.prog 77=some 1∧isAggT Tryz.prog 77=some false∧sliceT Tryz.prog 77=some (126,3):=by refine⟨?_,?_,?_⟩<;>kernel_rfl
@[go_sem] theorem ft79:szT Tryz.prog 79=some 5∧isAggT Tryz.prog 79=some true∧fieldT Tryz.prog 79 0=some (0,1,3)∧placesT Tryz.prog 79 0=some (0,1)∧fieldT Tryz.prog 79 1=some (1,1,3)∧placesT Tryz.prog 79 1=some (1,1)∧fieldT Tryz.prog 79 2=some (2,1,3)∧fieldT Tryz.prog 79 3=some (3,1,28)∧fieldT Tryz.prog 79 4=some (4,1,77)∧placesT Tryz.prog 79 4=some (4,1)∧buildableT Tryz.prog 79=true∧zeroT Tryz.prog 79=some [AV.c (.int .i64 0),AV.c (.int .i64 0),AV.c (.int .i64 0),AV.c (.slice none 0 0),AV.c (.slice none 0 0)]:=by refine⟨?_,?_,?_,?_,?_,?_,?_,?_,?_,?_,?_,?_⟩<;>kernel_rfl
@[go_sem] theorem ft88:sliceT Tryz.prog 88=some (64,7):=by kernel_rfl
@[go_sem] theorem ft100:fieldT Tryz.prog 100 0=some (0,1,3)∧placesT Tryz.prog 100 0=some (0,1)∧fieldT Tryz.prog 100 1=some (1,1,3)∧placesT Tryz.prog 100 1=some (1,1)∧fieldT Tryz.prog 100 2=some (2,1,22)∧placesT Tryz.prog 100 2=some (2,1)∧buildableT Tryz.prog 100=true∧zeroT Tryz.prog 100=some [AV.c (.int .i64 0),AV.c (.int .i64 0),AV.c (.slice none 0 0)]:=by refine⟨?_,?_,?_,?_,?_,?_,?_,?_⟩<;>kernel_rfl
@[go_sem] theorem ft111:fieldT Tryz.prog 111 0=some (0,1,3)∧placesT Tryz.prog 111 0=some (0,1)∧fieldT Tryz.prog 111 1=some (1,1,3)∧placesT Tryz.prog 111 1=some (1,1)∧fieldT Tryz.prog 111 2=some (2,1,74)∧placesT Tryz.prog 111 2=some (2,1)∧buildableT Tryz.prog 111=true∧zeroT Tryz.prog 111=some [AV.c (.int .i64 0),AV.c (.int .i64 0),AV.c (.slice none 0 0)]:=by refine⟨?_,?_,?_,?_,?_,?_,?_,?_⟩<;>kernel_rfl
@[go_sem] theorem ft124:szT Tryz.prog 124=some 8∧isAggT Tryz.prog 124=some true∧arrT Tryz.prog 124=some (8,5,1):=by refine⟨?_,?_,?_⟩<;>kernel_rfl
@[go_sem] theorem placesT124:placesT Tryz.prog 124=fun i=>some (i*1,1):=by kernel_rfl
@[go_sem] theorem ft124x2:buildableT Tryz.prog 124=true:=by kernel_rfl
@[go_sem] theorem ft126:szT Tryz.prog 126=some 3∧isAggT Tryz.prog 126=some true∧fieldT Tryz.prog 126 0=some (0,1,3)∧placesT Tryz.prog 126 0=some (0,1)∧fieldT Tryz.prog 126 1=some (1,1,3)∧placesT Tryz.prog 126 1=some (1,1)∧fieldT Tryz.prog 126 2=some (2,1,22)∧placesT Tryz.prog 126 2=some (2,1)∧buildableT Tryz.prog 126=true∧zeroT Tryz.prog 126=some [AV.c (.int .i64 0),AV.c (.int .i64 0),AV.c (.slice none 0 0)]:=by refine⟨?_,?_,?_,?_,?_,?_,?_,?_,?_,?_⟩<;>kernel_rfl
@[go_sem] theorem ft128:mapT Tryz.prog 128=some (3,4,.int .i64):=by kernel_rfl
@[go_sem] theorem ft132:szT Tryz.prog 132=some 2∧isAggT Tryz.prog 132=some true∧fieldT Tryz.prog 132 0=some (0,2,27)∧placesT Tryz.prog 132 0=some (0,2)∧buildableT Tryz.prog 132=true∧zeroT Tryz.prog 132=some [AV.c (.int .i64 0),AV.c (.int .i64 0)]:=by refine⟨?_,?_,?_,?_,?_,?_⟩<;>kernel_rfl
@[go_sem] theorem ft134:szT Tryz.prog 134=some 9∧isAggT Tryz.prog 134=some true∧fieldT Tryz.prog 134 0=some (0,2,132)∧placesT Tryz.prog 134 0=some (0,2)∧fieldT Tryz.prog 134 1=some (2,6,30)∧placesT Tryz.prog 134 1=some (2,6)∧fieldT Tryz.prog 134 2=some (8,1,3)∧placesT Tryz.prog 134 2=some (8,1)∧buildableT Tryz.prog 134=true∧zeroT Tryz.prog 134=some [AV.c (.int .i64 0),AV.c (.int .i64 0),AV.c (.int .i64 0),AV.c (.int .i64 0),AV.c (.int .i64 0),AV.c (.int .i64 0),AV.c (.int .i64 0),AV.c (.slice none 0 0),AV.c (.int .i64 0)]:=by refine⟨?_,?_,?_,?_,?_,?_,?_,?_,?_,?_⟩<;>kernel_rfl
@[go_sem] theorem ft146:szT Tryz.prog 146=some 1∧isAggT Tryz.prog 146=some false∧intT Tryz.prog 146=some .u32:=by refine⟨?_,?_,?_⟩<;>kernel_rfl
@[go_sem] theorem ft149:szT Tryz.prog 149=some 3∧isAggT Tryz.prog 149=some true∧fieldT Tryz.prog 149 0=some (0,1,3)∧placesT Tryz.prog 149 0=some (0,1)∧fieldT Tryz.prog 149 1=some (1,1,3)∧placesT Tryz.prog 149 1=some (1,1)∧fieldT Tryz.prog 149 2=some (2,1,3)∧placesT Tryz.prog 149 2=some (2,1)∧buildableT Tryz.prog 149=true∧zeroT Tryz.prog 149=some [AV.c (.int .i64 0),AV.c (.int .i64 0),AV.c (.int .i64 0)]:=by refine⟨?_,?_,?_,?_,?_,?_,?_,?_,?_,?_⟩<;>kernel_rfl
@[go_sem] theorem ft154:szT Tryz.prog 154=some 4∧isAggT Tryz.prog 154=some true∧fieldT Tryz.prog 154 0=some (0,3,149)∧placesT Tryz.prog 154 0=some (0,3)∧fieldT Tryz.prog 154 1=some (3,1,3)∧placesT Tryz.prog 154 1=some (3,1)∧buildableT Tryz.prog 154=true∧zeroT Tryz.prog 154=some [AV.c (.int .i64 0),AV.c (.int .i64 0),AV.c (.int .i64 0),AV.c (.int .i64 0)]:=by refine⟨?_,?_,?_,?_,?_,?_,?_,?_⟩<;>kernel_rfl
@[go_sem] theorem ft161:szT Tryz.prog 161=some 5∧isAggT Tryz.prog 161=some true∧fieldT Tryz.prog 161 0=some (0,1,3)∧placesT Tryz.prog 161 0=some (0,1)∧fieldT Tryz.prog 161 1=some (1,1,3)∧placesT Tryz.prog 161 1=some (1,1)∧fieldT Tryz.prog 161 2=some (2,1,3)∧placesT Tryz.prog 161 2=some (2,1)∧fieldT Tryz.prog 161 3=some (3,1,61)∧placesT Tryz.prog 161 3=some (3,1)∧fieldT Tryz.prog 161 4=some (4,1,62)∧placesT Tryz.prog 161 4=some (4,1)∧buildableT Tryz.prog 161=true∧zeroT Tryz.prog 161=some [AV.c (.int .i64 0),AV.c (.int .i64 0),AV.c (.int .i64 0),AV.c (.slice none 0 0),AV.c (.slice none 0 0)]:=by refine⟨?_,?_,?_,?_,?_,?_,?_,?_,?_,?_,?_,?_,?_,?_⟩<;>kernel_rfl
@[go_sem] theorem ft176:szT Tryz.prog 176=some 9∧isAggT Tryz.prog 176=some true∧fieldT Tryz.prog 176 0=some (0,1,3)∧fieldT Tryz.prog 176 1=some (1,8,124)∧zeroT Tryz.prog 176=some [AV.c (.int .i64 0),AV.c (.int .u8 0),AV.c (.int .u8 0),AV.c (.int .u8 0),AV.c (.int .u8 0),AV.c (.int .u8 0),AV.c (.int .u8 0),AV.c (.int .u8 0),AV.c (.int .u8 0)]:=by refine⟨?_,?_,?_,?_,?_⟩<;>kernel_rfl
@[go_sem] theorem ft197:fieldT Tryz.prog 197 0=some (0,1,3)∧placesT Tryz.prog 197 0=some (0,1)∧fieldT Tryz.prog 197 1=some (1,1,3)∧placesT Tryz.prog 197 1=some (1,1)∧buildableT Tryz.prog 197=true∧zeroT Tryz.prog 197=some [AV.c (.int .i64 0),AV.c (.int .i64 0)]:=by refine⟨?_,?_,?_,?_,?_,?_⟩<;>kernel_rfl
@[go_sem] theorem ft238:szT Tryz.prog 238=some 1∧isAggT Tryz.prog 238=some false:=by refine⟨?_,?_⟩<;>kernel_rfl
@[go_sem] theorem ft259:fieldT Tryz.prog 259 0=some (0,1,3)∧placesT Tryz.prog 259 0=some (0,1)∧fieldT Tryz.prog 259 1=some (1,1,74)∧placesT Tryz.prog 259 1=some (1,1)∧buildableT Tryz.prog 259=true∧zeroT Tryz.prog 259=some [AV.c (.int .i64 0),AV.c (.slice none 0 0)]:=by refine⟨?_,?_,?_,?_,?_,?_⟩<;>kernel_rfl
@[go_sem] theorem ft261:szT Tryz.prog 261=some 3∧isAggT Tryz.prog 261=some true∧fieldT Tryz.prog 261 0=some (0,2,259)∧placesT Tryz.prog 261 0=some (0,2)∧fieldT Tryz.prog 261 1=some (2,1,22)∧placesT Tryz.prog 261 1=some (2,1)∧buildableT Tryz.prog 261=true∧zeroT Tryz.prog 261=some [AV.c (.int .i64 0),AV.c (.slice none 0 0),AV.c (.slice none 0 0)]:=by refine⟨?_,?_,?_,?_,?_,?_,?_,?_⟩<;>kernel_rfl
@[go_sem] theorem ft262:szT Tryz.prog 262=some 6∧isAggT Tryz.prog 262=some true∧arrT Tryz.prog 262=some (2,261,3):=by refine⟨?_,?_,?_⟩<;>kernel_rfl
@[go_sem] theorem placesT262:placesT Tryz.prog 262=fun i=>some (i*3,3):=by kernel_rfl
@[go_sem] theorem ft262x2:buildableT Tryz.prog 262=true∧zeroT Tryz.prog 262=some [AV.c (.int .i64 0),AV.c (.slice none 0 0),AV.c (.slice none 0 0),AV.c (.int .i64 0),AV.c (.slice none 0 0),AV.c (.slice none 0 0)]:=by refine⟨?_,?_⟩<;>kernel_rfl
@[go_sem] theorem ft286:intT Tryz.prog 286=some .u64:=by kernel_rfl
@[go_sem] theorem ft293:sliceT Tryz.prog 293=some (22,1):=by kernel_rfl
@[go_sem] theorem ft294:szT Tryz.prog 294=some 1∧isAggT Tryz.prog 294=some false∧sliceT Tryz.prog 294=some (22,1)∧zeroT Tryz.prog 294=some [AV.c (.slice none 0 0)]:=by refine⟨?_,?_,?_,?_⟩<;>kernel_rfl
@[go_sem] theorem ft304:szT Tryz.prog 304=some 256∧isAggT Tryz.prog 304=some true∧arrT Tryz.prog 304=some (256,146,1)∧zeroT Tryz.prog 304=some (List.replicate 256 (AV.c (.int .u32 0))):=by refine⟨?_,?_,?_,?_⟩<;>kernel_rfl
@[go_sem] theorem ft307:szT Tryz.prog 307=some 1∧isAggT Tryz.prog 307=some false∧zeroT Tryz.prog 307=some [AV.c (.pointer none)]:=by refine⟨?_,?_,?_⟩<;>kernel_rfl
@[go_sem] theorem ft308:sliceT Tryz.prog 308=some (307,1):=by kernel_rfl
@[go_sem] theorem ft362:szT Tryz.prog 362=some 1∧isT Tryz.prog 362 notIface=true∧fieldT Tryz.prog 362 0=some (0,1,38)∧placesT Tryz.prog 362 0=some (0,1)∧buildableT Tryz.prog 362=true∧zeroT Tryz.prog 362=some [AV.c (.int .i64 0)]:=by refine⟨?_,?_,?_,?_,?_,?_⟩<;>kernel_rfl
@[go_sem] theorem ft376:fieldT Tryz.prog 376 0=some (0,1,74)∧placesT Tryz.prog 376 0=some (0,1)∧buildableT Tryz.prog 376=true∧zeroT Tryz.prog 376=some [AV.c (.slice none 0 0)]:=by refine⟨?_,?_,?_,?_⟩<;>kernel_rfl
@[go_sem] theorem ft4x2:zeroA Tryz.prog 4=some (AV.c (.bool false)):=by kernel_rfl
@[go_sem] theorem ft3x2:bytesT Tryz.prog 3=some 8:=by kernel_rfl
@[go_sem] theorem ft4x3:bytesT Tryz.prog 4=some 1:=by kernel_rfl
@[go_sem] theorem ft5x2:bytesT Tryz.prog 5=some 1:=by kernel_rfl
@[go_sem] theorem ft22x2:bytesT Tryz.prog 22=some 24:=by kernel_rfl
@[go_sem] theorem ft64x2:bytesT Tryz.prog 64=some 104:=by kernel_rfl
@[go_sem] theorem ft74x2:bytesT Tryz.prog 74=some 24:=by kernel_rfl
@[go_sem] theorem ft100x2:bytesT Tryz.prog 100=some 40:=by kernel_rfl
@[go_sem] theorem ft124x3:bytesT Tryz.prog 124=some 8:=by kernel_rfl
@[go_sem] theorem ft126x2:bytesT Tryz.prog 126=some 40:=by kernel_rfl
end Go.Proofs.YtioafciifiggaaaGreatDoor
