/- Staging: contracts of its functions (Aa). No condition but those named. -/
import Derived.Test.YtpeldefimkdkdaaGreatProg
import Derived.Test.YtpeldefimkdkdaaGreatLb
import Derived.KernelRfl
set_option linter.unusedVariables false
set_option linter.unusedSimpArgs false
namespace Go.Proofs.YtpeldefimkdkdaaGreat
open Go.Proofs Go.AL
@[go_sem] theorem ft3:szT Tryz.prog 3=some 1∧isAggT Tryz.prog 3=some false∧intT Tryz.prog 3=some .i64∧zeroT Tryz.prog 3=some [AV.c (.int .i64 0)]:=by refine⟨?_,?_,?_,?_⟩<;>kernel_rfl
@[go_sem] theorem ft4:szT Tryz.prog 4=some 1∧isAggT Tryz.prog 4=some false∧isT Tryz.prog 4 isBool=true∧zeroT Tryz.prog 4=some [AV.c (.bool false)]:=by refine⟨?_,?_,?_,?_⟩<;>kernel_rfl
@[go_sem] theorem szT5:szT Tryz.prog 5=some 1:=by kernel_rfl
@[go_sem] theorem isAggT5:isAggT Tryz.prog 5=some false:=by kernel_rfl
@[go_sem] theorem ft5:intT Tryz.prog 5=some .u8∧zeroT Tryz.prog 5=some [AV.c (.int .u8 0)]:=by refine⟨?_,?_⟩<;>kernel_rfl
@[go_sem] theorem ft9:isT Tryz.prog 9 isString=true:=by kernel_rfl
@[go_sem] theorem ft20:isT Tryz.prog 20 isAny=true:=by kernel_rfl
@[go_sem] theorem ft23:szT Tryz.prog 23=some 2∧isAggT Tryz.prog 23=some true∧fieldT Tryz.prog 23 0=some (0,1,3)∧fieldT Tryz.prog 23 1=some (1,1,3)∧placesT Tryz.prog 23 1=some (1,1)∧buildableT Tryz.prog 23=true∧zeroT Tryz.prog 23=some [AV.c (.int .i64 0),AV.c (.int .i64 0)]:=by refine⟨?_,?_,?_,?_,?_,?_,?_⟩<;>kernel_rfl
@[go_sem] theorem ft24:szT Tryz.prog 24=some 1∧isAggT Tryz.prog 24=some false∧sliceT Tryz.prog 24=some (3,1):=by refine⟨?_,?_,?_⟩<;>kernel_rfl
@[go_sem] theorem ft26:szT Tryz.prog 26=some 6∧isAggT Tryz.prog 26=some true∧fieldT Tryz.prog 26 0=some (0,2,23)∧placesT Tryz.prog 26 0=some (0,2)∧fieldT Tryz.prog 26 1=some (2,1,3)∧fieldT Tryz.prog 26 2=some (3,1,3)∧fieldT Tryz.prog 26 3=some (4,1,3)∧placesT Tryz.prog 26 3=some (4,1)∧fieldT Tryz.prog 26 4=some (5,1,24)∧buildableT Tryz.prog 26=true∧zeroT Tryz.prog 26=some [AV.c (.int .i64 0),AV.c (.int .i64 0),AV.c (.int .i64 0),AV.c (.int .i64 0),AV.c (.int .i64 0),AV.c (.slice none 0 0)]:=by refine⟨?_,?_,?_,?_,?_,?_,?_,?_,?_,?_,?_⟩<;>kernel_rfl
@[go_sem] theorem ft27:szT Tryz.prog 27=some 1∧isAggT Tryz.prog 27=some false∧sliceT Tryz.prog 27=some (73,7):=by refine⟨?_,?_,?_⟩<;>kernel_rfl
@[go_sem] theorem ft29:szT Tryz.prog 29=some 7∧isAggT Tryz.prog 29=some true∧fieldT Tryz.prog 29 0=some (0,6,26)∧placesT Tryz.prog 29 0=some (0,6)∧fieldT Tryz.prog 29 1=some (6,1,27)∧placesT Tryz.prog 29 1=some (6,1)∧buildableT Tryz.prog 29=true∧zeroT Tryz.prog 29=some [AV.c (.int .i64 0),AV.c (.int .i64 0),AV.c (.int .i64 0),AV.c (.int .i64 0),AV.c (.int .i64 0),AV.c (.slice none 0 0),AV.c (.slice none 0 0)]:=by refine⟨?_,?_,?_,?_,?_,?_,?_,?_⟩<;>kernel_rfl
@[go_sem] theorem ft32:szT Tryz.prog 32=some 1∧isAggT Tryz.prog 32=some false∧sliceT Tryz.prog 32=some (134,3):=by refine⟨?_,?_,?_⟩<;>kernel_rfl
@[go_sem] theorem ft34:szT Tryz.prog 34=some 5∧isAggT Tryz.prog 34=some true∧fieldT Tryz.prog 34 0=some (0,1,3)∧placesT Tryz.prog 34 0=some (0,1)∧fieldT Tryz.prog 34 1=some (1,1,3)∧placesT Tryz.prog 34 1=some (1,1)∧fieldT Tryz.prog 34 2=some (2,1,3)∧fieldT Tryz.prog 34 3=some (3,1,24)∧fieldT Tryz.prog 34 4=some (4,1,32)∧placesT Tryz.prog 34 4=some (4,1)∧buildableT Tryz.prog 34=true∧zeroT Tryz.prog 34=some [AV.c (.int .i64 0),AV.c (.int .i64 0),AV.c (.int .i64 0),AV.c (.slice none 0 0),AV.c (.slice none 0 0)]:=by refine⟨?_,?_,?_,?_,?_,?_,?_,?_,?_,?_,?_,?_⟩<;>kernel_rfl
@[go_sem] theorem ft35:szT Tryz.prog 35=some 1∧isAggT Tryz.prog 35=some false∧zeroT Tryz.prog 35=some [AV.c (.int .i64 0)]:=by refine⟨?_,?_,?_⟩<;>kernel_rfl
@[go_sem] theorem ft46:szT Tryz.prog 46=some 1∧isAggT Tryz.prog 46=some false∧sliceT Tryz.prog 46=some (5,1)∧zeroT Tryz.prog 46=some [AV.c (.slice none 0 0)]:=by refine⟨?_,?_,?_,?_⟩<;>kernel_rfl
@[go_sem] theorem ft47:sliceT Tryz.prog 47=some (114,3):=by kernel_rfl
@[go_sem] theorem ft58:szT Tryz.prog 58=some 1∧isAggT Tryz.prog 58=some false∧sliceT Tryz.prog 58=some (46,1)∧zeroT Tryz.prog 58=some [AV.c (.slice none 0 0)]:=by refine⟨?_,?_,?_,?_⟩<;>kernel_rfl
@[go_sem] theorem ft63:szT Tryz.prog 63=some 1∧isAggT Tryz.prog 63=some false∧sliceT Tryz.prog 63=some (4,1):=by refine⟨?_,?_,?_⟩<;>kernel_rfl
@[go_sem] theorem ft68:szT Tryz.prog 68=some 5∧isAggT Tryz.prog 68=some true∧fieldT Tryz.prog 68 0=some (0,1,3)∧placesT Tryz.prog 68 0=some (0,1)∧fieldT Tryz.prog 68 1=some (1,1,3)∧placesT Tryz.prog 68 1=some (1,1)∧fieldT Tryz.prog 68 2=some (2,1,3)∧placesT Tryz.prog 68 2=some (2,1)∧fieldT Tryz.prog 68 3=some (3,1,3)∧placesT Tryz.prog 68 3=some (3,1)∧fieldT Tryz.prog 68 4=some (4,1,46)∧placesT Tryz.prog 68 4=some (4,1)∧buildableT Tryz.prog 68=true∧zeroT Tryz.prog 68=some [AV.c (.int .i64 0),AV.c (.int .i64 0),AV.c (.int .i64 0),AV.c (.int .i64 0),AV.c (.slice none 0 0)]:=by refine⟨?_,?_,?_,?_,?_,?_,?_,?_,?_,?_,?_,?_,?_,?_⟩<;>kernel_rfl
@[go_sem] theorem ft73:szT Tryz.prog 73=some 7∧isAggT Tryz.prog 73=some true∧fieldT Tryz.prog 73 0=some (0,1,3)∧placesT Tryz.prog 73 0=some (0,1)∧fieldT Tryz.prog 73 1=some (1,1,3)∧placesT Tryz.prog 73 1=some (1,1)∧fieldT Tryz.prog 73 2=some (2,1,3)∧placesT Tryz.prog 73 2=some (2,1)∧fieldT Tryz.prog 73 3=some (3,1,58)∧placesT Tryz.prog 73 3=some (3,1)∧fieldT Tryz.prog 73 4=some (4,1,63)∧placesT Tryz.prog 73 4=some (4,1)∧fieldT Tryz.prog 73 5=some (5,1,24)∧placesT Tryz.prog 73 5=some (5,1)∧fieldT Tryz.prog 73 6=some (6,1,4)∧placesT Tryz.prog 73 6=some (6,1)∧buildableT Tryz.prog 73=true∧zeroT Tryz.prog 73=some [AV.c (.int .i64 0),AV.c (.int .i64 0),AV.c (.int .i64 0),AV.c (.slice none 0 0),AV.c (.slice none 0 0),AV.c (.slice none 0 0),AV.c (.bool false)]:=by refine⟨?_,?_,?_,?_,?_,?_,?_,?_,?_,?_,?_,?_,?_,?_,?_,?_,?_,?_⟩<;>kernel_rfl
@[go_sem] theorem ft75:sliceT Tryz.prog 75=some (73,7):=by kernel_rfl
@[go_sem] theorem ft79:szT Tryz.prog 79=some 5∧isAggT Tryz.prog 79=some true∧fieldT Tryz.prog 79 0=some (0,1,3)∧placesT Tryz.prog 79 0=some (0,1)∧fieldT Tryz.prog 79 1=some (1,1,3)∧placesT Tryz.prog 79 1=some (1,1)∧fieldT Tryz.prog 79 2=some (2,1,3)∧placesT Tryz.prog 79 2=some (2,1)∧fieldT Tryz.prog 79 3=some (3,1,58)∧placesT Tryz.prog 79 3=some (3,1)∧fieldT Tryz.prog 79 4=some (4,1,63)∧placesT Tryz.prog 79 4=some (4,1)∧buildableT Tryz.prog 79=true∧zeroT Tryz.prog 79=some [AV.c (.int .i64 0),AV.c (.int .i64 0),AV.c (.int .i64 0),AV.c (.slice none 0 0),AV.c (.slice none 0 0)]:=by refine⟨?_,?_,?_,?_,?_,?_,?_,?_,?_,?_,?_,?_,?_,?_⟩<;>kernel_rfl
@[go_sem] theorem ft84:mapT Tryz.prog 84=some (3,4,.int .i64):=by kernel_rfl
@[go_sem] theorem ft112:szT Tryz.prog 112=some 1∧isAggT Tryz.prog 112=some false∧sliceT Tryz.prog 112=some (132,8)∧zeroT Tryz.prog 112=some [AV.c (.slice none 0 0)]:=by refine⟨?_,?_,?_,?_⟩<;>kernel_rfl
@[go_sem] theorem ft114:fieldT Tryz.prog 114 0=some (0,1,3)∧placesT Tryz.prog 114 0=some (0,1)∧fieldT Tryz.prog 114 1=some (1,1,3)∧placesT Tryz.prog 114 1=some (1,1)∧fieldT Tryz.prog 114 2=some (2,1,112)∧placesT Tryz.prog 114 2=some (2,1)∧buildableT Tryz.prog 114=true∧zeroT Tryz.prog 114=some [AV.c (.int .i64 0),AV.c (.int .i64 0),AV.c (.slice none 0 0)]:=by refine⟨?_,?_,?_,?_,?_,?_,?_,?_⟩<;>kernel_rfl
@[go_sem] theorem ft119:szT Tryz.prog 119=some 1∧isAggT Tryz.prog 119=some false∧intT Tryz.prog 119=some .u32:=by refine⟨?_,?_,?_⟩<;>kernel_rfl
@[go_sem] theorem ft122:szT Tryz.prog 122=some 3∧isAggT Tryz.prog 122=some true∧fieldT Tryz.prog 122 0=some (0,1,3)∧placesT Tryz.prog 122 0=some (0,1)∧fieldT Tryz.prog 122 1=some (1,1,3)∧placesT Tryz.prog 122 1=some (1,1)∧fieldT Tryz.prog 122 2=some (2,1,3)∧placesT Tryz.prog 122 2=some (2,1)∧buildableT Tryz.prog 122=true∧zeroT Tryz.prog 122=some [AV.c (.int .i64 0),AV.c (.int .i64 0),AV.c (.int .i64 0)]:=by refine⟨?_,?_,?_,?_,?_,?_,?_,?_,?_,?_⟩<;>kernel_rfl
@[go_sem] theorem ft127:szT Tryz.prog 127=some 4∧isAggT Tryz.prog 127=some true∧fieldT Tryz.prog 127 0=some (0,3,122)∧placesT Tryz.prog 127 0=some (0,3)∧fieldT Tryz.prog 127 1=some (3,1,3)∧placesT Tryz.prog 127 1=some (3,1)∧buildableT Tryz.prog 127=true∧zeroT Tryz.prog 127=some [AV.c (.int .i64 0),AV.c (.int .i64 0),AV.c (.int .i64 0),AV.c (.int .i64 0)]:=by refine⟨?_,?_,?_,?_,?_,?_,?_,?_⟩<;>kernel_rfl
@[go_sem] theorem ft132:szT Tryz.prog 132=some 8∧isAggT Tryz.prog 132=some true∧arrT Tryz.prog 132=some (8,5,1):=by refine⟨?_,?_,?_⟩<;>kernel_rfl
@[go_sem] theorem placesT132:placesT Tryz.prog 132=fun i=>some (i*1,1):=by kernel_rfl
@[go_sem] theorem ft132x2:buildableT Tryz.prog 132=true:=by kernel_rfl
@[go_sem] theorem ft134:szT Tryz.prog 134=some 3∧isAggT Tryz.prog 134=some true∧fieldT Tryz.prog 134 0=some (0,1,3)∧placesT Tryz.prog 134 0=some (0,1)∧fieldT Tryz.prog 134 1=some (1,1,3)∧placesT Tryz.prog 134 1=some (1,1)∧fieldT Tryz.prog 134 2=some (2,1,112)∧placesT Tryz.prog 134 2=some (2,1)∧buildableT Tryz.prog 134=true∧zeroT Tryz.prog 134=some [AV.c (.int .i64 0),AV.c (.int .i64 0),AV.c (.slice none 0 0)]:=by refine⟨?_,?_,?_,?_,?_,?_,?_,?_,?_,?_⟩<;>kernel_rfl
@[go_sem] theorem ft136:arrT Tryz.prog 136=some (4,3,1)∧zeroT Tryz.prog 136=some [AV.c (.int .i64 0),AV.c (.int .i64 0),AV.c (.int .i64 0),AV.c (.int .i64 0)]:=by refine⟨?_,?_⟩<;>kernel_rfl
@[go_sem] theorem ft148:szT Tryz.prog 148=some 2∧isAggT Tryz.prog 148=some true∧fieldT Tryz.prog 148 0=some (0,2,23)∧placesT Tryz.prog 148 0=some (0,2)∧buildableT Tryz.prog 148=true∧zeroT Tryz.prog 148=some [AV.c (.int .i64 0),AV.c (.int .i64 0)]:=by refine⟨?_,?_,?_,?_,?_,?_⟩<;>kernel_rfl
@[go_sem] theorem ft150:szT Tryz.prog 150=some 9∧isAggT Tryz.prog 150=some true∧fieldT Tryz.prog 150 0=some (0,2,148)∧placesT Tryz.prog 150 0=some (0,2)∧fieldT Tryz.prog 150 1=some (2,6,26)∧placesT Tryz.prog 150 1=some (2,6)∧fieldT Tryz.prog 150 2=some (8,1,3)∧placesT Tryz.prog 150 2=some (8,1)∧buildableT Tryz.prog 150=true∧zeroT Tryz.prog 150=some [AV.c (.int .i64 0),AV.c (.int .i64 0),AV.c (.int .i64 0),AV.c (.int .i64 0),AV.c (.int .i64 0),AV.c (.int .i64 0),AV.c (.int .i64 0),AV.c (.slice none 0 0),AV.c (.int .i64 0)]:=by refine⟨?_,?_,?_,?_,?_,?_,?_,?_,?_,?_⟩<;>kernel_rfl
@[go_sem] theorem ft173:fieldT Tryz.prog 173 0=some (0,1,3)∧placesT Tryz.prog 173 0=some (0,1)∧fieldT Tryz.prog 173 1=some (1,1,3)∧placesT Tryz.prog 173 1=some (1,1)∧fieldT Tryz.prog 173 2=some (2,1,46)∧placesT Tryz.prog 173 2=some (2,1)∧buildableT Tryz.prog 173=true∧zeroT Tryz.prog 173=some [AV.c (.int .i64 0),AV.c (.int .i64 0),AV.c (.slice none 0 0)]:=by refine⟨?_,?_,?_,?_,?_,?_,?_,?_⟩<;>kernel_rfl
@[go_sem] theorem ft179:szT Tryz.prog 179=some 1∧isAggT Tryz.prog 179=some false:=by refine⟨?_,?_⟩<;>kernel_rfl
@[go_sem] theorem ft189:intT Tryz.prog 189=some .u64:=by kernel_rfl
@[go_sem] theorem ft193:szT Tryz.prog 193=some 1∧isAggT Tryz.prog 193=some false∧zeroT Tryz.prog 193=some [AV.c (.pointer none)]:=by refine⟨?_,?_,?_⟩<;>kernel_rfl
@[go_sem] theorem ft194:sliceT Tryz.prog 194=some (193,1):=by kernel_rfl
@[go_sem] theorem ft213:sliceT Tryz.prog 213=some (112,1):=by kernel_rfl
@[go_sem] theorem ft214:szT Tryz.prog 214=some 1∧isAggT Tryz.prog 214=some false∧sliceT Tryz.prog 214=some (112,1)∧zeroT Tryz.prog 214=some [AV.c (.slice none 0 0)]:=by refine⟨?_,?_,?_,?_⟩<;>kernel_rfl
@[go_sem] theorem ft224:szT Tryz.prog 224=some 256∧isAggT Tryz.prog 224=some true∧arrT Tryz.prog 224=some (256,119,1)∧zeroT Tryz.prog 224=some (List.replicate 256 (AV.c (.int .u32 0))):=by refine⟨?_,?_,?_,?_⟩<;>kernel_rfl
@[go_sem] theorem ft228:placesT Tryz.prog 228 0=some (0,1)∧placesT Tryz.prog 228 1=some (1,1)∧buildableT Tryz.prog 228=true∧zeroT Tryz.prog 228=some [AV.c (.int .i64 0),AV.c (.slice none 0 0)]:=by refine⟨?_,?_,?_,?_⟩<;>kernel_rfl
@[go_sem] theorem ft230:szT Tryz.prog 230=some 3∧isAggT Tryz.prog 230=some true∧placesT Tryz.prog 230 0=some (0,2)∧fieldT Tryz.prog 230 1=some (2,1,112)∧buildableT Tryz.prog 230=true∧zeroT Tryz.prog 230=some [AV.c (.int .i64 0),AV.c (.slice none 0 0),AV.c (.slice none 0 0)]:=by refine⟨?_,?_,?_,?_,?_,?_⟩<;>kernel_rfl
@[go_sem] theorem ft233:szT Tryz.prog 233=some 1∧isT Tryz.prog 233 notIface=true∧fieldT Tryz.prog 233 0=some (0,1,35)∧placesT Tryz.prog 233 0=some (0,1)∧buildableT Tryz.prog 233=true∧zeroT Tryz.prog 233=some [AV.c (.int .i64 0)]:=by refine⟨?_,?_,?_,?_,?_,?_⟩<;>kernel_rfl
@[go_sem] theorem ft267:fieldT Tryz.prog 267 0=some (0,1,46)∧placesT Tryz.prog 267 0=some (0,1)∧buildableT Tryz.prog 267=true∧zeroT Tryz.prog 267=some [AV.c (.slice none 0 0)]:=by refine⟨?_,?_,?_,?_⟩<;>kernel_rfl
@[go_sem] theorem ft4x2:zeroA Tryz.prog 4=some (AV.c (.bool false)):=by kernel_rfl
@[go_sem] theorem ft3x2:bytesT Tryz.prog 3=some 8:=by kernel_rfl
@[go_sem] theorem ft4x3:bytesT Tryz.prog 4=some 1:=by kernel_rfl
@[go_sem] theorem ft5x2:bytesT Tryz.prog 5=some 1:=by kernel_rfl
@[go_sem] theorem ft46x2:bytesT Tryz.prog 46=some 24:=by kernel_rfl
@[go_sem] theorem ft73x2:bytesT Tryz.prog 73=some 104:=by kernel_rfl
@[go_sem] theorem ft112x2:bytesT Tryz.prog 112=some 24:=by kernel_rfl
@[go_sem] theorem ft114x2:bytesT Tryz.prog 114=some 40:=by kernel_rfl
@[go_sem] theorem ft132x3:bytesT Tryz.prog 132=some 8:=by kernel_rfl
@[go_sem] theorem ft134x2:bytesT Tryz.prog 134=some 40:=by kernel_rfl
end Go.Proofs.YtpeldefimkdkdaaGreat
