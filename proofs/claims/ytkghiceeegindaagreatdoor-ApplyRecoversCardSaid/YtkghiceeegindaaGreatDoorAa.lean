/- Apply: contracts of its functions (Aa). No condition but those named. -/
import Derived.Test.YtkghiceeegindaaGreatDoorProg
import Derived.Test.YtkghiceeegindaaGreatDoorLb
import Derived.KernelRfl
namespace Go.Proofs.YtkghiceeegindaaGreatDoor
open Go.Proofs Go.AL
@[go_sem] theorem szT1 : szT Tryz.prog 1 = some 1 := by kernel_rfl
@[go_sem] theorem isAggT1 : isAggT Tryz.prog 1 = some false := by kernel_rfl
@[go_sem] theorem szT2 : szT Tryz.prog 2 = some 1 := by kernel_rfl
@[go_sem] theorem isAggT2 : isAggT Tryz.prog 2 = some false := by kernel_rfl
@[go_sem] theorem intT2 : intT Tryz.prog 2 = some .i64 := by kernel_rfl
@[go_sem] theorem zeroT2 : zeroT Tryz.prog 2 = some [AV.c (.int .i64 0)] := by kernel_rfl
@[go_sem] theorem szT3 : szT Tryz.prog 3 = some 1 := by kernel_rfl
@[go_sem] theorem isAggT3 : isAggT Tryz.prog 3 = some false := by kernel_rfl
@[go_sem] theorem intT3 : intT Tryz.prog 3 = some .i64 := by kernel_rfl
@[go_sem] theorem zeroT3 : zeroT Tryz.prog 3 = some [AV.c (.int .i64 0)] := by kernel_rfl
@[go_sem] theorem szT4 : szT Tryz.prog 4 = some 1 := by kernel_rfl
@[go_sem] theorem isAggT4 : isAggT Tryz.prog 4 = some false := by kernel_rfl
@[go_sem] theorem isT4s : isT Tryz.prog 4 isString = false := by kernel_rfl
@[go_sem] theorem isT4b : isT Tryz.prog 4 isBool = true := by kernel_rfl
@[go_sem] theorem zeroT4 : zeroT Tryz.prog 4 = some [AV.c (.bool false)] := by kernel_rfl
@[go_sem] theorem szT5 : szT Tryz.prog 5 = some 1 := by kernel_rfl
@[go_sem] theorem isAggT5 : isAggT Tryz.prog 5 = some false := by kernel_rfl
@[go_sem] theorem intT5 : intT Tryz.prog 5 = some .u8 := by kernel_rfl
@[go_sem] theorem zeroT5 : zeroT Tryz.prog 5 = some [AV.c (.int .u8 0)] := by kernel_rfl
@[go_sem] theorem szT9 : szT Tryz.prog 9 = some 1 := by kernel_rfl
@[go_sem] theorem isAggT9 : isAggT Tryz.prog 9 = some false := by kernel_rfl
@[go_sem] theorem isT9s : isT Tryz.prog 9 isString = true := by kernel_rfl
@[go_sem] theorem isT9b : isT Tryz.prog 9 isBool = false := by kernel_rfl
@[go_sem] theorem zeroT9 : zeroT Tryz.prog 9 = some [AV.c (.string ByteArray.empty)] := by kernel_rfl
@[go_sem] theorem szT22 : szT Tryz.prog 22 = some 1 := by kernel_rfl
@[go_sem] theorem isAggT22 : isAggT Tryz.prog 22 = some false := by kernel_rfl
@[go_sem] theorem sliceT22 : sliceT Tryz.prog 22 = some (96, 8) := by kernel_rfl
@[go_sem] theorem zeroT22 : zeroT Tryz.prog 22 = some [AV.c (.slice none 0 0)] := by kernel_rfl
@[go_sem] theorem szT23 : szT Tryz.prog 23 = some 1 := by kernel_rfl
@[go_sem] theorem isAggT23 : isAggT Tryz.prog 23 = some false := by kernel_rfl
@[go_sem] theorem sliceT23 : sliceT Tryz.prog 23 = some (193, 9) := by kernel_rfl
@[go_sem] theorem zeroT23 : zeroT Tryz.prog 23 = some [AV.c (.slice none 0 0)] := by kernel_rfl
@[go_sem] theorem szT24 : szT Tryz.prog 24 = some 2 := by kernel_rfl
@[go_sem] theorem isAggT24 : isAggT Tryz.prog 24 = some true := by kernel_rfl
@[go_sem] theorem fieldT24x0 : fieldT Tryz.prog 24 0 = some (0, 1, 22) := by kernel_rfl
@[go_sem] theorem placesT24x0 : placesT Tryz.prog 24 0 = some (0, 1) := by kernel_rfl
@[go_sem] theorem fieldT24x1 : fieldT Tryz.prog 24 1 = some (1, 1, 23) := by kernel_rfl
@[go_sem] theorem placesT24x1 : placesT Tryz.prog 24 1 = some (1, 1) := by kernel_rfl
@[go_sem] theorem buildableT24 : buildableT Tryz.prog 24 = true := by kernel_rfl
@[go_sem] theorem zeroT24 : zeroT Tryz.prog 24 = some [AV.c (.slice none 0 0), AV.c (.slice none 0 0)] := by kernel_rfl
@[go_sem] theorem szT25 : szT Tryz.prog 25 = some 2 := by kernel_rfl
@[go_sem] theorem isAggT25 : isAggT Tryz.prog 25 = some true := by kernel_rfl
@[go_sem] theorem fieldT25x0 : fieldT Tryz.prog 25 0 = some (0, 1, 22) := by kernel_rfl
@[go_sem] theorem placesT25x0 : placesT Tryz.prog 25 0 = some (0, 1) := by kernel_rfl
@[go_sem] theorem fieldT25x1 : fieldT Tryz.prog 25 1 = some (1, 1, 23) := by kernel_rfl
@[go_sem] theorem placesT25x1 : placesT Tryz.prog 25 1 = some (1, 1) := by kernel_rfl
@[go_sem] theorem buildableT25 : buildableT Tryz.prog 25 = true := by kernel_rfl
@[go_sem] theorem zeroT25 : zeroT Tryz.prog 25 = some [AV.c (.slice none 0 0), AV.c (.slice none 0 0)] := by kernel_rfl
@[go_sem] theorem szT26 : szT Tryz.prog 26 = some 1 := by kernel_rfl
@[go_sem] theorem isAggT26 : isAggT Tryz.prog 26 = some false := by kernel_rfl
@[go_sem] theorem sliceT26 : sliceT Tryz.prog 26 = some (3, 1) := by kernel_rfl
@[go_sem] theorem zeroT26 : zeroT Tryz.prog 26 = some [AV.c (.slice none 0 0)] := by kernel_rfl
@[go_sem] theorem szT27 : szT Tryz.prog 27 = some 4 := by kernel_rfl
@[go_sem] theorem isAggT27 : isAggT Tryz.prog 27 = some true := by kernel_rfl
@[go_sem] theorem fieldT27x0 : fieldT Tryz.prog 27 0 = some (0, 1, 26) := by kernel_rfl
@[go_sem] theorem placesT27x0 : placesT Tryz.prog 27 0 = some (0, 1) := by kernel_rfl
@[go_sem] theorem fieldT27x1 : fieldT Tryz.prog 27 1 = some (1, 1, 3) := by kernel_rfl
@[go_sem] theorem placesT27x1 : placesT Tryz.prog 27 1 = some (1, 1) := by kernel_rfl
@[go_sem] theorem fieldT27x2 : fieldT Tryz.prog 27 2 = some (2, 1, 3) := by kernel_rfl
@[go_sem] theorem placesT27x2 : placesT Tryz.prog 27 2 = some (2, 1) := by kernel_rfl
@[go_sem] theorem fieldT27x3 : fieldT Tryz.prog 27 3 = some (3, 1, 3) := by kernel_rfl
@[go_sem] theorem placesT27x3 : placesT Tryz.prog 27 3 = some (3, 1) := by kernel_rfl
@[go_sem] theorem buildableT27 : buildableT Tryz.prog 27 = true := by kernel_rfl
@[go_sem] theorem zeroT27 : zeroT Tryz.prog 27 = some [AV.c (.slice none 0 0), AV.c (.int .i64 0), AV.c (.int .i64 0), AV.c (.int .i64 0)] := by kernel_rfl
@[go_sem] theorem szT28 : szT Tryz.prog 28 = some 4 := by kernel_rfl
@[go_sem] theorem isAggT28 : isAggT Tryz.prog 28 = some true := by kernel_rfl
@[go_sem] theorem fieldT28x0 : fieldT Tryz.prog 28 0 = some (0, 1, 26) := by kernel_rfl
@[go_sem] theorem placesT28x0 : placesT Tryz.prog 28 0 = some (0, 1) := by kernel_rfl
@[go_sem] theorem fieldT28x1 : fieldT Tryz.prog 28 1 = some (1, 1, 3) := by kernel_rfl
@[go_sem] theorem placesT28x1 : placesT Tryz.prog 28 1 = some (1, 1) := by kernel_rfl
@[go_sem] theorem fieldT28x2 : fieldT Tryz.prog 28 2 = some (2, 1, 3) := by kernel_rfl
@[go_sem] theorem placesT28x2 : placesT Tryz.prog 28 2 = some (2, 1) := by kernel_rfl
@[go_sem] theorem fieldT28x3 : fieldT Tryz.prog 28 3 = some (3, 1, 3) := by kernel_rfl
@[go_sem] theorem placesT28x3 : placesT Tryz.prog 28 3 = some (3, 1) := by kernel_rfl
@[go_sem] theorem buildableT28 : buildableT Tryz.prog 28 = true := by kernel_rfl
@[go_sem] theorem zeroT28 : zeroT Tryz.prog 28 = some [AV.c (.slice none 0 0), AV.c (.int .i64 0), AV.c (.int .i64 0), AV.c (.int .i64 0)] := by kernel_rfl
@[go_sem] theorem szT29 : szT Tryz.prog 29 = some 1 := by kernel_rfl
@[go_sem] theorem isAggT29 : isAggT Tryz.prog 29 = some false := by kernel_rfl
@[go_sem] theorem szT30 : szT Tryz.prog 30 = some 6 := by kernel_rfl
@[go_sem] theorem isAggT30 : isAggT Tryz.prog 30 = some true := by kernel_rfl
@[go_sem] theorem fieldT30x0 : fieldT Tryz.prog 30 0 = some (0, 1, 26) := by kernel_rfl
@[go_sem] theorem placesT30x0 : placesT Tryz.prog 30 0 = some (0, 1) := by kernel_rfl
@[go_sem] theorem fieldT30x1 : fieldT Tryz.prog 30 1 = some (1, 1, 3) := by kernel_rfl
@[go_sem] theorem placesT30x1 : placesT Tryz.prog 30 1 = some (1, 1) := by kernel_rfl
@[go_sem] theorem fieldT30x2 : fieldT Tryz.prog 30 2 = some (2, 1, 3) := by kernel_rfl
@[go_sem] theorem placesT30x2 : placesT Tryz.prog 30 2 = some (2, 1) := by kernel_rfl
@[go_sem] theorem fieldT30x3 : fieldT Tryz.prog 30 3 = some (3, 1, 3) := by kernel_rfl
@[go_sem] theorem placesT30x3 : placesT Tryz.prog 30 3 = some (3, 1) := by kernel_rfl
@[go_sem] theorem fieldT30x4 : fieldT Tryz.prog 30 4 = some (4, 1, 3) := by kernel_rfl
@[go_sem] theorem placesT30x4 : placesT Tryz.prog 30 4 = some (4, 1) := by kernel_rfl
@[go_sem] theorem fieldT30x5 : fieldT Tryz.prog 30 5 = some (5, 1, 3) := by kernel_rfl
@[go_sem] theorem placesT30x5 : placesT Tryz.prog 30 5 = some (5, 1) := by kernel_rfl
@[go_sem] theorem buildableT30 : buildableT Tryz.prog 30 = true := by kernel_rfl
@[go_sem] theorem zeroT30 : zeroT Tryz.prog 30 = some [AV.c (.slice none 0 0), AV.c (.int .i64 0), AV.c (.int .i64 0), AV.c (.int .i64 0), AV.c (.int .i64 0), AV.c (.int .i64 0)] := by kernel_rfl
@[go_sem] theorem szT31 : szT Tryz.prog 31 = some 6 := by kernel_rfl
@[go_sem] theorem isAggT31 : isAggT Tryz.prog 31 = some true := by kernel_rfl
@[go_sem] theorem fieldT31x0 : fieldT Tryz.prog 31 0 = some (0, 1, 26) := by kernel_rfl
@[go_sem] theorem placesT31x0 : placesT Tryz.prog 31 0 = some (0, 1) := by kernel_rfl
@[go_sem] theorem fieldT31x1 : fieldT Tryz.prog 31 1 = some (1, 1, 3) := by kernel_rfl
@[go_sem] theorem placesT31x1 : placesT Tryz.prog 31 1 = some (1, 1) := by kernel_rfl
@[go_sem] theorem fieldT31x2 : fieldT Tryz.prog 31 2 = some (2, 1, 3) := by kernel_rfl
@[go_sem] theorem placesT31x2 : placesT Tryz.prog 31 2 = some (2, 1) := by kernel_rfl
@[go_sem] theorem fieldT31x3 : fieldT Tryz.prog 31 3 = some (3, 1, 3) := by kernel_rfl
@[go_sem] theorem placesT31x3 : placesT Tryz.prog 31 3 = some (3, 1) := by kernel_rfl
@[go_sem] theorem fieldT31x4 : fieldT Tryz.prog 31 4 = some (4, 1, 3) := by kernel_rfl
@[go_sem] theorem placesT31x4 : placesT Tryz.prog 31 4 = some (4, 1) := by kernel_rfl
@[go_sem] theorem fieldT31x5 : fieldT Tryz.prog 31 5 = some (5, 1, 3) := by kernel_rfl
@[go_sem] theorem placesT31x5 : placesT Tryz.prog 31 5 = some (5, 1) := by kernel_rfl
@[go_sem] theorem buildableT31 : buildableT Tryz.prog 31 = true := by kernel_rfl
@[go_sem] theorem zeroT31 : zeroT Tryz.prog 31 = some [AV.c (.slice none 0 0), AV.c (.int .i64 0), AV.c (.int .i64 0), AV.c (.int .i64 0), AV.c (.int .i64 0), AV.c (.int .i64 0)] := by kernel_rfl
@[go_sem] theorem szT32 : szT Tryz.prog 32 = some 1 := by kernel_rfl
@[go_sem] theorem isAggT32 : isAggT Tryz.prog 32 = some false := by kernel_rfl
@[go_sem] theorem szT33 : szT Tryz.prog 33 = some 1 := by kernel_rfl
@[go_sem] theorem isAggT33 : isAggT Tryz.prog 33 = some false := by kernel_rfl
@[go_sem] theorem sliceT33 : sliceT Tryz.prog 33 = some (94, 3) := by kernel_rfl
@[go_sem] theorem zeroT33 : zeroT Tryz.prog 33 = some [AV.c (.slice none 0 0)] := by kernel_rfl
@[go_sem] theorem szT34 : szT Tryz.prog 34 = some 1 := by kernel_rfl
@[go_sem] theorem isAggT34 : isAggT Tryz.prog 34 = some false := by kernel_rfl
@[go_sem] theorem intT34 : intT Tryz.prog 34 = some .i64 := by kernel_rfl
@[go_sem] theorem zeroT34 : zeroT Tryz.prog 34 = some [AV.c (.int .i64 0)] := by kernel_rfl
@[go_sem] theorem szT36 : szT Tryz.prog 36 = some 1 := by kernel_rfl
@[go_sem] theorem isAggT36 : isAggT Tryz.prog 36 = some false := by kernel_rfl
@[go_sem] theorem szT38 : szT Tryz.prog 38 = some 1 := by kernel_rfl
@[go_sem] theorem isAggT38 : isAggT Tryz.prog 38 = some false := by kernel_rfl
@[go_sem] theorem szT40 : szT Tryz.prog 40 = some 1 := by kernel_rfl
@[go_sem] theorem isAggT40 : isAggT Tryz.prog 40 = some false := by kernel_rfl
@[go_sem] theorem szT42 : szT Tryz.prog 42 = some 1 := by kernel_rfl
@[go_sem] theorem isAggT42 : isAggT Tryz.prog 42 = some false := by kernel_rfl
@[go_sem] theorem szT43 : szT Tryz.prog 43 = some 1 := by kernel_rfl
@[go_sem] theorem isAggT43 : isAggT Tryz.prog 43 = some false := by kernel_rfl
@[go_sem] theorem szT44 : szT Tryz.prog 44 = some 1 := by kernel_rfl
@[go_sem] theorem isAggT44 : isAggT Tryz.prog 44 = some false := by kernel_rfl
@[go_sem] theorem szT45 : szT Tryz.prog 45 = some 1 := by kernel_rfl
@[go_sem] theorem isAggT45 : isAggT Tryz.prog 45 = some false := by kernel_rfl
@[go_sem] theorem szT46 : szT Tryz.prog 46 = some 1 := by kernel_rfl
@[go_sem] theorem isAggT46 : isAggT Tryz.prog 46 = some false := by kernel_rfl
@[go_sem] theorem sliceT46 : sliceT Tryz.prog 46 = some (98, 3) := by kernel_rfl
@[go_sem] theorem zeroT46 : zeroT Tryz.prog 46 = some [AV.c (.slice none 0 0)] := by kernel_rfl
@[go_sem] theorem szT47 : szT Tryz.prog 47 = some 5 := by kernel_rfl
@[go_sem] theorem isAggT47 : isAggT Tryz.prog 47 = some true := by kernel_rfl
@[go_sem] theorem fieldT47x0 : fieldT Tryz.prog 47 0 = some (0, 1, 3) := by kernel_rfl
@[go_sem] theorem placesT47x0 : placesT Tryz.prog 47 0 = some (0, 1) := by kernel_rfl
@[go_sem] theorem fieldT47x1 : fieldT Tryz.prog 47 1 = some (1, 1, 3) := by kernel_rfl
@[go_sem] theorem placesT47x1 : placesT Tryz.prog 47 1 = some (1, 1) := by kernel_rfl
@[go_sem] theorem fieldT47x2 : fieldT Tryz.prog 47 2 = some (2, 1, 3) := by kernel_rfl
@[go_sem] theorem placesT47x2 : placesT Tryz.prog 47 2 = some (2, 1) := by kernel_rfl
@[go_sem] theorem fieldT47x3 : fieldT Tryz.prog 47 3 = some (3, 1, 26) := by kernel_rfl
@[go_sem] theorem placesT47x3 : placesT Tryz.prog 47 3 = some (3, 1) := by kernel_rfl
@[go_sem] theorem fieldT47x4 : fieldT Tryz.prog 47 4 = some (4, 1, 46) := by kernel_rfl
@[go_sem] theorem placesT47x4 : placesT Tryz.prog 47 4 = some (4, 1) := by kernel_rfl
@[go_sem] theorem buildableT47 : buildableT Tryz.prog 47 = true := by kernel_rfl
@[go_sem] theorem zeroT47 : zeroT Tryz.prog 47 = some [AV.c (.int .i64 0), AV.c (.int .i64 0), AV.c (.int .i64 0), AV.c (.slice none 0 0), AV.c (.slice none 0 0)] := by kernel_rfl
@[go_sem] theorem szT48 : szT Tryz.prog 48 = some 5 := by kernel_rfl
@[go_sem] theorem isAggT48 : isAggT Tryz.prog 48 = some true := by kernel_rfl
@[go_sem] theorem fieldT48x0 : fieldT Tryz.prog 48 0 = some (0, 1, 3) := by kernel_rfl
@[go_sem] theorem placesT48x0 : placesT Tryz.prog 48 0 = some (0, 1) := by kernel_rfl
@[go_sem] theorem fieldT48x1 : fieldT Tryz.prog 48 1 = some (1, 1, 3) := by kernel_rfl
@[go_sem] theorem placesT48x1 : placesT Tryz.prog 48 1 = some (1, 1) := by kernel_rfl
@[go_sem] theorem fieldT48x2 : fieldT Tryz.prog 48 2 = some (2, 1, 3) := by kernel_rfl
@[go_sem] theorem placesT48x2 : placesT Tryz.prog 48 2 = some (2, 1) := by kernel_rfl
@[go_sem] theorem fieldT48x3 : fieldT Tryz.prog 48 3 = some (3, 1, 26) := by kernel_rfl
@[go_sem] theorem placesT48x3 : placesT Tryz.prog 48 3 = some (3, 1) := by kernel_rfl
@[go_sem] theorem fieldT48x4 : fieldT Tryz.prog 48 4 = some (4, 1, 46) := by kernel_rfl
@[go_sem] theorem placesT48x4 : placesT Tryz.prog 48 4 = some (4, 1) := by kernel_rfl
@[go_sem] theorem buildableT48 : buildableT Tryz.prog 48 = true := by kernel_rfl
@[go_sem] theorem zeroT48 : zeroT Tryz.prog 48 = some [AV.c (.int .i64 0), AV.c (.int .i64 0), AV.c (.int .i64 0), AV.c (.slice none 0 0), AV.c (.slice none 0 0)] := by kernel_rfl
@[go_sem] theorem szT49 : szT Tryz.prog 49 = some 1 := by kernel_rfl
@[go_sem] theorem isAggT49 : isAggT Tryz.prog 49 = some false := by kernel_rfl
@[go_sem] theorem szT51 : szT Tryz.prog 51 = some 1 := by kernel_rfl
@[go_sem] theorem isAggT51 : isAggT Tryz.prog 51 = some false := by kernel_rfl
@[go_sem] theorem szT53 : szT Tryz.prog 53 = some 1 := by kernel_rfl
@[go_sem] theorem isAggT53 : isAggT Tryz.prog 53 = some false := by kernel_rfl
@[go_sem] theorem szT54 : szT Tryz.prog 54 = some 1 := by kernel_rfl
@[go_sem] theorem isAggT54 : isAggT Tryz.prog 54 = some false := by kernel_rfl
@[go_sem] theorem szT55 : szT Tryz.prog 55 = some 1 := by kernel_rfl
@[go_sem] theorem isAggT55 : isAggT Tryz.prog 55 = some false := by kernel_rfl
@[go_sem] theorem szT56 : szT Tryz.prog 56 = some 1 := by kernel_rfl
@[go_sem] theorem isAggT56 : isAggT Tryz.prog 56 = some false := by kernel_rfl
@[go_sem] theorem szT57 : szT Tryz.prog 57 = some 1 := by kernel_rfl
@[go_sem] theorem isAggT57 : isAggT Tryz.prog 57 = some false := by kernel_rfl
@[go_sem] theorem sliceT57 : sliceT Tryz.prog 57 = some (22, 1) := by kernel_rfl
@[go_sem] theorem zeroT57 : zeroT Tryz.prog 57 = some [AV.c (.slice none 0 0)] := by kernel_rfl
@[go_sem] theorem szT58 : szT Tryz.prog 58 = some 1 := by kernel_rfl
@[go_sem] theorem isAggT58 : isAggT Tryz.prog 58 = some false := by kernel_rfl
@[go_sem] theorem sliceT58 : sliceT Tryz.prog 58 = some (22, 1) := by kernel_rfl
@[go_sem] theorem zeroT58 : zeroT Tryz.prog 58 = some [AV.c (.slice none 0 0)] := by kernel_rfl
@[go_sem] theorem szT60 : szT Tryz.prog 60 = some 1 := by kernel_rfl
@[go_sem] theorem isAggT60 : isAggT Tryz.prog 60 = some false := by kernel_rfl
@[go_sem] theorem szT62 : szT Tryz.prog 62 = some 1 := by kernel_rfl
@[go_sem] theorem isAggT62 : isAggT Tryz.prog 62 = some false := by kernel_rfl
@[go_sem] theorem szT63 : szT Tryz.prog 63 = some 1 := by kernel_rfl
@[go_sem] theorem isAggT63 : isAggT Tryz.prog 63 = some false := by kernel_rfl
@[go_sem] theorem szT64 : szT Tryz.prog 64 = some 1 := by kernel_rfl
@[go_sem] theorem isAggT64 : isAggT Tryz.prog 64 = some false := by kernel_rfl
@[go_sem] theorem szT65 : szT Tryz.prog 65 = some 1 := by kernel_rfl
@[go_sem] theorem isAggT65 : isAggT Tryz.prog 65 = some false := by kernel_rfl
@[go_sem] theorem szT66 : szT Tryz.prog 66 = some 1 := by kernel_rfl
@[go_sem] theorem isAggT66 : isAggT Tryz.prog 66 = some false := by kernel_rfl
@[go_sem] theorem szT67 : szT Tryz.prog 67 = some 1 := by kernel_rfl
@[go_sem] theorem isAggT67 : isAggT Tryz.prog 67 = some false := by kernel_rfl
@[go_sem] theorem szT68 : szT Tryz.prog 68 = some 1 := by kernel_rfl
@[go_sem] theorem isAggT68 : isAggT Tryz.prog 68 = some false := by kernel_rfl
@[go_sem] theorem szT69 : szT Tryz.prog 69 = some 1 := by kernel_rfl
@[go_sem] theorem isAggT69 : isAggT Tryz.prog 69 = some false := by kernel_rfl
@[go_sem] theorem szT70 : szT Tryz.prog 70 = some 1 := by kernel_rfl
@[go_sem] theorem isAggT70 : isAggT Tryz.prog 70 = some false := by kernel_rfl
@[go_sem] theorem szT71 : szT Tryz.prog 71 = some 1 := by kernel_rfl
@[go_sem] theorem isAggT71 : isAggT Tryz.prog 71 = some false := by kernel_rfl
@[go_sem] theorem sliceT71 : sliceT Tryz.prog 71 = some (46, 1) := by kernel_rfl
@[go_sem] theorem zeroT71 : zeroT Tryz.prog 71 = some [AV.c (.slice none 0 0)] := by kernel_rfl
@[go_sem] theorem szT72 : szT Tryz.prog 72 = some 2 := by kernel_rfl
@[go_sem] theorem isAggT72 : isAggT Tryz.prog 72 = some true := by kernel_rfl
@[go_sem] theorem fieldT72x0 : fieldT Tryz.prog 72 0 = some (0, 1, 26) := by kernel_rfl
@[go_sem] theorem placesT72x0 : placesT Tryz.prog 72 0 = some (0, 1) := by kernel_rfl
@[go_sem] theorem fieldT72x1 : fieldT Tryz.prog 72 1 = some (1, 1, 71) := by kernel_rfl
@[go_sem] theorem placesT72x1 : placesT Tryz.prog 72 1 = some (1, 1) := by kernel_rfl
@[go_sem] theorem buildableT72 : buildableT Tryz.prog 72 = true := by kernel_rfl
@[go_sem] theorem zeroT72 : zeroT Tryz.prog 72 = some [AV.c (.slice none 0 0), AV.c (.slice none 0 0)] := by kernel_rfl
@[go_sem] theorem szT73 : szT Tryz.prog 73 = some 2 := by kernel_rfl
@[go_sem] theorem isAggT73 : isAggT Tryz.prog 73 = some true := by kernel_rfl
@[go_sem] theorem fieldT73x0 : fieldT Tryz.prog 73 0 = some (0, 1, 26) := by kernel_rfl
@[go_sem] theorem placesT73x0 : placesT Tryz.prog 73 0 = some (0, 1) := by kernel_rfl
@[go_sem] theorem fieldT73x1 : fieldT Tryz.prog 73 1 = some (1, 1, 71) := by kernel_rfl
@[go_sem] theorem placesT73x1 : placesT Tryz.prog 73 1 = some (1, 1) := by kernel_rfl
@[go_sem] theorem buildableT73 : buildableT Tryz.prog 73 = true := by kernel_rfl
@[go_sem] theorem zeroT73 : zeroT Tryz.prog 73 = some [AV.c (.slice none 0 0), AV.c (.slice none 0 0)] := by kernel_rfl
@[go_sem] theorem szT75 : szT Tryz.prog 75 = some 1 := by kernel_rfl
@[go_sem] theorem isAggT75 : isAggT Tryz.prog 75 = some false := by kernel_rfl
@[go_sem] theorem szT76 : szT Tryz.prog 76 = some 1 := by kernel_rfl
@[go_sem] theorem isAggT76 : isAggT Tryz.prog 76 = some false := by kernel_rfl
@[go_sem] theorem szT78 : szT Tryz.prog 78 = some 1 := by kernel_rfl
@[go_sem] theorem isAggT78 : isAggT Tryz.prog 78 = some false := by kernel_rfl
@[go_sem] theorem szT79 : szT Tryz.prog 79 = some 1 := by kernel_rfl
@[go_sem] theorem isAggT79 : isAggT Tryz.prog 79 = some false := by kernel_rfl
@[go_sem] theorem szT80 : szT Tryz.prog 80 = some 1 := by kernel_rfl
@[go_sem] theorem isAggT80 : isAggT Tryz.prog 80 = some false := by kernel_rfl
@[go_sem] theorem szT81 : szT Tryz.prog 81 = some 1 := by kernel_rfl
@[go_sem] theorem isAggT81 : isAggT Tryz.prog 81 = some false := by kernel_rfl
@[go_sem] theorem szT82 : szT Tryz.prog 82 = some 1 := by kernel_rfl
@[go_sem] theorem isAggT82 : isAggT Tryz.prog 82 = some false := by kernel_rfl
@[go_sem] theorem szT83 : szT Tryz.prog 83 = some 4 := by kernel_rfl
@[go_sem] theorem isAggT83 : isAggT Tryz.prog 83 = some true := by kernel_rfl
@[go_sem] theorem fieldT83x0 : fieldT Tryz.prog 83 0 = some (0, 1, 3) := by kernel_rfl
@[go_sem] theorem placesT83x0 : placesT Tryz.prog 83 0 = some (0, 1) := by kernel_rfl
@[go_sem] theorem fieldT83x1 : fieldT Tryz.prog 83 1 = some (1, 1, 3) := by kernel_rfl
@[go_sem] theorem placesT83x1 : placesT Tryz.prog 83 1 = some (1, 1) := by kernel_rfl
@[go_sem] theorem fieldT83x2 : fieldT Tryz.prog 83 2 = some (2, 1, 26) := by kernel_rfl
@[go_sem] theorem placesT83x2 : placesT Tryz.prog 83 2 = some (2, 1) := by kernel_rfl
@[go_sem] theorem fieldT83x3 : fieldT Tryz.prog 83 3 = some (3, 1, 26) := by kernel_rfl
@[go_sem] theorem placesT83x3 : placesT Tryz.prog 83 3 = some (3, 1) := by kernel_rfl
@[go_sem] theorem buildableT83 : buildableT Tryz.prog 83 = true := by kernel_rfl
@[go_sem] theorem zeroT83 : zeroT Tryz.prog 83 = some [AV.c (.int .i64 0), AV.c (.int .i64 0), AV.c (.slice none 0 0), AV.c (.slice none 0 0)] := by kernel_rfl
@[go_sem] theorem szT84 : szT Tryz.prog 84 = some 4 := by kernel_rfl
@[go_sem] theorem isAggT84 : isAggT Tryz.prog 84 = some true := by kernel_rfl
@[go_sem] theorem fieldT84x0 : fieldT Tryz.prog 84 0 = some (0, 1, 3) := by kernel_rfl
@[go_sem] theorem placesT84x0 : placesT Tryz.prog 84 0 = some (0, 1) := by kernel_rfl
@[go_sem] theorem fieldT84x1 : fieldT Tryz.prog 84 1 = some (1, 1, 3) := by kernel_rfl
@[go_sem] theorem placesT84x1 : placesT Tryz.prog 84 1 = some (1, 1) := by kernel_rfl
@[go_sem] theorem fieldT84x2 : fieldT Tryz.prog 84 2 = some (2, 1, 26) := by kernel_rfl
@[go_sem] theorem placesT84x2 : placesT Tryz.prog 84 2 = some (2, 1) := by kernel_rfl
@[go_sem] theorem fieldT84x3 : fieldT Tryz.prog 84 3 = some (3, 1, 26) := by kernel_rfl
@[go_sem] theorem placesT84x3 : placesT Tryz.prog 84 3 = some (3, 1) := by kernel_rfl
@[go_sem] theorem buildableT84 : buildableT Tryz.prog 84 = true := by kernel_rfl
@[go_sem] theorem zeroT84 : zeroT Tryz.prog 84 = some [AV.c (.int .i64 0), AV.c (.int .i64 0), AV.c (.slice none 0 0), AV.c (.slice none 0 0)] := by kernel_rfl
@[go_sem] theorem szT86 : szT Tryz.prog 86 = some 1 := by kernel_rfl
@[go_sem] theorem isAggT86 : isAggT Tryz.prog 86 = some false := by kernel_rfl
@[go_sem] theorem szT87 : szT Tryz.prog 87 = some 1 := by kernel_rfl
@[go_sem] theorem isAggT87 : isAggT Tryz.prog 87 = some false := by kernel_rfl
@[go_sem] theorem szT88 : szT Tryz.prog 88 = some 1 := by kernel_rfl
@[go_sem] theorem isAggT88 : isAggT Tryz.prog 88 = some false := by kernel_rfl
@[go_sem] theorem szT89 : szT Tryz.prog 89 = some 1 := by kernel_rfl
@[go_sem] theorem isAggT89 : isAggT Tryz.prog 89 = some false := by kernel_rfl
@[go_sem] theorem szT90 : szT Tryz.prog 90 = some 1 := by kernel_rfl
@[go_sem] theorem isAggT90 : isAggT Tryz.prog 90 = some false := by kernel_rfl
@[go_sem] theorem szT92 : szT Tryz.prog 92 = some 1 := by kernel_rfl
@[go_sem] theorem isAggT92 : isAggT Tryz.prog 92 = some false := by kernel_rfl
@[go_sem] theorem szT93 : szT Tryz.prog 93 = some 3 := by kernel_rfl
@[go_sem] theorem isAggT93 : isAggT Tryz.prog 93 = some true := by kernel_rfl
@[go_sem] theorem fieldT93x0 : fieldT Tryz.prog 93 0 = some (0, 1, 3) := by kernel_rfl
@[go_sem] theorem placesT93x0 : placesT Tryz.prog 93 0 = some (0, 1) := by kernel_rfl
@[go_sem] theorem fieldT93x1 : fieldT Tryz.prog 93 1 = some (1, 1, 3) := by kernel_rfl
@[go_sem] theorem placesT93x1 : placesT Tryz.prog 93 1 = some (1, 1) := by kernel_rfl
@[go_sem] theorem fieldT93x2 : fieldT Tryz.prog 93 2 = some (2, 1, 22) := by kernel_rfl
@[go_sem] theorem placesT93x2 : placesT Tryz.prog 93 2 = some (2, 1) := by kernel_rfl
@[go_sem] theorem buildableT93 : buildableT Tryz.prog 93 = true := by kernel_rfl
@[go_sem] theorem zeroT93 : zeroT Tryz.prog 93 = some [AV.c (.int .i64 0), AV.c (.int .i64 0), AV.c (.slice none 0 0)] := by kernel_rfl
@[go_sem] theorem szT94 : szT Tryz.prog 94 = some 3 := by kernel_rfl
@[go_sem] theorem isAggT94 : isAggT Tryz.prog 94 = some true := by kernel_rfl
@[go_sem] theorem fieldT94x0 : fieldT Tryz.prog 94 0 = some (0, 1, 3) := by kernel_rfl
@[go_sem] theorem placesT94x0 : placesT Tryz.prog 94 0 = some (0, 1) := by kernel_rfl
@[go_sem] theorem fieldT94x1 : fieldT Tryz.prog 94 1 = some (1, 1, 3) := by kernel_rfl
@[go_sem] theorem placesT94x1 : placesT Tryz.prog 94 1 = some (1, 1) := by kernel_rfl
@[go_sem] theorem fieldT94x2 : fieldT Tryz.prog 94 2 = some (2, 1, 22) := by kernel_rfl
@[go_sem] theorem placesT94x2 : placesT Tryz.prog 94 2 = some (2, 1) := by kernel_rfl
@[go_sem] theorem buildableT94 : buildableT Tryz.prog 94 = true := by kernel_rfl
@[go_sem] theorem zeroT94 : zeroT Tryz.prog 94 = some [AV.c (.int .i64 0), AV.c (.int .i64 0), AV.c (.slice none 0 0)] := by kernel_rfl
@[go_sem] theorem szT95 : szT Tryz.prog 95 = some 8 := by kernel_rfl
@[go_sem] theorem isAggT95 : isAggT Tryz.prog 95 = some true := by kernel_rfl
@[go_sem] theorem arrT95 : arrT Tryz.prog 95 = some (8, 5, 1) := by kernel_rfl
@[go_sem] theorem placesT95 : placesT Tryz.prog 95 = fun i => some (i * 1, 1) := by kernel_rfl
@[go_sem] theorem buildableT95 : buildableT Tryz.prog 95 = true := by kernel_rfl
@[go_sem] theorem szT96 : szT Tryz.prog 96 = some 8 := by kernel_rfl
@[go_sem] theorem isAggT96 : isAggT Tryz.prog 96 = some true := by kernel_rfl
@[go_sem] theorem arrT96 : arrT Tryz.prog 96 = some (8, 5, 1) := by kernel_rfl
@[go_sem] theorem placesT96 : placesT Tryz.prog 96 = fun i => some (i * 1, 1) := by kernel_rfl
@[go_sem] theorem buildableT96 : buildableT Tryz.prog 96 = true := by kernel_rfl
@[go_sem] theorem szT97 : szT Tryz.prog 97 = some 3 := by kernel_rfl
@[go_sem] theorem isAggT97 : isAggT Tryz.prog 97 = some true := by kernel_rfl
@[go_sem] theorem fieldT97x0 : fieldT Tryz.prog 97 0 = some (0, 1, 3) := by kernel_rfl
@[go_sem] theorem placesT97x0 : placesT Tryz.prog 97 0 = some (0, 1) := by kernel_rfl
@[go_sem] theorem fieldT97x1 : fieldT Tryz.prog 97 1 = some (1, 1, 3) := by kernel_rfl
@[go_sem] theorem placesT97x1 : placesT Tryz.prog 97 1 = some (1, 1) := by kernel_rfl
@[go_sem] theorem fieldT97x2 : fieldT Tryz.prog 97 2 = some (2, 1, 22) := by kernel_rfl
@[go_sem] theorem placesT97x2 : placesT Tryz.prog 97 2 = some (2, 1) := by kernel_rfl
@[go_sem] theorem buildableT97 : buildableT Tryz.prog 97 = true := by kernel_rfl
@[go_sem] theorem zeroT97 : zeroT Tryz.prog 97 = some [AV.c (.int .i64 0), AV.c (.int .i64 0), AV.c (.slice none 0 0)] := by kernel_rfl
@[go_sem] theorem szT98 : szT Tryz.prog 98 = some 3 := by kernel_rfl
@[go_sem] theorem isAggT98 : isAggT Tryz.prog 98 = some true := by kernel_rfl
@[go_sem] theorem fieldT98x0 : fieldT Tryz.prog 98 0 = some (0, 1, 3) := by kernel_rfl
@[go_sem] theorem placesT98x0 : placesT Tryz.prog 98 0 = some (0, 1) := by kernel_rfl
@[go_sem] theorem fieldT98x1 : fieldT Tryz.prog 98 1 = some (1, 1, 3) := by kernel_rfl
@[go_sem] theorem placesT98x1 : placesT Tryz.prog 98 1 = some (1, 1) := by kernel_rfl
@[go_sem] theorem fieldT98x2 : fieldT Tryz.prog 98 2 = some (2, 1, 22) := by kernel_rfl
@[go_sem] theorem placesT98x2 : placesT Tryz.prog 98 2 = some (2, 1) := by kernel_rfl
@[go_sem] theorem buildableT98 : buildableT Tryz.prog 98 = true := by kernel_rfl
@[go_sem] theorem zeroT98 : zeroT Tryz.prog 98 = some [AV.c (.int .i64 0), AV.c (.int .i64 0), AV.c (.slice none 0 0)] := by kernel_rfl
@[go_sem] theorem szT99 : szT Tryz.prog 99 = some 1 := by kernel_rfl
@[go_sem] theorem isAggT99 : isAggT Tryz.prog 99 = some false := by kernel_rfl
@[go_sem] theorem zeroT99 : zeroT Tryz.prog 99 = some [AV.c (.pointer none)] := by kernel_rfl
@[go_sem] theorem szT100 : szT Tryz.prog 100 = some 1 := by kernel_rfl
@[go_sem] theorem isAggT100 : isAggT Tryz.prog 100 = some false := by kernel_rfl
@[go_sem] theorem szT101 : szT Tryz.prog 101 = some 1 := by kernel_rfl
@[go_sem] theorem isAggT101 : isAggT Tryz.prog 101 = some false := by kernel_rfl
@[go_sem] theorem szT102 : szT Tryz.prog 102 = some 1 := by kernel_rfl
@[go_sem] theorem isAggT102 : isAggT Tryz.prog 102 = some false := by kernel_rfl
@[go_sem] theorem szT103 : szT Tryz.prog 103 = some 1 := by kernel_rfl
@[go_sem] theorem isAggT103 : isAggT Tryz.prog 103 = some false := by kernel_rfl
@[go_sem] theorem szT104 : szT Tryz.prog 104 = some 6 := by kernel_rfl
@[go_sem] theorem isAggT104 : isAggT Tryz.prog 104 = some true := by kernel_rfl
@[go_sem] theorem fieldT104x0 : fieldT Tryz.prog 104 0 = some (0, 6, 31) := by kernel_rfl
@[go_sem] theorem placesT104x0 : placesT Tryz.prog 104 0 = some (0, 6) := by kernel_rfl
@[go_sem] theorem buildableT104 : buildableT Tryz.prog 104 = true := by kernel_rfl
@[go_sem] theorem zeroT104 : zeroT Tryz.prog 104 = some [AV.c (.slice none 0 0), AV.c (.int .i64 0), AV.c (.int .i64 0), AV.c (.int .i64 0), AV.c (.int .i64 0), AV.c (.int .i64 0)] := by kernel_rfl
@[go_sem] theorem szT105 : szT Tryz.prog 105 = some 6 := by kernel_rfl
@[go_sem] theorem isAggT105 : isAggT Tryz.prog 105 = some true := by kernel_rfl
@[go_sem] theorem fieldT105x0 : fieldT Tryz.prog 105 0 = some (0, 6, 31) := by kernel_rfl
@[go_sem] theorem placesT105x0 : placesT Tryz.prog 105 0 = some (0, 6) := by kernel_rfl
@[go_sem] theorem buildableT105 : buildableT Tryz.prog 105 = true := by kernel_rfl
@[go_sem] theorem zeroT105 : zeroT Tryz.prog 105 = some [AV.c (.slice none 0 0), AV.c (.int .i64 0), AV.c (.int .i64 0), AV.c (.int .i64 0), AV.c (.int .i64 0), AV.c (.int .i64 0)] := by kernel_rfl
@[go_sem] theorem szT106 : szT Tryz.prog 106 = some 1 := by kernel_rfl
@[go_sem] theorem isAggT106 : isAggT Tryz.prog 106 = some false := by kernel_rfl
@[go_sem] theorem szT107 : szT Tryz.prog 107 = some 1 := by kernel_rfl
@[go_sem] theorem isAggT107 : isAggT Tryz.prog 107 = some false := by kernel_rfl
@[go_sem] theorem sliceT107 : sliceT Tryz.prog 107 = some (5, 1) := by kernel_rfl
@[go_sem] theorem zeroT107 : zeroT Tryz.prog 107 = some [AV.c (.slice none 0 0)] := by kernel_rfl
@[go_sem] theorem szT108 : szT Tryz.prog 108 = some 1 := by kernel_rfl
@[go_sem] theorem isAggT108 : isAggT Tryz.prog 108 = some false := by kernel_rfl
@[go_sem] theorem szT109 : szT Tryz.prog 109 = some 1 := by kernel_rfl
@[go_sem] theorem isAggT109 : isAggT Tryz.prog 109 = some false := by kernel_rfl
@[go_sem] theorem szT110 : szT Tryz.prog 110 = some 1 := by kernel_rfl
@[go_sem] theorem isAggT110 : isAggT Tryz.prog 110 = some false := by kernel_rfl
@[go_sem] theorem szT111 : szT Tryz.prog 111 = some 1 := by kernel_rfl
@[go_sem] theorem isAggT111 : isAggT Tryz.prog 111 = some false := by kernel_rfl
@[go_sem] theorem szT112 : szT Tryz.prog 112 = some 1 := by kernel_rfl
@[go_sem] theorem isAggT112 : isAggT Tryz.prog 112 = some false := by kernel_rfl
@[go_sem] theorem szT113 : szT Tryz.prog 113 = some 1 := by kernel_rfl
@[go_sem] theorem isAggT113 : isAggT Tryz.prog 113 = some false := by kernel_rfl
@[go_sem] theorem szT115 : szT Tryz.prog 115 = some 1 := by kernel_rfl
@[go_sem] theorem isAggT115 : isAggT Tryz.prog 115 = some false := by kernel_rfl
@[go_sem] theorem szT116 : szT Tryz.prog 116 = some 1 := by kernel_rfl
@[go_sem] theorem isAggT116 : isAggT Tryz.prog 116 = some false := by kernel_rfl
@[go_sem] theorem szT117 : szT Tryz.prog 117 = some 1 := by kernel_rfl
@[go_sem] theorem isAggT117 : isAggT Tryz.prog 117 = some false := by kernel_rfl
@[go_sem] theorem szT119 : szT Tryz.prog 119 = some 1 := by kernel_rfl
@[go_sem] theorem isAggT119 : isAggT Tryz.prog 119 = some false := by kernel_rfl
@[go_sem] theorem szT121 : szT Tryz.prog 121 = some 1 := by kernel_rfl
@[go_sem] theorem isAggT121 : isAggT Tryz.prog 121 = some false := by kernel_rfl
@[go_sem] theorem szT122 : szT Tryz.prog 122 = some 1 := by kernel_rfl
@[go_sem] theorem isAggT122 : isAggT Tryz.prog 122 = some false := by kernel_rfl
@[go_sem] theorem szT123 : szT Tryz.prog 123 = some 1 := by kernel_rfl
@[go_sem] theorem isAggT123 : isAggT Tryz.prog 123 = some false := by kernel_rfl
@[go_sem] theorem szT124 : szT Tryz.prog 124 = some 1 := by kernel_rfl
@[go_sem] theorem isAggT124 : isAggT Tryz.prog 124 = some false := by kernel_rfl
@[go_sem] theorem szT125 : szT Tryz.prog 125 = some 1 := by kernel_rfl
@[go_sem] theorem isAggT125 : isAggT Tryz.prog 125 = some false := by kernel_rfl
@[go_sem] theorem szT126 : szT Tryz.prog 126 = some 1 := by kernel_rfl
@[go_sem] theorem isAggT126 : isAggT Tryz.prog 126 = some false := by kernel_rfl
@[go_sem] theorem szT127 : szT Tryz.prog 127 = some 1 := by kernel_rfl
@[go_sem] theorem isAggT127 : isAggT Tryz.prog 127 = some false := by kernel_rfl
@[go_sem] theorem szT128 : szT Tryz.prog 128 = some 1 := by kernel_rfl
@[go_sem] theorem isAggT128 : isAggT Tryz.prog 128 = some false := by kernel_rfl
@[go_sem] theorem szT129 : szT Tryz.prog 129 = some 1 := by kernel_rfl
@[go_sem] theorem isAggT129 : isAggT Tryz.prog 129 = some false := by kernel_rfl
@[go_sem] theorem szT131 : szT Tryz.prog 131 = some 1 := by kernel_rfl
@[go_sem] theorem isAggT131 : isAggT Tryz.prog 131 = some false := by kernel_rfl
@[go_sem] theorem szT133 : szT Tryz.prog 133 = some 1 := by kernel_rfl
@[go_sem] theorem isAggT133 : isAggT Tryz.prog 133 = some false := by kernel_rfl
@[go_sem] theorem szT134 : szT Tryz.prog 134 = some 1 := by kernel_rfl
@[go_sem] theorem isAggT134 : isAggT Tryz.prog 134 = some false := by kernel_rfl
@[go_sem] theorem szT135 : szT Tryz.prog 135 = some 1 := by kernel_rfl
@[go_sem] theorem isAggT135 : isAggT Tryz.prog 135 = some false := by kernel_rfl
@[go_sem] theorem sliceT135 : sliceT Tryz.prog 135 = some (101, 1) := by kernel_rfl
@[go_sem] theorem zeroT135 : zeroT Tryz.prog 135 = some [AV.c (.slice none 0 0)] := by kernel_rfl
@[go_sem] theorem szT137 : szT Tryz.prog 137 = some 1 := by kernel_rfl
@[go_sem] theorem isAggT137 : isAggT Tryz.prog 137 = some false := by kernel_rfl
@[go_sem] theorem szT138 : szT Tryz.prog 138 = some 2 := by kernel_rfl
@[go_sem] theorem isAggT138 : isAggT Tryz.prog 138 = some true := by kernel_rfl
@[go_sem] theorem fieldT138x0 : fieldT Tryz.prog 138 0 = some (0, 1, 3) := by kernel_rfl
@[go_sem] theorem placesT138x0 : placesT Tryz.prog 138 0 = some (0, 1) := by kernel_rfl
@[go_sem] theorem fieldT138x1 : fieldT Tryz.prog 138 1 = some (1, 1, 3) := by kernel_rfl
@[go_sem] theorem placesT138x1 : placesT Tryz.prog 138 1 = some (1, 1) := by kernel_rfl
@[go_sem] theorem buildableT138 : buildableT Tryz.prog 138 = true := by kernel_rfl
@[go_sem] theorem zeroT138 : zeroT Tryz.prog 138 = some [AV.c (.int .i64 0), AV.c (.int .i64 0)] := by kernel_rfl
@[go_sem] theorem szT139 : szT Tryz.prog 139 = some 2 := by kernel_rfl
@[go_sem] theorem isAggT139 : isAggT Tryz.prog 139 = some true := by kernel_rfl
@[go_sem] theorem fieldT139x0 : fieldT Tryz.prog 139 0 = some (0, 1, 3) := by kernel_rfl
@[go_sem] theorem placesT139x0 : placesT Tryz.prog 139 0 = some (0, 1) := by kernel_rfl
@[go_sem] theorem fieldT139x1 : fieldT Tryz.prog 139 1 = some (1, 1, 3) := by kernel_rfl
@[go_sem] theorem placesT139x1 : placesT Tryz.prog 139 1 = some (1, 1) := by kernel_rfl
@[go_sem] theorem buildableT139 : buildableT Tryz.prog 139 = true := by kernel_rfl
@[go_sem] theorem zeroT139 : zeroT Tryz.prog 139 = some [AV.c (.int .i64 0), AV.c (.int .i64 0)] := by kernel_rfl
@[go_sem] theorem szT140 : szT Tryz.prog 140 = some 1 := by kernel_rfl
@[go_sem] theorem isAggT140 : isAggT Tryz.prog 140 = some false := by kernel_rfl
@[go_sem] theorem szT142 : szT Tryz.prog 142 = some 1 := by kernel_rfl
@[go_sem] theorem isAggT142 : isAggT Tryz.prog 142 = some false := by kernel_rfl
@[go_sem] theorem szT143 : szT Tryz.prog 143 = some 1 := by kernel_rfl
@[go_sem] theorem isAggT143 : isAggT Tryz.prog 143 = some false := by kernel_rfl
@[go_sem] theorem szT144 : szT Tryz.prog 144 = some 1 := by kernel_rfl
@[go_sem] theorem isAggT144 : isAggT Tryz.prog 144 = some false := by kernel_rfl
@[go_sem] theorem szT145 : szT Tryz.prog 145 = some 1 := by kernel_rfl
@[go_sem] theorem isAggT145 : isAggT Tryz.prog 145 = some false := by kernel_rfl
@[go_sem] theorem szT146 : szT Tryz.prog 146 = some 1 := by kernel_rfl
@[go_sem] theorem isAggT146 : isAggT Tryz.prog 146 = some false := by kernel_rfl
@[go_sem] theorem szT148 : szT Tryz.prog 148 = some 1 := by kernel_rfl
@[go_sem] theorem isAggT148 : isAggT Tryz.prog 148 = some false := by kernel_rfl
@[go_sem] theorem szT149 : szT Tryz.prog 149 = some 1 := by kernel_rfl
@[go_sem] theorem isAggT149 : isAggT Tryz.prog 149 = some false := by kernel_rfl
@[go_sem] theorem szT150 : szT Tryz.prog 150 = some 1 := by kernel_rfl
@[go_sem] theorem isAggT150 : isAggT Tryz.prog 150 = some false := by kernel_rfl
@[go_sem] theorem szT151 : szT Tryz.prog 151 = some 1 := by kernel_rfl
@[go_sem] theorem isAggT151 : isAggT Tryz.prog 151 = some false := by kernel_rfl
@[go_sem] theorem szT153 : szT Tryz.prog 153 = some 1 := by kernel_rfl
@[go_sem] theorem isAggT153 : isAggT Tryz.prog 153 = some false := by kernel_rfl
@[go_sem] theorem szT154 : szT Tryz.prog 154 = some 1 := by kernel_rfl
@[go_sem] theorem isAggT154 : isAggT Tryz.prog 154 = some false := by kernel_rfl
@[go_sem] theorem szT155 : szT Tryz.prog 155 = some 1 := by kernel_rfl
@[go_sem] theorem isAggT155 : isAggT Tryz.prog 155 = some false := by kernel_rfl
@[go_sem] theorem szT157 : szT Tryz.prog 157 = some 1 := by kernel_rfl
@[go_sem] theorem isAggT157 : isAggT Tryz.prog 157 = some false := by kernel_rfl
@[go_sem] theorem szT158 : szT Tryz.prog 158 = some 1 := by kernel_rfl
@[go_sem] theorem isAggT158 : isAggT Tryz.prog 158 = some false := by kernel_rfl
@[go_sem] theorem szT159 : szT Tryz.prog 159 = some 2 := by kernel_rfl
@[go_sem] theorem isAggT159 : isAggT Tryz.prog 159 = some true := by kernel_rfl
@[go_sem] theorem fieldT159x0 : fieldT Tryz.prog 159 0 = some (0, 1, 3) := by kernel_rfl
@[go_sem] theorem placesT159x0 : placesT Tryz.prog 159 0 = some (0, 1) := by kernel_rfl
@[go_sem] theorem fieldT159x1 : fieldT Tryz.prog 159 1 = some (1, 1, 107) := by kernel_rfl
@[go_sem] theorem placesT159x1 : placesT Tryz.prog 159 1 = some (1, 1) := by kernel_rfl
@[go_sem] theorem buildableT159 : buildableT Tryz.prog 159 = true := by kernel_rfl
@[go_sem] theorem zeroT159 : zeroT Tryz.prog 159 = some [AV.c (.int .i64 0), AV.c (.slice none 0 0)] := by kernel_rfl
@[go_sem] theorem szT160 : szT Tryz.prog 160 = some 2 := by kernel_rfl
@[go_sem] theorem isAggT160 : isAggT Tryz.prog 160 = some true := by kernel_rfl
@[go_sem] theorem fieldT160x0 : fieldT Tryz.prog 160 0 = some (0, 1, 3) := by kernel_rfl
@[go_sem] theorem placesT160x0 : placesT Tryz.prog 160 0 = some (0, 1) := by kernel_rfl
@[go_sem] theorem fieldT160x1 : fieldT Tryz.prog 160 1 = some (1, 1, 107) := by kernel_rfl
@[go_sem] theorem placesT160x1 : placesT Tryz.prog 160 1 = some (1, 1) := by kernel_rfl
@[go_sem] theorem buildableT160 : buildableT Tryz.prog 160 = true := by kernel_rfl
@[go_sem] theorem zeroT160 : zeroT Tryz.prog 160 = some [AV.c (.int .i64 0), AV.c (.slice none 0 0)] := by kernel_rfl
@[go_sem] theorem szT161 : szT Tryz.prog 161 = some 3 := by kernel_rfl
@[go_sem] theorem isAggT161 : isAggT Tryz.prog 161 = some true := by kernel_rfl
@[go_sem] theorem fieldT161x0 : fieldT Tryz.prog 161 0 = some (0, 2, 160) := by kernel_rfl
@[go_sem] theorem placesT161x0 : placesT Tryz.prog 161 0 = some (0, 2) := by kernel_rfl
@[go_sem] theorem fieldT161x1 : fieldT Tryz.prog 161 1 = some (2, 1, 22) := by kernel_rfl
@[go_sem] theorem placesT161x1 : placesT Tryz.prog 161 1 = some (2, 1) := by kernel_rfl
@[go_sem] theorem buildableT161 : buildableT Tryz.prog 161 = true := by kernel_rfl
@[go_sem] theorem zeroT161 : zeroT Tryz.prog 161 = some [AV.c (.int .i64 0), AV.c (.slice none 0 0), AV.c (.slice none 0 0)] := by kernel_rfl
@[go_sem] theorem szT162 : szT Tryz.prog 162 = some 3 := by kernel_rfl
@[go_sem] theorem isAggT162 : isAggT Tryz.prog 162 = some true := by kernel_rfl
@[go_sem] theorem fieldT162x0 : fieldT Tryz.prog 162 0 = some (0, 2, 160) := by kernel_rfl
@[go_sem] theorem placesT162x0 : placesT Tryz.prog 162 0 = some (0, 2) := by kernel_rfl
@[go_sem] theorem fieldT162x1 : fieldT Tryz.prog 162 1 = some (2, 1, 22) := by kernel_rfl
@[go_sem] theorem placesT162x1 : placesT Tryz.prog 162 1 = some (2, 1) := by kernel_rfl
@[go_sem] theorem buildableT162 : buildableT Tryz.prog 162 = true := by kernel_rfl
@[go_sem] theorem zeroT162 : zeroT Tryz.prog 162 = some [AV.c (.int .i64 0), AV.c (.slice none 0 0), AV.c (.slice none 0 0)] := by kernel_rfl
@[go_sem] theorem szT163 : szT Tryz.prog 163 = some 1 := by kernel_rfl
@[go_sem] theorem isAggT163 : isAggT Tryz.prog 163 = some false := by kernel_rfl
@[go_sem] theorem szT164 : szT Tryz.prog 164 = some 1 := by kernel_rfl
@[go_sem] theorem isAggT164 : isAggT Tryz.prog 164 = some false := by kernel_rfl
@[go_sem] theorem szT165 : szT Tryz.prog 165 = some 1 := by kernel_rfl
@[go_sem] theorem isAggT165 : isAggT Tryz.prog 165 = some false := by kernel_rfl
@[go_sem] theorem szT166 : szT Tryz.prog 166 = some 1 := by kernel_rfl
@[go_sem] theorem isAggT166 : isAggT Tryz.prog 166 = some false := by kernel_rfl
@[go_sem] theorem intT166 : intT Tryz.prog 166 = some .u32 := by kernel_rfl
@[go_sem] theorem zeroT166 : zeroT Tryz.prog 166 = some [AV.c (.int .u32 0)] := by kernel_rfl
@[go_sem] theorem szT167 : szT Tryz.prog 167 = some 6 := by kernel_rfl
@[go_sem] theorem isAggT167 : isAggT Tryz.prog 167 = some true := by kernel_rfl
@[go_sem] theorem arrT167 : arrT Tryz.prog 167 = some (2, 162, 3) := by kernel_rfl
@[go_sem] theorem placesT167 : placesT Tryz.prog 167 = fun i => some (i * 3, 3) := by kernel_rfl
@[go_sem] theorem buildableT167 : buildableT Tryz.prog 167 = true := by kernel_rfl
@[go_sem] theorem zeroT167 : zeroT Tryz.prog 167 = some [AV.c (.int .i64 0), AV.c (.slice none 0 0), AV.c (.slice none 0 0), AV.c (.int .i64 0), AV.c (.slice none 0 0), AV.c (.slice none 0 0)] := by kernel_rfl
@[go_sem] theorem szT169 : szT Tryz.prog 169 = some 1 := by kernel_rfl
@[go_sem] theorem isAggT169 : isAggT Tryz.prog 169 = some false := by kernel_rfl
@[go_sem] theorem szT170 : szT Tryz.prog 170 = some 1 := by kernel_rfl
@[go_sem] theorem isAggT170 : isAggT Tryz.prog 170 = some false := by kernel_rfl
@[go_sem] theorem szT171 : szT Tryz.prog 171 = some 1 := by kernel_rfl
@[go_sem] theorem isAggT171 : isAggT Tryz.prog 171 = some false := by kernel_rfl
@[go_sem] theorem zeroT171 : zeroT Tryz.prog 171 = some [AV.c (.pointer none)] := by kernel_rfl
@[go_sem] theorem szT172 : szT Tryz.prog 172 = some 1 := by kernel_rfl
@[go_sem] theorem isAggT172 : isAggT Tryz.prog 172 = some false := by kernel_rfl
@[go_sem] theorem sliceT172 : sliceT Tryz.prog 172 = some (171, 1) := by kernel_rfl
@[go_sem] theorem zeroT172 : zeroT Tryz.prog 172 = some [AV.c (.slice none 0 0)] := by kernel_rfl
@[go_sem] theorem szT174 : szT Tryz.prog 174 = some 1 := by kernel_rfl
@[go_sem] theorem isAggT174 : isAggT Tryz.prog 174 = some false := by kernel_rfl
@[go_sem] theorem szT176 : szT Tryz.prog 176 = some 1 := by kernel_rfl
@[go_sem] theorem isAggT176 : isAggT Tryz.prog 176 = some false := by kernel_rfl
@[go_sem] theorem szT178 : szT Tryz.prog 178 = some 1 := by kernel_rfl
@[go_sem] theorem isAggT178 : isAggT Tryz.prog 178 = some false := by kernel_rfl
@[go_sem] theorem szT179 : szT Tryz.prog 179 = some 1 := by kernel_rfl
@[go_sem] theorem isAggT179 : isAggT Tryz.prog 179 = some false := by kernel_rfl
@[go_sem] theorem szT180 : szT Tryz.prog 180 = some 1 := by kernel_rfl
@[go_sem] theorem isAggT180 : isAggT Tryz.prog 180 = some false := by kernel_rfl
@[go_sem] theorem szT181 : szT Tryz.prog 181 = some 1 := by kernel_rfl
@[go_sem] theorem isAggT181 : isAggT Tryz.prog 181 = some false := by kernel_rfl
@[go_sem] theorem szT182 : szT Tryz.prog 182 = some 1 := by kernel_rfl
@[go_sem] theorem isAggT182 : isAggT Tryz.prog 182 = some false := by kernel_rfl
@[go_sem] theorem szT183 : szT Tryz.prog 183 = some 1 := by kernel_rfl
@[go_sem] theorem isAggT183 : isAggT Tryz.prog 183 = some false := by kernel_rfl
@[go_sem] theorem zeroT183 : zeroT Tryz.prog 183 = some [AV.c (.pointer none)] := by kernel_rfl
@[go_sem] theorem szT184 : szT Tryz.prog 184 = some 1 := by kernel_rfl
@[go_sem] theorem isAggT184 : isAggT Tryz.prog 184 = some false := by kernel_rfl
@[go_sem] theorem szT185 : szT Tryz.prog 185 = some 2 := by kernel_rfl
@[go_sem] theorem isAggT185 : isAggT Tryz.prog 185 = some true := by kernel_rfl
@[go_sem] theorem fieldT185x0 : fieldT Tryz.prog 185 0 = some (0, 2, 25) := by kernel_rfl
@[go_sem] theorem placesT185x0 : placesT Tryz.prog 185 0 = some (0, 2) := by kernel_rfl
@[go_sem] theorem buildableT185 : buildableT Tryz.prog 185 = true := by kernel_rfl
@[go_sem] theorem zeroT185 : zeroT Tryz.prog 185 = some [AV.c (.slice none 0 0), AV.c (.slice none 0 0)] := by kernel_rfl
@[go_sem] theorem szT186 : szT Tryz.prog 186 = some 2 := by kernel_rfl
@[go_sem] theorem isAggT186 : isAggT Tryz.prog 186 = some true := by kernel_rfl
@[go_sem] theorem fieldT186x0 : fieldT Tryz.prog 186 0 = some (0, 2, 25) := by kernel_rfl
@[go_sem] theorem placesT186x0 : placesT Tryz.prog 186 0 = some (0, 2) := by kernel_rfl
@[go_sem] theorem buildableT186 : buildableT Tryz.prog 186 = true := by kernel_rfl
@[go_sem] theorem zeroT186 : zeroT Tryz.prog 186 = some [AV.c (.slice none 0 0), AV.c (.slice none 0 0)] := by kernel_rfl
@[go_sem] theorem szT188 : szT Tryz.prog 188 = some 1 := by kernel_rfl
@[go_sem] theorem isAggT188 : isAggT Tryz.prog 188 = some false := by kernel_rfl
@[go_sem] theorem szT190 : szT Tryz.prog 190 = some 1 := by kernel_rfl
@[go_sem] theorem isAggT190 : isAggT Tryz.prog 190 = some false := by kernel_rfl
@[go_sem] theorem szT191 : szT Tryz.prog 191 = some 1 := by kernel_rfl
@[go_sem] theorem isAggT191 : isAggT Tryz.prog 191 = some false := by kernel_rfl
@[go_sem] theorem szT192 : szT Tryz.prog 192 = some 9 := by kernel_rfl
@[go_sem] theorem isAggT192 : isAggT Tryz.prog 192 = some true := by kernel_rfl
@[go_sem] theorem fieldT192x0 : fieldT Tryz.prog 192 0 = some (0, 1, 3) := by kernel_rfl
@[go_sem] theorem placesT192x0 : placesT Tryz.prog 192 0 = some (0, 1) := by kernel_rfl
@[go_sem] theorem fieldT192x1 : fieldT Tryz.prog 192 1 = some (1, 8, 96) := by kernel_rfl
@[go_sem] theorem placesT192x1 : placesT Tryz.prog 192 1 = some (1, 8) := by kernel_rfl
@[go_sem] theorem buildableT192 : buildableT Tryz.prog 192 = true := by kernel_rfl
@[go_sem] theorem szT193 : szT Tryz.prog 193 = some 9 := by kernel_rfl
@[go_sem] theorem isAggT193 : isAggT Tryz.prog 193 = some true := by kernel_rfl
@[go_sem] theorem fieldT193x0 : fieldT Tryz.prog 193 0 = some (0, 1, 3) := by kernel_rfl
@[go_sem] theorem placesT193x0 : placesT Tryz.prog 193 0 = some (0, 1) := by kernel_rfl
@[go_sem] theorem fieldT193x1 : fieldT Tryz.prog 193 1 = some (1, 8, 96) := by kernel_rfl
@[go_sem] theorem placesT193x1 : placesT Tryz.prog 193 1 = some (1, 8) := by kernel_rfl
@[go_sem] theorem buildableT193 : buildableT Tryz.prog 193 = true := by kernel_rfl
@[go_sem] theorem szT194 : szT Tryz.prog 194 = some 1 := by kernel_rfl
@[go_sem] theorem isAggT194 : isAggT Tryz.prog 194 = some false := by kernel_rfl
@[go_sem] theorem szT195 : szT Tryz.prog 195 = some 1 := by kernel_rfl
@[go_sem] theorem isAggT195 : isAggT Tryz.prog 195 = some false := by kernel_rfl
@[go_sem] theorem szT196 : szT Tryz.prog 196 = some 1 := by kernel_rfl
@[go_sem] theorem isAggT196 : isAggT Tryz.prog 196 = some false := by kernel_rfl
@[go_sem] theorem szT197 : szT Tryz.prog 197 = some 1 := by kernel_rfl
@[go_sem] theorem isAggT197 : isAggT Tryz.prog 197 = some false := by kernel_rfl
@[go_sem] theorem szT198 : szT Tryz.prog 198 = some 1 := by kernel_rfl
@[go_sem] theorem isAggT198 : isAggT Tryz.prog 198 = some false := by kernel_rfl
@[go_sem] theorem szT199 : szT Tryz.prog 199 = some 1 := by kernel_rfl
@[go_sem] theorem isAggT199 : isAggT Tryz.prog 199 = some false := by kernel_rfl
@[go_sem] theorem szT200 : szT Tryz.prog 200 = some 1 := by kernel_rfl
@[go_sem] theorem isAggT200 : isAggT Tryz.prog 200 = some false := by kernel_rfl
@[go_sem] theorem szT201 : szT Tryz.prog 201 = some 1 := by kernel_rfl
@[go_sem] theorem isAggT201 : isAggT Tryz.prog 201 = some false := by kernel_rfl
@[go_sem] theorem szT202 : szT Tryz.prog 202 = some 1 := by kernel_rfl
@[go_sem] theorem isAggT202 : isAggT Tryz.prog 202 = some false := by kernel_rfl
@[go_sem] theorem szT203 : szT Tryz.prog 203 = some 1 := by kernel_rfl
@[go_sem] theorem isAggT203 : isAggT Tryz.prog 203 = some false := by kernel_rfl
@[go_sem] theorem szT204 : szT Tryz.prog 204 = some 1 := by kernel_rfl
@[go_sem] theorem isAggT204 : isAggT Tryz.prog 204 = some false := by kernel_rfl
@[go_sem] theorem zeroT204 : zeroT Tryz.prog 204 = some [AV.c (.map none)] := by kernel_rfl
@[go_sem] theorem szT205 : szT Tryz.prog 205 = some 1 := by kernel_rfl
@[go_sem] theorem isAggT205 : isAggT Tryz.prog 205 = some false := by kernel_rfl
@[go_sem] theorem zeroT205 : zeroT Tryz.prog 205 = some [AV.c (.map none)] := by kernel_rfl
@[go_sem] theorem szT206 : szT Tryz.prog 206 = some 1 := by kernel_rfl
@[go_sem] theorem isAggT206 : isAggT Tryz.prog 206 = some false := by kernel_rfl
@[go_sem] theorem szT207 : szT Tryz.prog 207 = some 1 := by kernel_rfl
@[go_sem] theorem isAggT207 : isAggT Tryz.prog 207 = some false := by kernel_rfl
@[go_sem] theorem szT208 : szT Tryz.prog 208 = some 1 := by kernel_rfl
@[go_sem] theorem isAggT208 : isAggT Tryz.prog 208 = some false := by kernel_rfl
@[go_sem] theorem szT209 : szT Tryz.prog 209 = some 1 := by kernel_rfl
@[go_sem] theorem isAggT209 : isAggT Tryz.prog 209 = some false := by kernel_rfl
@[go_sem] theorem mapT209 : mapT Tryz.prog 209 = some (3, 22, .int .i64) := by kernel_rfl
@[go_sem] theorem zeroT209 : zeroT Tryz.prog 209 = some [AV.c (.map none)] := by kernel_rfl
@[go_sem] theorem szT210 : szT Tryz.prog 210 = some 1 := by kernel_rfl
@[go_sem] theorem isAggT210 : isAggT Tryz.prog 210 = some false := by kernel_rfl
@[go_sem] theorem szT211 : szT Tryz.prog 211 = some 1 := by kernel_rfl
@[go_sem] theorem isAggT211 : isAggT Tryz.prog 211 = some false := by kernel_rfl
@[go_sem] theorem szT212 : szT Tryz.prog 212 = some 1 := by kernel_rfl
@[go_sem] theorem isAggT212 : isAggT Tryz.prog 212 = some false := by kernel_rfl
@[go_sem] theorem szT213 : szT Tryz.prog 213 = some 1 := by kernel_rfl
@[go_sem] theorem isAggT213 : isAggT Tryz.prog 213 = some false := by kernel_rfl
@[go_sem] theorem szT215 : szT Tryz.prog 215 = some 1 := by kernel_rfl
@[go_sem] theorem isAggT215 : isAggT Tryz.prog 215 = some false := by kernel_rfl
@[go_sem] theorem szT216 : szT Tryz.prog 216 = some 1 := by kernel_rfl
@[go_sem] theorem isAggT216 : isAggT Tryz.prog 216 = some false := by kernel_rfl
@[go_sem] theorem szT217 : szT Tryz.prog 217 = some 1 := by kernel_rfl
@[go_sem] theorem isAggT217 : isAggT Tryz.prog 217 = some false := by kernel_rfl
@[go_sem] theorem szT218 : szT Tryz.prog 218 = some 1 := by kernel_rfl
@[go_sem] theorem isAggT218 : isAggT Tryz.prog 218 = some false := by kernel_rfl
@[go_sem] theorem szT219 : szT Tryz.prog 219 = some 1 := by kernel_rfl
@[go_sem] theorem isAggT219 : isAggT Tryz.prog 219 = some false := by kernel_rfl
@[go_sem] theorem intT219 : intT Tryz.prog 219 = some .u64 := by kernel_rfl
@[go_sem] theorem zeroT219 : zeroT Tryz.prog 219 = some [AV.c (.int .u64 0)] := by kernel_rfl
@[go_sem] theorem szT220 : szT Tryz.prog 220 = some 1 := by kernel_rfl
@[go_sem] theorem isAggT220 : isAggT Tryz.prog 220 = some false := by kernel_rfl
@[go_sem] theorem szT221 : szT Tryz.prog 221 = some 1 := by kernel_rfl
@[go_sem] theorem isAggT221 : isAggT Tryz.prog 221 = some false := by kernel_rfl
@[go_sem] theorem szT222 : szT Tryz.prog 222 = some 1 := by kernel_rfl
@[go_sem] theorem isAggT222 : isAggT Tryz.prog 222 = some false := by kernel_rfl
@[go_sem] theorem szT223 : szT Tryz.prog 223 = some 1 := by kernel_rfl
@[go_sem] theorem isAggT223 : isAggT Tryz.prog 223 = some false := by kernel_rfl
@[go_sem] theorem szT224 : szT Tryz.prog 224 = some 1 := by kernel_rfl
@[go_sem] theorem isAggT224 : isAggT Tryz.prog 224 = some false := by kernel_rfl
@[go_sem] theorem zeroT224 : zeroT Tryz.prog 224 = some [AV.c (.pointer none)] := by kernel_rfl
@[go_sem] theorem szT226 : szT Tryz.prog 226 = some 1 := by kernel_rfl
@[go_sem] theorem isAggT226 : isAggT Tryz.prog 226 = some false := by kernel_rfl
@[go_sem] theorem szT228 : szT Tryz.prog 228 = some 1 := by kernel_rfl
@[go_sem] theorem isAggT228 : isAggT Tryz.prog 228 = some false := by kernel_rfl
@[go_sem] theorem szT229 : szT Tryz.prog 229 = some 1 := by kernel_rfl
@[go_sem] theorem isAggT229 : isAggT Tryz.prog 229 = some false := by kernel_rfl
@[go_sem] theorem szT230 : szT Tryz.prog 230 = some 1 := by kernel_rfl
@[go_sem] theorem isAggT230 : isAggT Tryz.prog 230 = some false := by kernel_rfl
@[go_sem] theorem szT231 : szT Tryz.prog 231 = some 1 := by kernel_rfl
@[go_sem] theorem isAggT231 : isAggT Tryz.prog 231 = some false := by kernel_rfl
@[go_sem] theorem szT232 : szT Tryz.prog 232 = some 1 := by kernel_rfl
@[go_sem] theorem isAggT232 : isAggT Tryz.prog 232 = some false := by kernel_rfl
@[go_sem] theorem szT233 : szT Tryz.prog 233 = some 2 := by kernel_rfl
@[go_sem] theorem isAggT233 : isAggT Tryz.prog 233 = some true := by kernel_rfl
@[go_sem] theorem arrT233 : arrT Tryz.prog 233 = some (2, 232, 1) := by kernel_rfl
@[go_sem] theorem placesT233 : placesT Tryz.prog 233 = fun i => some (i * 1, 1) := by kernel_rfl
@[go_sem] theorem buildableT233 : buildableT Tryz.prog 233 = true := by kernel_rfl
@[go_sem] theorem zeroT233 : zeroT Tryz.prog 233 = some [AV.c .nilFunc, AV.c .nilFunc] := by kernel_rfl
@[go_sem] theorem szT234 : szT Tryz.prog 234 = some 1 := by kernel_rfl
@[go_sem] theorem isAggT234 : isAggT Tryz.prog 234 = some false := by kernel_rfl
@[go_sem] theorem szT235 : szT Tryz.prog 235 = some 1 := by kernel_rfl
@[go_sem] theorem isAggT235 : isAggT Tryz.prog 235 = some false := by kernel_rfl
@[go_sem] theorem szT236 : szT Tryz.prog 236 = some 1 := by kernel_rfl
@[go_sem] theorem isAggT236 : isAggT Tryz.prog 236 = some false := by kernel_rfl
@[go_sem] theorem szT237 : szT Tryz.prog 237 = some 1 := by kernel_rfl
@[go_sem] theorem isAggT237 : isAggT Tryz.prog 237 = some false := by kernel_rfl
@[go_sem] theorem szT238 : szT Tryz.prog 238 = some 1 := by kernel_rfl
@[go_sem] theorem isAggT238 : isAggT Tryz.prog 238 = some false := by kernel_rfl
@[go_sem] theorem szT239 : szT Tryz.prog 239 = some 2 := by kernel_rfl
@[go_sem] theorem isAggT239 : isAggT Tryz.prog 239 = some true := by kernel_rfl
@[go_sem] theorem fieldT239x0 : fieldT Tryz.prog 239 0 = some (0, 1, 3) := by kernel_rfl
@[go_sem] theorem placesT239x0 : placesT Tryz.prog 239 0 = some (0, 1) := by kernel_rfl
@[go_sem] theorem fieldT239x1 : fieldT Tryz.prog 239 1 = some (1, 1, 3) := by kernel_rfl
@[go_sem] theorem placesT239x1 : placesT Tryz.prog 239 1 = some (1, 1) := by kernel_rfl
@[go_sem] theorem buildableT239 : buildableT Tryz.prog 239 = true := by kernel_rfl
@[go_sem] theorem zeroT239 : zeroT Tryz.prog 239 = some [AV.c (.int .i64 0), AV.c (.int .i64 0)] := by kernel_rfl
@[go_sem] theorem szT240 : szT Tryz.prog 240 = some 2 := by kernel_rfl
@[go_sem] theorem isAggT240 : isAggT Tryz.prog 240 = some true := by kernel_rfl
@[go_sem] theorem fieldT240x0 : fieldT Tryz.prog 240 0 = some (0, 1, 3) := by kernel_rfl
@[go_sem] theorem placesT240x0 : placesT Tryz.prog 240 0 = some (0, 1) := by kernel_rfl
@[go_sem] theorem fieldT240x1 : fieldT Tryz.prog 240 1 = some (1, 1, 3) := by kernel_rfl
@[go_sem] theorem placesT240x1 : placesT Tryz.prog 240 1 = some (1, 1) := by kernel_rfl
@[go_sem] theorem buildableT240 : buildableT Tryz.prog 240 = true := by kernel_rfl
@[go_sem] theorem zeroT240 : zeroT Tryz.prog 240 = some [AV.c (.int .i64 0), AV.c (.int .i64 0)] := by kernel_rfl
@[go_sem] theorem szT241 : szT Tryz.prog 241 = some 1 := by kernel_rfl
@[go_sem] theorem isAggT241 : isAggT Tryz.prog 241 = some false := by kernel_rfl
@[go_sem] theorem szT242 : szT Tryz.prog 242 = some 1 := by kernel_rfl
@[go_sem] theorem isAggT242 : isAggT Tryz.prog 242 = some false := by kernel_rfl
@[go_sem] theorem sliceT242 : sliceT Tryz.prog 242 = some (240, 2) := by kernel_rfl
@[go_sem] theorem zeroT242 : zeroT Tryz.prog 242 = some [AV.c (.slice none 0 0)] := by kernel_rfl
@[go_sem] theorem szT243 : szT Tryz.prog 243 = some 1 := by kernel_rfl
@[go_sem] theorem isAggT243 : isAggT Tryz.prog 243 = some false := by kernel_rfl
@[go_sem] theorem szT244 : szT Tryz.prog 244 = some 1 := by kernel_rfl
@[go_sem] theorem isAggT244 : isAggT Tryz.prog 244 = some false := by kernel_rfl
@[go_sem] theorem szT245 : szT Tryz.prog 245 = some 1 := by kernel_rfl
@[go_sem] theorem isAggT245 : isAggT Tryz.prog 245 = some false := by kernel_rfl
@[go_sem] theorem zeroT245 : zeroT Tryz.prog 245 = some [AV.c (.pointer none)] := by kernel_rfl
@[go_sem] theorem szT246 : szT Tryz.prog 246 = some 1 := by kernel_rfl
@[go_sem] theorem isAggT246 : isAggT Tryz.prog 246 = some false := by kernel_rfl
@[go_sem] theorem szT247 : szT Tryz.prog 247 = some 1 := by kernel_rfl
@[go_sem] theorem isAggT247 : isAggT Tryz.prog 247 = some false := by kernel_rfl
@[go_sem] theorem szT248 : szT Tryz.prog 248 = some 1 := by kernel_rfl
@[go_sem] theorem isAggT248 : isAggT Tryz.prog 248 = some false := by kernel_rfl
@[go_sem] theorem szT249 : szT Tryz.prog 249 = some 1 := by kernel_rfl
@[go_sem] theorem isAggT249 : isAggT Tryz.prog 249 = some false := by kernel_rfl
@[go_sem] theorem szT250 : szT Tryz.prog 250 = some 1 := by kernel_rfl
@[go_sem] theorem isAggT250 : isAggT Tryz.prog 250 = some false := by kernel_rfl
@[go_sem] theorem szT251 : szT Tryz.prog 251 = some 1 := by kernel_rfl
@[go_sem] theorem isAggT251 : isAggT Tryz.prog 251 = some true := by kernel_rfl
@[go_sem] theorem fieldT251x0 : fieldT Tryz.prog 251 0 = some (0, 1, 107) := by kernel_rfl
@[go_sem] theorem placesT251x0 : placesT Tryz.prog 251 0 = some (0, 1) := by kernel_rfl
@[go_sem] theorem buildableT251 : buildableT Tryz.prog 251 = true := by kernel_rfl
@[go_sem] theorem zeroT251 : zeroT Tryz.prog 251 = some [AV.c (.slice none 0 0)] := by kernel_rfl
@[go_sem] theorem szT252 : szT Tryz.prog 252 = some 1 := by kernel_rfl
@[go_sem] theorem isAggT252 : isAggT Tryz.prog 252 = some true := by kernel_rfl
@[go_sem] theorem fieldT252x0 : fieldT Tryz.prog 252 0 = some (0, 1, 107) := by kernel_rfl
@[go_sem] theorem placesT252x0 : placesT Tryz.prog 252 0 = some (0, 1) := by kernel_rfl
@[go_sem] theorem buildableT252 : buildableT Tryz.prog 252 = true := by kernel_rfl
@[go_sem] theorem zeroT252 : zeroT Tryz.prog 252 = some [AV.c (.slice none 0 0)] := by kernel_rfl
@[go_sem] theorem zeroA22 : zeroA Tryz.prog 22 = some (AV.c (.slice none 0 0)) := by kernel_rfl
@[go_sem] theorem bytesT3 : bytesT Tryz.prog 3 = some 8 := by kernel_rfl
@[go_sem] theorem bytesT5 : bytesT Tryz.prog 5 = some 1 := by kernel_rfl
@[go_sem] theorem bytesT22 : bytesT Tryz.prog 22 = some 24 := by kernel_rfl
@[go_sem] theorem bytesT46 : bytesT Tryz.prog 46 = some 24 := by kernel_rfl
@[go_sem] theorem bytesT94 : bytesT Tryz.prog 94 = some 40 := by kernel_rfl
@[go_sem] theorem bytesT96 : bytesT Tryz.prog 96 = some 8 := by kernel_rfl
@[go_sem] theorem bytesT98 : bytesT Tryz.prog 98 = some 40 := by kernel_rfl
@[go_sem] theorem bytesT101 : bytesT Tryz.prog 101 = some 8 := by kernel_rfl
@[go_sem] theorem bytesT171 : bytesT Tryz.prog 171 = some 8 := by kernel_rfl
@[go_sem] theorem bytesT193 : bytesT Tryz.prog 193 = some 16 := by kernel_rfl
@[go_sem] theorem bytesT240 : bytesT Tryz.prog 240 = some 16 := by kernel_rfl
@[go_sem] theorem mapT205 : mapT Tryz.prog 205 = some (240, 96, .array 2 0) := by kernel_rfl
@[go_sem] theorem zeroA96 : zeroA Tryz.prog 96 = some (.agg [AV.c (.int .u8 0), AV.c (.int .u8 0), AV.c (.int .u8 0), AV.c (.int .u8 0), AV.c (.int .u8 0), AV.c (.int .u8 0), AV.c (.int .u8 0), AV.c (.int .u8 0)]) := by kernel_rfl
end Go.Proofs.YtkghiceeegindaaGreatDoor
