/- Facts on the types of the cut. No condition. -/
import Derived.Test.YtniccdnhjbnaeaaProg
import Derived.Test.YtniccdnhjbnaeaaLb
import Derived.KernelRfl
/- Facts on the types of the cut. -/
namespace Go.Proofs.Ytniccdnhjbnaeaa
open Go.Proofs Go.AL
@[go_sem] theorem szT1 : szT Try.prog 1 = some 1 := by kernel_rfl
@[go_sem] theorem isAggT1 : isAggT Try.prog 1 = some false := by kernel_rfl
@[go_sem] theorem szT2 : szT Try.prog 2 = some 1 := by kernel_rfl
@[go_sem] theorem isAggT2 : isAggT Try.prog 2 = some false := by kernel_rfl
@[go_sem] theorem intT2 : intT Try.prog 2 = some .i64 := by kernel_rfl
@[go_sem] theorem zeroT2 : zeroT Try.prog 2 = some [AV.c (.int .i64 0)] := by kernel_rfl
@[go_sem] theorem szT3 : szT Try.prog 3 = some 1 := by kernel_rfl
@[go_sem] theorem isAggT3 : isAggT Try.prog 3 = some false := by kernel_rfl
@[go_sem] theorem intT3 : intT Try.prog 3 = some .i64 := by kernel_rfl
@[go_sem] theorem zeroT3 : zeroT Try.prog 3 = some [AV.c (.int .i64 0)] := by kernel_rfl
@[go_sem] theorem szT4 : szT Try.prog 4 = some 1 := by kernel_rfl
@[go_sem] theorem isAggT4 : isAggT Try.prog 4 = some false := by kernel_rfl
@[go_sem] theorem isT4s : isT Try.prog 4 isString = false := by kernel_rfl
@[go_sem] theorem isT4b : isT Try.prog 4 isBool = true := by kernel_rfl
@[go_sem] theorem zeroT4 : zeroT Try.prog 4 = some [AV.c (.bool false)] := by kernel_rfl
@[go_sem] theorem szT5 : szT Try.prog 5 = some 1 := by kernel_rfl
@[go_sem] theorem isAggT5 : isAggT Try.prog 5 = some false := by kernel_rfl
@[go_sem] theorem intT5 : intT Try.prog 5 = some .u8 := by kernel_rfl
@[go_sem] theorem zeroT5 : zeroT Try.prog 5 = some [AV.c (.int .u8 0)] := by kernel_rfl
@[go_sem] theorem szT6 : szT Try.prog 6 = some 1 := by kernel_rfl
@[go_sem] theorem isAggT6 : isAggT Try.prog 6 = some false := by kernel_rfl
@[go_sem] theorem intT6 : intT Try.prog 6 = some .u8 := by kernel_rfl
@[go_sem] theorem zeroT6 : zeroT Try.prog 6 = some [AV.c (.int .u8 0)] := by kernel_rfl
@[go_sem] theorem szT7 : szT Try.prog 7 = some 4 := by kernel_rfl
@[go_sem] theorem isAggT7 : isAggT Try.prog 7 = some true := by kernel_rfl
@[go_sem] theorem fieldT7x0 : fieldT Try.prog 7 0 = some (0, 1, 2) := by kernel_rfl
@[go_sem] theorem placesT7x0 : placesT Try.prog 7 0 = some (0, 1) := by kernel_rfl
@[go_sem] theorem fieldT7x1 : fieldT Try.prog 7 1 = some (1, 1, 3) := by kernel_rfl
@[go_sem] theorem placesT7x1 : placesT Try.prog 7 1 = some (1, 1) := by kernel_rfl
@[go_sem] theorem fieldT7x2 : fieldT Try.prog 7 2 = some (2, 1, 4) := by kernel_rfl
@[go_sem] theorem placesT7x2 : placesT Try.prog 7 2 = some (2, 1) := by kernel_rfl
@[go_sem] theorem fieldT7x3 : fieldT Try.prog 7 3 = some (3, 1, 6) := by kernel_rfl
@[go_sem] theorem placesT7x3 : placesT Try.prog 7 3 = some (3, 1) := by kernel_rfl
@[go_sem] theorem buildableT7 : buildableT Try.prog 7 = true := by kernel_rfl
@[go_sem] theorem zeroT7 : zeroT Try.prog 7 = some [AV.c (.int .i64 0), AV.c (.int .i64 0), AV.c (.bool false), AV.c (.int .u8 0)] := by kernel_rfl
@[go_sem] theorem szT8 : szT Try.prog 8 = some 4 := by kernel_rfl
@[go_sem] theorem isAggT8 : isAggT Try.prog 8 = some true := by kernel_rfl
@[go_sem] theorem fieldT8x0 : fieldT Try.prog 8 0 = some (0, 1, 2) := by kernel_rfl
@[go_sem] theorem placesT8x0 : placesT Try.prog 8 0 = some (0, 1) := by kernel_rfl
@[go_sem] theorem fieldT8x1 : fieldT Try.prog 8 1 = some (1, 1, 3) := by kernel_rfl
@[go_sem] theorem placesT8x1 : placesT Try.prog 8 1 = some (1, 1) := by kernel_rfl
@[go_sem] theorem fieldT8x2 : fieldT Try.prog 8 2 = some (2, 1, 4) := by kernel_rfl
@[go_sem] theorem placesT8x2 : placesT Try.prog 8 2 = some (2, 1) := by kernel_rfl
@[go_sem] theorem fieldT8x3 : fieldT Try.prog 8 3 = some (3, 1, 6) := by kernel_rfl
@[go_sem] theorem placesT8x3 : placesT Try.prog 8 3 = some (3, 1) := by kernel_rfl
@[go_sem] theorem buildableT8 : buildableT Try.prog 8 = true := by kernel_rfl
@[go_sem] theorem zeroT8 : zeroT Try.prog 8 = some [AV.c (.int .i64 0), AV.c (.int .i64 0), AV.c (.bool false), AV.c (.int .u8 0)] := by kernel_rfl
@[go_sem] theorem szT9 : szT Try.prog 9 = some 1 := by kernel_rfl
@[go_sem] theorem isAggT9 : isAggT Try.prog 9 = some false := by kernel_rfl
@[go_sem] theorem isT9s : isT Try.prog 9 isString = true := by kernel_rfl
@[go_sem] theorem isT9b : isT Try.prog 9 isBool = false := by kernel_rfl
@[go_sem] theorem zeroT9 : zeroT Try.prog 9 = some [AV.c (.string ByteArray.empty)] := by kernel_rfl
@[go_sem] theorem szT10 : szT Try.prog 10 = some 1 := by kernel_rfl
@[go_sem] theorem isAggT10 : isAggT Try.prog 10 = some false := by kernel_rfl
@[go_sem] theorem isT10s : isT Try.prog 10 isString = true := by kernel_rfl
@[go_sem] theorem isT10b : isT Try.prog 10 isBool = false := by kernel_rfl
@[go_sem] theorem zeroT10 : zeroT Try.prog 10 = some [AV.c (.string ByteArray.empty)] := by kernel_rfl
@[go_sem] theorem szT11 : szT Try.prog 11 = some 1 := by kernel_rfl
@[go_sem] theorem isAggT11 : isAggT Try.prog 11 = some false := by kernel_rfl
@[go_sem] theorem isT11s : isT Try.prog 11 isString = true := by kernel_rfl
@[go_sem] theorem isT11b : isT Try.prog 11 isBool = false := by kernel_rfl
@[go_sem] theorem zeroT11 : zeroT Try.prog 11 = some [AV.c (.string ByteArray.empty)] := by kernel_rfl
@[go_sem] theorem szT12 : szT Try.prog 12 = some 1 := by kernel_rfl
@[go_sem] theorem isAggT12 : isAggT Try.prog 12 = some false := by kernel_rfl
@[go_sem] theorem intT12 : intT Try.prog 12 = some .u64 := by kernel_rfl
@[go_sem] theorem zeroT12 : zeroT Try.prog 12 = some [AV.c (.int .u64 0)] := by kernel_rfl
@[go_sem] theorem szT13 : szT Try.prog 13 = some 2 := by kernel_rfl
@[go_sem] theorem isAggT13 : isAggT Try.prog 13 = some true := by kernel_rfl
@[go_sem] theorem fieldT13x0 : fieldT Try.prog 13 0 = some (0, 1, 9) := by kernel_rfl
@[go_sem] theorem placesT13x0 : placesT Try.prog 13 0 = some (0, 1) := by kernel_rfl
@[go_sem] theorem fieldT13x1 : fieldT Try.prog 13 1 = some (1, 1, 12) := by kernel_rfl
@[go_sem] theorem placesT13x1 : placesT Try.prog 13 1 = some (1, 1) := by kernel_rfl
@[go_sem] theorem buildableT13 : buildableT Try.prog 13 = true := by kernel_rfl
@[go_sem] theorem zeroT13 : zeroT Try.prog 13 = some [AV.c (.string ByteArray.empty), AV.c (.int .u64 0)] := by kernel_rfl
@[go_sem] theorem szT14 : szT Try.prog 14 = some 2 := by kernel_rfl
@[go_sem] theorem isAggT14 : isAggT Try.prog 14 = some true := by kernel_rfl
@[go_sem] theorem fieldT14x0 : fieldT Try.prog 14 0 = some (0, 1, 9) := by kernel_rfl
@[go_sem] theorem placesT14x0 : placesT Try.prog 14 0 = some (0, 1) := by kernel_rfl
@[go_sem] theorem fieldT14x1 : fieldT Try.prog 14 1 = some (1, 1, 12) := by kernel_rfl
@[go_sem] theorem placesT14x1 : placesT Try.prog 14 1 = some (1, 1) := by kernel_rfl
@[go_sem] theorem buildableT14 : buildableT Try.prog 14 = true := by kernel_rfl
@[go_sem] theorem zeroT14 : zeroT Try.prog 14 = some [AV.c (.string ByteArray.empty), AV.c (.int .u64 0)] := by kernel_rfl
@[go_sem] theorem szT15 : szT Try.prog 15 = some 1 := by kernel_rfl
@[go_sem] theorem isAggT15 : isAggT Try.prog 15 = some false := by kernel_rfl
@[go_sem] theorem zeroT15 : zeroT Try.prog 15 = some [AV.c (.pointer none)] := by kernel_rfl
@[go_sem] theorem szT16 : szT Try.prog 16 = some 1 := by kernel_rfl
@[go_sem] theorem isAggT16 : isAggT Try.prog 16 = some false := by kernel_rfl
@[go_sem] theorem zeroT16 : zeroT Try.prog 16 = some [AV.c (.pointer none)] := by kernel_rfl
@[go_sem] theorem szT17 : szT Try.prog 17 = some 1 := by kernel_rfl
@[go_sem] theorem isAggT17 : isAggT Try.prog 17 = some false := by kernel_rfl
@[go_sem] theorem zeroT17 : zeroT Try.prog 17 = some [AV.c (.pointer none)] := by kernel_rfl
@[go_sem] theorem szT18 : szT Try.prog 18 = some 1 := by kernel_rfl
@[go_sem] theorem isAggT18 : isAggT Try.prog 18 = some true := by kernel_rfl
@[go_sem] theorem fieldT18x0 : fieldT Try.prog 18 0 = some (0, 1, 17) := by kernel_rfl
@[go_sem] theorem placesT18x0 : placesT Try.prog 18 0 = some (0, 1) := by kernel_rfl
@[go_sem] theorem buildableT18 : buildableT Try.prog 18 = true := by kernel_rfl
@[go_sem] theorem zeroT18 : zeroT Try.prog 18 = some [AV.c (.pointer none)] := by kernel_rfl
@[go_sem] theorem szT19 : szT Try.prog 19 = some 1 := by kernel_rfl
@[go_sem] theorem isAggT19 : isAggT Try.prog 19 = some true := by kernel_rfl
@[go_sem] theorem fieldT19x0 : fieldT Try.prog 19 0 = some (0, 1, 17) := by kernel_rfl
@[go_sem] theorem placesT19x0 : placesT Try.prog 19 0 = some (0, 1) := by kernel_rfl
@[go_sem] theorem buildableT19 : buildableT Try.prog 19 = true := by kernel_rfl
@[go_sem] theorem zeroT19 : zeroT Try.prog 19 = some [AV.c (.pointer none)] := by kernel_rfl
@[go_sem] theorem szT20 : szT Try.prog 20 = some 1 := by kernel_rfl
@[go_sem] theorem isAggT20 : isAggT Try.prog 20 = some false := by kernel_rfl
@[go_sem] theorem szT21 : szT Try.prog 21 = some 1 := by kernel_rfl
@[go_sem] theorem isAggT21 : isAggT Try.prog 21 = some false := by kernel_rfl
@[go_sem] theorem intT21 : intT Try.prog 21 = some .i32 := by kernel_rfl
@[go_sem] theorem zeroT21 : zeroT Try.prog 21 = some [AV.c (.int .i32 0)] := by kernel_rfl
@[go_sem] theorem szT22 : szT Try.prog 22 = some 1 := by kernel_rfl
@[go_sem] theorem isAggT22 : isAggT Try.prog 22 = some false := by kernel_rfl
@[go_sem] theorem sliceT22 : sliceT Try.prog 22 = some (65, 8) := by kernel_rfl
@[go_sem] theorem zeroT22 : zeroT Try.prog 22 = some [AV.c (.slice none 0 0)] := by kernel_rfl
@[go_sem] theorem szT23 : szT Try.prog 23 = some 1 := by kernel_rfl
@[go_sem] theorem isAggT23 : isAggT Try.prog 23 = some false := by kernel_rfl
@[go_sem] theorem sliceT23 : sliceT Try.prog 23 = some (67, 9) := by kernel_rfl
@[go_sem] theorem zeroT23 : zeroT Try.prog 23 = some [AV.c (.slice none 0 0)] := by kernel_rfl
@[go_sem] theorem szT24 : szT Try.prog 24 = some 2 := by kernel_rfl
@[go_sem] theorem isAggT24 : isAggT Try.prog 24 = some true := by kernel_rfl
@[go_sem] theorem fieldT24x0 : fieldT Try.prog 24 0 = some (0, 1, 22) := by kernel_rfl
@[go_sem] theorem placesT24x0 : placesT Try.prog 24 0 = some (0, 1) := by kernel_rfl
@[go_sem] theorem fieldT24x1 : fieldT Try.prog 24 1 = some (1, 1, 23) := by kernel_rfl
@[go_sem] theorem placesT24x1 : placesT Try.prog 24 1 = some (1, 1) := by kernel_rfl
@[go_sem] theorem buildableT24 : buildableT Try.prog 24 = true := by kernel_rfl
@[go_sem] theorem zeroT24 : zeroT Try.prog 24 = some [AV.c (.slice none 0 0), AV.c (.slice none 0 0)] := by kernel_rfl
@[go_sem] theorem szT25 : szT Try.prog 25 = some 2 := by kernel_rfl
@[go_sem] theorem isAggT25 : isAggT Try.prog 25 = some true := by kernel_rfl
@[go_sem] theorem fieldT25x0 : fieldT Try.prog 25 0 = some (0, 1, 22) := by kernel_rfl
@[go_sem] theorem placesT25x0 : placesT Try.prog 25 0 = some (0, 1) := by kernel_rfl
@[go_sem] theorem fieldT25x1 : fieldT Try.prog 25 1 = some (1, 1, 23) := by kernel_rfl
@[go_sem] theorem placesT25x1 : placesT Try.prog 25 1 = some (1, 1) := by kernel_rfl
@[go_sem] theorem buildableT25 : buildableT Try.prog 25 = true := by kernel_rfl
@[go_sem] theorem zeroT25 : zeroT Try.prog 25 = some [AV.c (.slice none 0 0), AV.c (.slice none 0 0)] := by kernel_rfl
@[go_sem] theorem szT26 : szT Try.prog 26 = some 3 := by kernel_rfl
@[go_sem] theorem isAggT26 : isAggT Try.prog 26 = some true := by kernel_rfl
@[go_sem] theorem fieldT26x0 : fieldT Try.prog 26 0 = some (0, 1, 3) := by kernel_rfl
@[go_sem] theorem placesT26x0 : placesT Try.prog 26 0 = some (0, 1) := by kernel_rfl
@[go_sem] theorem fieldT26x1 : fieldT Try.prog 26 1 = some (1, 1, 3) := by kernel_rfl
@[go_sem] theorem placesT26x1 : placesT Try.prog 26 1 = some (1, 1) := by kernel_rfl
@[go_sem] theorem fieldT26x2 : fieldT Try.prog 26 2 = some (2, 1, 22) := by kernel_rfl
@[go_sem] theorem placesT26x2 : placesT Try.prog 26 2 = some (2, 1) := by kernel_rfl
@[go_sem] theorem buildableT26 : buildableT Try.prog 26 = true := by kernel_rfl
@[go_sem] theorem zeroT26 : zeroT Try.prog 26 = some [AV.c (.int .i64 0), AV.c (.int .i64 0), AV.c (.slice none 0 0)] := by kernel_rfl
@[go_sem] theorem szT27 : szT Try.prog 27 = some 3 := by kernel_rfl
@[go_sem] theorem isAggT27 : isAggT Try.prog 27 = some true := by kernel_rfl
@[go_sem] theorem fieldT27x0 : fieldT Try.prog 27 0 = some (0, 1, 3) := by kernel_rfl
@[go_sem] theorem placesT27x0 : placesT Try.prog 27 0 = some (0, 1) := by kernel_rfl
@[go_sem] theorem fieldT27x1 : fieldT Try.prog 27 1 = some (1, 1, 3) := by kernel_rfl
@[go_sem] theorem placesT27x1 : placesT Try.prog 27 1 = some (1, 1) := by kernel_rfl
@[go_sem] theorem fieldT27x2 : fieldT Try.prog 27 2 = some (2, 1, 22) := by kernel_rfl
@[go_sem] theorem placesT27x2 : placesT Try.prog 27 2 = some (2, 1) := by kernel_rfl
@[go_sem] theorem buildableT27 : buildableT Try.prog 27 = true := by kernel_rfl
@[go_sem] theorem zeroT27 : zeroT Try.prog 27 = some [AV.c (.int .i64 0), AV.c (.int .i64 0), AV.c (.slice none 0 0)] := by kernel_rfl
@[go_sem] theorem szT28 : szT Try.prog 28 = some 2 := by kernel_rfl
@[go_sem] theorem isAggT28 : isAggT Try.prog 28 = some true := by kernel_rfl
@[go_sem] theorem fieldT28x0 : fieldT Try.prog 28 0 = some (0, 1, 3) := by kernel_rfl
@[go_sem] theorem placesT28x0 : placesT Try.prog 28 0 = some (0, 1) := by kernel_rfl
@[go_sem] theorem fieldT28x1 : fieldT Try.prog 28 1 = some (1, 1, 3) := by kernel_rfl
@[go_sem] theorem placesT28x1 : placesT Try.prog 28 1 = some (1, 1) := by kernel_rfl
@[go_sem] theorem buildableT28 : buildableT Try.prog 28 = true := by kernel_rfl
@[go_sem] theorem zeroT28 : zeroT Try.prog 28 = some [AV.c (.int .i64 0), AV.c (.int .i64 0)] := by kernel_rfl
@[go_sem] theorem szT29 : szT Try.prog 29 = some 2 := by kernel_rfl
@[go_sem] theorem isAggT29 : isAggT Try.prog 29 = some true := by kernel_rfl
@[go_sem] theorem fieldT29x0 : fieldT Try.prog 29 0 = some (0, 1, 3) := by kernel_rfl
@[go_sem] theorem placesT29x0 : placesT Try.prog 29 0 = some (0, 1) := by kernel_rfl
@[go_sem] theorem fieldT29x1 : fieldT Try.prog 29 1 = some (1, 1, 3) := by kernel_rfl
@[go_sem] theorem placesT29x1 : placesT Try.prog 29 1 = some (1, 1) := by kernel_rfl
@[go_sem] theorem buildableT29 : buildableT Try.prog 29 = true := by kernel_rfl
@[go_sem] theorem zeroT29 : zeroT Try.prog 29 = some [AV.c (.int .i64 0), AV.c (.int .i64 0)] := by kernel_rfl
@[go_sem] theorem szT30 : szT Try.prog 30 = some 1 := by kernel_rfl
@[go_sem] theorem isAggT30 : isAggT Try.prog 30 = some false := by kernel_rfl
@[go_sem] theorem szT31 : szT Try.prog 31 = some 1 := by kernel_rfl
@[go_sem] theorem isAggT31 : isAggT Try.prog 31 = some false := by kernel_rfl
@[go_sem] theorem szT32 : szT Try.prog 32 = some 1 := by kernel_rfl
@[go_sem] theorem isAggT32 : isAggT Try.prog 32 = some false := by kernel_rfl
@[go_sem] theorem sliceT32 : sliceT Try.prog 32 = some (27, 3) := by kernel_rfl
@[go_sem] theorem zeroT32 : zeroT Try.prog 32 = some [AV.c (.slice none 0 0)] := by kernel_rfl
@[go_sem] theorem szT33 : szT Try.prog 33 = some 1 := by kernel_rfl
@[go_sem] theorem isAggT33 : isAggT Try.prog 33 = some false := by kernel_rfl
@[go_sem] theorem szT34 : szT Try.prog 34 = some 1 := by kernel_rfl
@[go_sem] theorem isAggT34 : isAggT Try.prog 34 = some false := by kernel_rfl
@[go_sem] theorem intT34 : intT Try.prog 34 = some .i64 := by kernel_rfl
@[go_sem] theorem zeroT34 : zeroT Try.prog 34 = some [AV.c (.int .i64 0)] := by kernel_rfl
@[go_sem] theorem szT36 : szT Try.prog 36 = some 1 := by kernel_rfl
@[go_sem] theorem isAggT36 : isAggT Try.prog 36 = some false := by kernel_rfl
@[go_sem] theorem szT38 : szT Try.prog 38 = some 1 := by kernel_rfl
@[go_sem] theorem isAggT38 : isAggT Try.prog 38 = some false := by kernel_rfl
@[go_sem] theorem szT40 : szT Try.prog 40 = some 1 := by kernel_rfl
@[go_sem] theorem isAggT40 : isAggT Try.prog 40 = some false := by kernel_rfl
@[go_sem] theorem szT42 : szT Try.prog 42 = some 1 := by kernel_rfl
@[go_sem] theorem isAggT42 : isAggT Try.prog 42 = some false := by kernel_rfl
@[go_sem] theorem szT43 : szT Try.prog 43 = some 1 := by kernel_rfl
@[go_sem] theorem isAggT43 : isAggT Try.prog 43 = some false := by kernel_rfl
@[go_sem] theorem szT44 : szT Try.prog 44 = some 1 := by kernel_rfl
@[go_sem] theorem isAggT44 : isAggT Try.prog 44 = some false := by kernel_rfl
@[go_sem] theorem szT45 : szT Try.prog 45 = some 1 := by kernel_rfl
@[go_sem] theorem isAggT45 : isAggT Try.prog 45 = some false := by kernel_rfl
@[go_sem] theorem szT46 : szT Try.prog 46 = some 1 := by kernel_rfl
@[go_sem] theorem isAggT46 : isAggT Try.prog 46 = some false := by kernel_rfl
@[go_sem] theorem sliceT46 : sliceT Try.prog 46 = some (3, 1) := by kernel_rfl
@[go_sem] theorem zeroT46 : zeroT Try.prog 46 = some [AV.c (.slice none 0 0)] := by kernel_rfl
@[go_sem] theorem szT48 : szT Try.prog 48 = some 1 := by kernel_rfl
@[go_sem] theorem isAggT48 : isAggT Try.prog 48 = some false := by kernel_rfl
@[go_sem] theorem szT50 : szT Try.prog 50 = some 1 := by kernel_rfl
@[go_sem] theorem isAggT50 : isAggT Try.prog 50 = some false := by kernel_rfl
@[go_sem] theorem szT52 : szT Try.prog 52 = some 1 := by kernel_rfl
@[go_sem] theorem isAggT52 : isAggT Try.prog 52 = some false := by kernel_rfl
@[go_sem] theorem szT53 : szT Try.prog 53 = some 1 := by kernel_rfl
@[go_sem] theorem isAggT53 : isAggT Try.prog 53 = some false := by kernel_rfl
@[go_sem] theorem szT54 : szT Try.prog 54 = some 1 := by kernel_rfl
@[go_sem] theorem isAggT54 : isAggT Try.prog 54 = some false := by kernel_rfl
@[go_sem] theorem szT55 : szT Try.prog 55 = some 2 := by kernel_rfl
@[go_sem] theorem isAggT55 : isAggT Try.prog 55 = some true := by kernel_rfl
@[go_sem] theorem fieldT55x0 : fieldT Try.prog 55 0 = some (0, 1, 3) := by kernel_rfl
@[go_sem] theorem placesT55x0 : placesT Try.prog 55 0 = some (0, 1) := by kernel_rfl
@[go_sem] theorem fieldT55x1 : fieldT Try.prog 55 1 = some (1, 1, 46) := by kernel_rfl
@[go_sem] theorem placesT55x1 : placesT Try.prog 55 1 = some (1, 1) := by kernel_rfl
@[go_sem] theorem buildableT55 : buildableT Try.prog 55 = true := by kernel_rfl
@[go_sem] theorem zeroT55 : zeroT Try.prog 55 = some [AV.c (.int .i64 0), AV.c (.slice none 0 0)] := by kernel_rfl
@[go_sem] theorem szT56 : szT Try.prog 56 = some 2 := by kernel_rfl
@[go_sem] theorem isAggT56 : isAggT Try.prog 56 = some true := by kernel_rfl
@[go_sem] theorem fieldT56x0 : fieldT Try.prog 56 0 = some (0, 1, 3) := by kernel_rfl
@[go_sem] theorem placesT56x0 : placesT Try.prog 56 0 = some (0, 1) := by kernel_rfl
@[go_sem] theorem fieldT56x1 : fieldT Try.prog 56 1 = some (1, 1, 46) := by kernel_rfl
@[go_sem] theorem placesT56x1 : placesT Try.prog 56 1 = some (1, 1) := by kernel_rfl
@[go_sem] theorem buildableT56 : buildableT Try.prog 56 = true := by kernel_rfl
@[go_sem] theorem zeroT56 : zeroT Try.prog 56 = some [AV.c (.int .i64 0), AV.c (.slice none 0 0)] := by kernel_rfl
@[go_sem] theorem szT58 : szT Try.prog 58 = some 1 := by kernel_rfl
@[go_sem] theorem isAggT58 : isAggT Try.prog 58 = some false := by kernel_rfl
@[go_sem] theorem szT60 : szT Try.prog 60 = some 1 := by kernel_rfl
@[go_sem] theorem isAggT60 : isAggT Try.prog 60 = some false := by kernel_rfl
@[go_sem] theorem szT61 : szT Try.prog 61 = some 1 := by kernel_rfl
@[go_sem] theorem isAggT61 : isAggT Try.prog 61 = some false := by kernel_rfl
@[go_sem] theorem szT62 : szT Try.prog 62 = some 1 := by kernel_rfl
@[go_sem] theorem isAggT62 : isAggT Try.prog 62 = some false := by kernel_rfl
@[go_sem] theorem intT62 : intT Try.prog 62 = some .u16 := by kernel_rfl
@[go_sem] theorem zeroT62 : zeroT Try.prog 62 = some [AV.c (.int .u16 0)] := by kernel_rfl
@[go_sem] theorem szT63 : szT Try.prog 63 = some 1 := by kernel_rfl
@[go_sem] theorem isAggT63 : isAggT Try.prog 63 = some false := by kernel_rfl
@[go_sem] theorem szT64 : szT Try.prog 64 = some 8 := by kernel_rfl
@[go_sem] theorem isAggT64 : isAggT Try.prog 64 = some true := by kernel_rfl
@[go_sem] theorem arrT64 : arrT Try.prog 64 = some (8, 5, 1) := by kernel_rfl
@[go_sem] theorem placesT64 : placesT Try.prog 64 = fun i => some (i * 1, 1) := by kernel_rfl
@[go_sem] theorem buildableT64 : buildableT Try.prog 64 = true := by kernel_rfl
@[go_sem] theorem szT65 : szT Try.prog 65 = some 8 := by kernel_rfl
@[go_sem] theorem isAggT65 : isAggT Try.prog 65 = some true := by kernel_rfl
@[go_sem] theorem arrT65 : arrT Try.prog 65 = some (8, 5, 1) := by kernel_rfl
@[go_sem] theorem placesT65 : placesT Try.prog 65 = fun i => some (i * 1, 1) := by kernel_rfl
@[go_sem] theorem buildableT65 : buildableT Try.prog 65 = true := by kernel_rfl
@[go_sem] theorem szT66 : szT Try.prog 66 = some 9 := by kernel_rfl
@[go_sem] theorem isAggT66 : isAggT Try.prog 66 = some true := by kernel_rfl
@[go_sem] theorem fieldT66x0 : fieldT Try.prog 66 0 = some (0, 1, 3) := by kernel_rfl
@[go_sem] theorem placesT66x0 : placesT Try.prog 66 0 = some (0, 1) := by kernel_rfl
@[go_sem] theorem fieldT66x1 : fieldT Try.prog 66 1 = some (1, 8, 65) := by kernel_rfl
@[go_sem] theorem placesT66x1 : placesT Try.prog 66 1 = some (1, 8) := by kernel_rfl
@[go_sem] theorem buildableT66 : buildableT Try.prog 66 = true := by kernel_rfl
@[go_sem] theorem szT67 : szT Try.prog 67 = some 9 := by kernel_rfl
@[go_sem] theorem isAggT67 : isAggT Try.prog 67 = some true := by kernel_rfl
@[go_sem] theorem fieldT67x0 : fieldT Try.prog 67 0 = some (0, 1, 3) := by kernel_rfl
@[go_sem] theorem placesT67x0 : placesT Try.prog 67 0 = some (0, 1) := by kernel_rfl
@[go_sem] theorem fieldT67x1 : fieldT Try.prog 67 1 = some (1, 8, 65) := by kernel_rfl
@[go_sem] theorem placesT67x1 : placesT Try.prog 67 1 = some (1, 8) := by kernel_rfl
@[go_sem] theorem buildableT67 : buildableT Try.prog 67 = true := by kernel_rfl
@[go_sem] theorem szT68 : szT Try.prog 68 = some 1 := by kernel_rfl
@[go_sem] theorem isAggT68 : isAggT Try.prog 68 = some false := by kernel_rfl
@[go_sem] theorem mapT68 : mapT Try.prog 68 = some (3, 4, .int .i64) := by kernel_rfl
@[go_sem] theorem zeroT68 : zeroT Try.prog 68 = some [AV.c (.map none)] := by kernel_rfl
@[go_sem] theorem szT69 : szT Try.prog 69 = some 1 := by kernel_rfl
@[go_sem] theorem isAggT69 : isAggT Try.prog 69 = some false := by kernel_rfl
@[go_sem] theorem szT70 : szT Try.prog 70 = some 1 := by kernel_rfl
@[go_sem] theorem isAggT70 : isAggT Try.prog 70 = some false := by kernel_rfl
@[go_sem] theorem szT71 : szT Try.prog 71 = some 1 := by kernel_rfl
@[go_sem] theorem isAggT71 : isAggT Try.prog 71 = some false := by kernel_rfl
@[go_sem] theorem szT72 : szT Try.prog 72 = some 1 := by kernel_rfl
@[go_sem] theorem isAggT72 : isAggT Try.prog 72 = some false := by kernel_rfl
@[go_sem] theorem sliceT72 : sliceT Try.prog 72 = some (29, 2) := by kernel_rfl
@[go_sem] theorem zeroT72 : zeroT Try.prog 72 = some [AV.c (.slice none 0 0)] := by kernel_rfl
@[go_sem] theorem szT73 : szT Try.prog 73 = some 1 := by kernel_rfl
@[go_sem] theorem isAggT73 : isAggT Try.prog 73 = some false := by kernel_rfl
@[go_sem] theorem szT74 : szT Try.prog 74 = some 1 := by kernel_rfl
@[go_sem] theorem isAggT74 : isAggT Try.prog 74 = some false := by kernel_rfl
@[go_sem] theorem szT75 : szT Try.prog 75 = some 1 := by kernel_rfl
@[go_sem] theorem isAggT75 : isAggT Try.prog 75 = some false := by kernel_rfl
@[go_sem] theorem szT76 : szT Try.prog 76 = some 1 := by kernel_rfl
@[go_sem] theorem isAggT76 : isAggT Try.prog 76 = some false := by kernel_rfl
@[go_sem] theorem szT77 : szT Try.prog 77 = some 1 := by kernel_rfl
@[go_sem] theorem isAggT77 : isAggT Try.prog 77 = some false := by kernel_rfl
@[go_sem] theorem szT78 : szT Try.prog 78 = some 1 := by kernel_rfl
@[go_sem] theorem isAggT78 : isAggT Try.prog 78 = some false := by kernel_rfl
@[go_sem] theorem szT79 : szT Try.prog 79 = some 1 := by kernel_rfl
@[go_sem] theorem isAggT79 : isAggT Try.prog 79 = some false := by kernel_rfl
@[go_sem] theorem szT80 : szT Try.prog 80 = some 1 := by kernel_rfl
@[go_sem] theorem isAggT80 : isAggT Try.prog 80 = some false := by kernel_rfl
@[go_sem] theorem szT81 : szT Try.prog 81 = some 1 := by kernel_rfl
@[go_sem] theorem isAggT81 : isAggT Try.prog 81 = some false := by kernel_rfl
@[go_sem] theorem szT82 : szT Try.prog 82 = some 1 := by kernel_rfl
@[go_sem] theorem isAggT82 : isAggT Try.prog 82 = some false := by kernel_rfl
@[go_sem] theorem szT83 : szT Try.prog 83 = some 1 := by kernel_rfl
@[go_sem] theorem isAggT83 : isAggT Try.prog 83 = some false := by kernel_rfl
@[go_sem] theorem szT84 : szT Try.prog 84 = some 1 := by kernel_rfl
@[go_sem] theorem isAggT84 : isAggT Try.prog 84 = some false := by kernel_rfl
@[go_sem] theorem szT85 : szT Try.prog 85 = some 1 := by kernel_rfl
@[go_sem] theorem isAggT85 : isAggT Try.prog 85 = some false := by kernel_rfl
@[go_sem] theorem szT86 : szT Try.prog 86 = some 1 := by kernel_rfl
@[go_sem] theorem isAggT86 : isAggT Try.prog 86 = some false := by kernel_rfl
@[go_sem] theorem szT87 : szT Try.prog 87 = some 1 := by kernel_rfl
@[go_sem] theorem isAggT87 : isAggT Try.prog 87 = some false := by kernel_rfl
@[go_sem] theorem szT88 : szT Try.prog 88 = some 1 := by kernel_rfl
@[go_sem] theorem isAggT88 : isAggT Try.prog 88 = some false := by kernel_rfl
@[go_sem] theorem szT89 : szT Try.prog 89 = some 1 := by kernel_rfl
@[go_sem] theorem isAggT89 : isAggT Try.prog 89 = some false := by kernel_rfl
@[go_sem] theorem zeroT89 : zeroT Try.prog 89 = some [AV.c (.pointer none)] := by kernel_rfl
@[go_sem] theorem szT90 : szT Try.prog 90 = some 2 := by kernel_rfl
@[go_sem] theorem isAggT90 : isAggT Try.prog 90 = some true := by kernel_rfl
@[go_sem] theorem fieldT90x0 : fieldT Try.prog 90 0 = some (0, 2, 25) := by kernel_rfl
@[go_sem] theorem placesT90x0 : placesT Try.prog 90 0 = some (0, 2) := by kernel_rfl
@[go_sem] theorem buildableT90 : buildableT Try.prog 90 = true := by kernel_rfl
@[go_sem] theorem zeroT90 : zeroT Try.prog 90 = some [AV.c (.slice none 0 0), AV.c (.slice none 0 0)] := by kernel_rfl
@[go_sem] theorem szT91 : szT Try.prog 91 = some 2 := by kernel_rfl
@[go_sem] theorem isAggT91 : isAggT Try.prog 91 = some true := by kernel_rfl
@[go_sem] theorem fieldT91x0 : fieldT Try.prog 91 0 = some (0, 2, 25) := by kernel_rfl
@[go_sem] theorem placesT91x0 : placesT Try.prog 91 0 = some (0, 2) := by kernel_rfl
@[go_sem] theorem buildableT91 : buildableT Try.prog 91 = true := by kernel_rfl
@[go_sem] theorem zeroT91 : zeroT Try.prog 91 = some [AV.c (.slice none 0 0), AV.c (.slice none 0 0)] := by kernel_rfl
@[go_sem] theorem szT93 : szT Try.prog 93 = some 1 := by kernel_rfl
@[go_sem] theorem isAggT93 : isAggT Try.prog 93 = some false := by kernel_rfl
@[go_sem] theorem szT94 : szT Try.prog 94 = some 1 := by kernel_rfl
@[go_sem] theorem isAggT94 : isAggT Try.prog 94 = some false := by kernel_rfl
@[go_sem] theorem mapT94 : mapT Try.prog 94 = some (3, 22, .int .i64) := by kernel_rfl
@[go_sem] theorem zeroT94 : zeroT Try.prog 94 = some [AV.c (.map none)] := by kernel_rfl
@[go_sem] theorem szT95 : szT Try.prog 95 = some 1 := by kernel_rfl
@[go_sem] theorem isAggT95 : isAggT Try.prog 95 = some false := by kernel_rfl
@[go_sem] theorem szT96 : szT Try.prog 96 = some 1 := by kernel_rfl
@[go_sem] theorem isAggT96 : isAggT Try.prog 96 = some false := by kernel_rfl
@[go_sem] theorem szT97 : szT Try.prog 97 = some 1 := by kernel_rfl
@[go_sem] theorem isAggT97 : isAggT Try.prog 97 = some false := by kernel_rfl
@[go_sem] theorem szT98 : szT Try.prog 98 = some 1 := by kernel_rfl
@[go_sem] theorem isAggT98 : isAggT Try.prog 98 = some false := by kernel_rfl
@[go_sem] theorem szT99 : szT Try.prog 99 = some 1 := by kernel_rfl
@[go_sem] theorem isAggT99 : isAggT Try.prog 99 = some false := by kernel_rfl
@[go_sem] theorem szT101 : szT Try.prog 101 = some 1 := by kernel_rfl
@[go_sem] theorem isAggT101 : isAggT Try.prog 101 = some false := by kernel_rfl
@[go_sem] theorem szT102 : szT Try.prog 102 = some 1 := by kernel_rfl
@[go_sem] theorem isAggT102 : isAggT Try.prog 102 = some false := by kernel_rfl
@[go_sem] theorem szT103 : szT Try.prog 103 = some 1 := by kernel_rfl
@[go_sem] theorem isAggT103 : isAggT Try.prog 103 = some false := by kernel_rfl
@[go_sem] theorem szT105 : szT Try.prog 105 = some 1 := by kernel_rfl
@[go_sem] theorem isAggT105 : isAggT Try.prog 105 = some false := by kernel_rfl
@[go_sem] theorem szT106 : szT Try.prog 106 = some 1 := by kernel_rfl
@[go_sem] theorem isAggT106 : isAggT Try.prog 106 = some false := by kernel_rfl
@[go_sem] theorem szT107 : szT Try.prog 107 = some 1 := by kernel_rfl
@[go_sem] theorem isAggT107 : isAggT Try.prog 107 = some false := by kernel_rfl
@[go_sem] theorem szT108 : szT Try.prog 108 = some 1 := by kernel_rfl
@[go_sem] theorem isAggT108 : isAggT Try.prog 108 = some false := by kernel_rfl
@[go_sem] theorem szT110 : szT Try.prog 110 = some 1 := by kernel_rfl
@[go_sem] theorem isAggT110 : isAggT Try.prog 110 = some false := by kernel_rfl
@[go_sem] theorem szT111 : szT Try.prog 111 = some 1 := by kernel_rfl
@[go_sem] theorem isAggT111 : isAggT Try.prog 111 = some false := by kernel_rfl
@[go_sem] theorem sliceT111 : sliceT Try.prog 111 = some (4, 1) := by kernel_rfl
@[go_sem] theorem zeroT111 : zeroT Try.prog 111 = some [AV.c (.slice none 0 0)] := by kernel_rfl
@[go_sem] theorem szT112 : szT Try.prog 112 = some 1 := by kernel_rfl
@[go_sem] theorem isAggT112 : isAggT Try.prog 112 = some false := by kernel_rfl
@[go_sem] theorem szT113 : szT Try.prog 113 = some 1 := by kernel_rfl
@[go_sem] theorem isAggT113 : isAggT Try.prog 113 = some false := by kernel_rfl
@[go_sem] theorem szT114 : szT Try.prog 114 = some 1 := by kernel_rfl
@[go_sem] theorem isAggT114 : isAggT Try.prog 114 = some false := by kernel_rfl
@[go_sem] theorem szT115 : szT Try.prog 115 = some 2 := by kernel_rfl
@[go_sem] theorem isAggT115 : isAggT Try.prog 115 = some true := by kernel_rfl
@[go_sem] theorem arrT115 : arrT Try.prog 115 = some (2, 114, 1) := by kernel_rfl
@[go_sem] theorem placesT115 : placesT Try.prog 115 = fun i => some (i * 1, 1) := by kernel_rfl
@[go_sem] theorem buildableT115 : buildableT Try.prog 115 = true := by kernel_rfl
@[go_sem] theorem zeroT115 : zeroT Try.prog 115 = some [AV.c .nilFunc, AV.c .nilFunc] := by kernel_rfl
@[go_sem] theorem szT116 : szT Try.prog 116 = some 1 := by kernel_rfl
@[go_sem] theorem isAggT116 : isAggT Try.prog 116 = some false := by kernel_rfl
@[go_sem] theorem szT117 : szT Try.prog 117 = some 1 := by kernel_rfl
@[go_sem] theorem isAggT117 : isAggT Try.prog 117 = some false := by kernel_rfl
@[go_sem] theorem szT118 : szT Try.prog 118 = some 1 := by kernel_rfl
@[go_sem] theorem isAggT118 : isAggT Try.prog 118 = some false := by kernel_rfl
@[go_sem] theorem szT119 : szT Try.prog 119 = some 1 := by kernel_rfl
@[go_sem] theorem isAggT119 : isAggT Try.prog 119 = some false := by kernel_rfl
@[go_sem] theorem szT120 : szT Try.prog 120 = some 1 := by kernel_rfl
@[go_sem] theorem isAggT120 : isAggT Try.prog 120 = some false := by kernel_rfl
@[go_sem] theorem szT121 : szT Try.prog 121 = some 1 := by kernel_rfl
@[go_sem] theorem isAggT121 : isAggT Try.prog 121 = some false := by kernel_rfl
@[go_sem] theorem szT122 : szT Try.prog 122 = some 1 := by kernel_rfl
@[go_sem] theorem isAggT122 : isAggT Try.prog 122 = some false := by kernel_rfl
@[go_sem] theorem szT123 : szT Try.prog 123 = some 1 := by kernel_rfl
@[go_sem] theorem isAggT123 : isAggT Try.prog 123 = some false := by kernel_rfl
@[go_sem] theorem szT124 : szT Try.prog 124 = some 1 := by kernel_rfl
@[go_sem] theorem isAggT124 : isAggT Try.prog 124 = some false := by kernel_rfl
@[go_sem] theorem intT124 : intT Try.prog 124 = some .u64 := by kernel_rfl
@[go_sem] theorem zeroT124 : zeroT Try.prog 124 = some [AV.c (.int .u64 0)] := by kernel_rfl
@[go_sem] theorem szT125 : szT Try.prog 125 = some 1 := by kernel_rfl
@[go_sem] theorem isAggT125 : isAggT Try.prog 125 = some false := by kernel_rfl
@[go_sem] theorem szT126 : szT Try.prog 126 = some 1 := by kernel_rfl
@[go_sem] theorem isAggT126 : isAggT Try.prog 126 = some false := by kernel_rfl
@[go_sem] theorem szT127 : szT Try.prog 127 = some 1 := by kernel_rfl
@[go_sem] theorem isAggT127 : isAggT Try.prog 127 = some false := by kernel_rfl
@[go_sem] theorem szT128 : szT Try.prog 128 = some 1 := by kernel_rfl
@[go_sem] theorem isAggT128 : isAggT Try.prog 128 = some false := by kernel_rfl
@[go_sem] theorem szT129 : szT Try.prog 129 = some 1 := by kernel_rfl
@[go_sem] theorem isAggT129 : isAggT Try.prog 129 = some false := by kernel_rfl
@[go_sem] theorem szT130 : szT Try.prog 130 = some 1 := by kernel_rfl
@[go_sem] theorem isAggT130 : isAggT Try.prog 130 = some false := by kernel_rfl
@[go_sem] theorem szT131 : szT Try.prog 131 = some 1 := by kernel_rfl
@[go_sem] theorem isAggT131 : isAggT Try.prog 131 = some false := by kernel_rfl
@[go_sem] theorem intT131 : intT Try.prog 131 = some .i64 := by kernel_rfl
@[go_sem] theorem zeroT131 : zeroT Try.prog 131 = some [AV.c (.int .i64 0)] := by kernel_rfl
@[go_sem] theorem szT133 : szT Try.prog 133 = some 1 := by kernel_rfl
@[go_sem] theorem isAggT133 : isAggT Try.prog 133 = some false := by kernel_rfl
@[go_sem] theorem szT134 : szT Try.prog 134 = some 1 := by kernel_rfl
@[go_sem] theorem isAggT134 : isAggT Try.prog 134 = some false := by kernel_rfl
@[go_sem] theorem szT135 : szT Try.prog 135 = some 1 := by kernel_rfl
@[go_sem] theorem isAggT135 : isAggT Try.prog 135 = some false := by kernel_rfl
@[go_sem] theorem szT136 : szT Try.prog 136 = some 1 := by kernel_rfl
@[go_sem] theorem isAggT136 : isAggT Try.prog 136 = some false := by kernel_rfl
@[go_sem] theorem szT138 : szT Try.prog 138 = some 1 := by kernel_rfl
@[go_sem] theorem isAggT138 : isAggT Try.prog 138 = some false := by kernel_rfl
@[go_sem] theorem szT139 : szT Try.prog 139 = some 1 := by kernel_rfl
@[go_sem] theorem isAggT139 : isAggT Try.prog 139 = some false := by kernel_rfl
@[go_sem] theorem szT140 : szT Try.prog 140 = some 1 := by kernel_rfl
@[go_sem] theorem isAggT140 : isAggT Try.prog 140 = some false := by kernel_rfl
@[go_sem] theorem intT140 : intT Try.prog 140 = some .u32 := by kernel_rfl
@[go_sem] theorem zeroT140 : zeroT Try.prog 140 = some [AV.c (.int .u32 0)] := by kernel_rfl
@[go_sem] theorem szT141 : szT Try.prog 141 = some 1 := by kernel_rfl
@[go_sem] theorem isAggT141 : isAggT Try.prog 141 = some false := by kernel_rfl
@[go_sem] theorem szT142 : szT Try.prog 142 = some 1 := by kernel_rfl
@[go_sem] theorem isAggT142 : isAggT Try.prog 142 = some false := by kernel_rfl
@[go_sem] theorem intT142 : intT Try.prog 142 = some .u64 := by kernel_rfl
@[go_sem] theorem zeroT142 : zeroT Try.prog 142 = some [AV.c (.int .u64 0)] := by kernel_rfl
@[go_sem] theorem szT143 : szT Try.prog 143 = some 1 := by kernel_rfl
@[go_sem] theorem isAggT143 : isAggT Try.prog 143 = some false := by kernel_rfl
@[go_sem] theorem szT144 : szT Try.prog 144 = some 1 := by kernel_rfl
@[go_sem] theorem isAggT144 : isAggT Try.prog 144 = some false := by kernel_rfl
@[go_sem] theorem sliceT144 : sliceT Try.prog 144 = some (148, 3) := by kernel_rfl
@[go_sem] theorem zeroT144 : zeroT Try.prog 144 = some [AV.c (.slice none 0 0)] := by kernel_rfl
@[go_sem] theorem szT145 : szT Try.prog 145 = some 1 := by kernel_rfl
@[go_sem] theorem isAggT145 : isAggT Try.prog 145 = some false := by kernel_rfl
@[go_sem] theorem szT146 : szT Try.prog 146 = some 2 := by kernel_rfl
@[go_sem] theorem isAggT146 : isAggT Try.prog 146 = some true := by kernel_rfl
@[go_sem] theorem arrT146 : arrT Try.prog 146 = some (2, 3, 1) := by kernel_rfl
@[go_sem] theorem placesT146 : placesT Try.prog 146 = fun i => some (i * 1, 1) := by kernel_rfl
@[go_sem] theorem buildableT146 : buildableT Try.prog 146 = true := by kernel_rfl
@[go_sem] theorem zeroT146 : zeroT Try.prog 146 = some [AV.c (.int .i64 0), AV.c (.int .i64 0)] := by kernel_rfl
@[go_sem] theorem szT147 : szT Try.prog 147 = some 3 := by kernel_rfl
@[go_sem] theorem isAggT147 : isAggT Try.prog 147 = some true := by kernel_rfl
@[go_sem] theorem fieldT147x0 : fieldT Try.prog 147 0 = some (0, 1, 3) := by kernel_rfl
@[go_sem] theorem placesT147x0 : placesT Try.prog 147 0 = some (0, 1) := by kernel_rfl
@[go_sem] theorem fieldT147x1 : fieldT Try.prog 147 1 = some (1, 1, 3) := by kernel_rfl
@[go_sem] theorem placesT147x1 : placesT Try.prog 147 1 = some (1, 1) := by kernel_rfl
@[go_sem] theorem fieldT147x2 : fieldT Try.prog 147 2 = some (2, 1, 3) := by kernel_rfl
@[go_sem] theorem placesT147x2 : placesT Try.prog 147 2 = some (2, 1) := by kernel_rfl
@[go_sem] theorem buildableT147 : buildableT Try.prog 147 = true := by kernel_rfl
@[go_sem] theorem zeroT147 : zeroT Try.prog 147 = some [AV.c (.int .i64 0), AV.c (.int .i64 0), AV.c (.int .i64 0)] := by kernel_rfl
@[go_sem] theorem szT148 : szT Try.prog 148 = some 3 := by kernel_rfl
@[go_sem] theorem isAggT148 : isAggT Try.prog 148 = some true := by kernel_rfl
@[go_sem] theorem fieldT148x0 : fieldT Try.prog 148 0 = some (0, 1, 3) := by kernel_rfl
@[go_sem] theorem placesT148x0 : placesT Try.prog 148 0 = some (0, 1) := by kernel_rfl
@[go_sem] theorem fieldT148x1 : fieldT Try.prog 148 1 = some (1, 1, 3) := by kernel_rfl
@[go_sem] theorem placesT148x1 : placesT Try.prog 148 1 = some (1, 1) := by kernel_rfl
@[go_sem] theorem fieldT148x2 : fieldT Try.prog 148 2 = some (2, 1, 3) := by kernel_rfl
@[go_sem] theorem placesT148x2 : placesT Try.prog 148 2 = some (2, 1) := by kernel_rfl
@[go_sem] theorem buildableT148 : buildableT Try.prog 148 = true := by kernel_rfl
@[go_sem] theorem zeroT148 : zeroT Try.prog 148 = some [AV.c (.int .i64 0), AV.c (.int .i64 0), AV.c (.int .i64 0)] := by kernel_rfl
@[go_sem] theorem szT149 : szT Try.prog 149 = some 1 := by kernel_rfl
@[go_sem] theorem isAggT149 : isAggT Try.prog 149 = some false := by kernel_rfl
@[go_sem] theorem intT149 : intT Try.prog 149 = some .u64 := by kernel_rfl
@[go_sem] theorem zeroT149 : zeroT Try.prog 149 = some [AV.c (.int .u64 0)] := by kernel_rfl
@[go_sem] theorem szT150 : szT Try.prog 150 = some 1 := by kernel_rfl
@[go_sem] theorem isAggT150 : isAggT Try.prog 150 = some false := by kernel_rfl
@[go_sem] theorem szT151 : szT Try.prog 151 = some 1 := by kernel_rfl
@[go_sem] theorem isAggT151 : isAggT Try.prog 151 = some false := by kernel_rfl
@[go_sem] theorem szT152 : szT Try.prog 152 = some 1 := by kernel_rfl
@[go_sem] theorem isAggT152 : isAggT Try.prog 152 = some false := by kernel_rfl
@[go_sem] theorem szT153 : szT Try.prog 153 = some 1 := by kernel_rfl
@[go_sem] theorem isAggT153 : isAggT Try.prog 153 = some false := by kernel_rfl
@[go_sem] theorem zeroT153 : zeroT Try.prog 153 = some [AV.c (.pointer none)] := by kernel_rfl
@[go_sem] theorem szT154 : szT Try.prog 154 = some 1 := by kernel_rfl
@[go_sem] theorem isAggT154 : isAggT Try.prog 154 = some false := by kernel_rfl
@[go_sem] theorem szT155 : szT Try.prog 155 = some 1 := by kernel_rfl
@[go_sem] theorem isAggT155 : isAggT Try.prog 155 = some false := by kernel_rfl
@[go_sem] theorem sliceT155 : sliceT Try.prog 155 = some (72, 1) := by kernel_rfl
@[go_sem] theorem zeroT155 : zeroT Try.prog 155 = some [AV.c (.slice none 0 0)] := by kernel_rfl
@[go_sem] theorem szT156 : szT Try.prog 156 = some 1 := by kernel_rfl
@[go_sem] theorem isAggT156 : isAggT Try.prog 156 = some false := by kernel_rfl
@[go_sem] theorem szT157 : szT Try.prog 157 = some 1 := by kernel_rfl
@[go_sem] theorem isAggT157 : isAggT Try.prog 157 = some false := by kernel_rfl
@[go_sem] theorem szT158 : szT Try.prog 158 = some 1 := by kernel_rfl
@[go_sem] theorem isAggT158 : isAggT Try.prog 158 = some false := by kernel_rfl
@[go_sem] theorem szT159 : szT Try.prog 159 = some 1 := by kernel_rfl
@[go_sem] theorem isAggT159 : isAggT Try.prog 159 = some false := by kernel_rfl
@[go_sem] theorem zeroT159 : zeroT Try.prog 159 = some [AV.c (.pointer none)] := by kernel_rfl
@[go_sem] theorem szT161 : szT Try.prog 161 = some 1 := by kernel_rfl
@[go_sem] theorem isAggT161 : isAggT Try.prog 161 = some false := by kernel_rfl
@[go_sem] theorem szT162 : szT Try.prog 162 = some 1 := by kernel_rfl
@[go_sem] theorem isAggT162 : isAggT Try.prog 162 = some false := by kernel_rfl
@[go_sem] theorem szT163 : szT Try.prog 163 = some 1 := by kernel_rfl
@[go_sem] theorem isAggT163 : isAggT Try.prog 163 = some false := by kernel_rfl
@[go_sem] theorem szT164 : szT Try.prog 164 = some 1 := by kernel_rfl
@[go_sem] theorem isAggT164 : isAggT Try.prog 164 = some false := by kernel_rfl
@[go_sem] theorem szT165 : szT Try.prog 165 = some 1 := by kernel_rfl
@[go_sem] theorem isAggT165 : isAggT Try.prog 165 = some false := by kernel_rfl
@[go_sem] theorem szT166 : szT Try.prog 166 = some 1 := by kernel_rfl
@[go_sem] theorem isAggT166 : isAggT Try.prog 166 = some false := by kernel_rfl
@[go_sem] theorem szT167 : szT Try.prog 167 = some 1 := by kernel_rfl
@[go_sem] theorem isAggT167 : isAggT Try.prog 167 = some false := by kernel_rfl
@[go_sem] theorem szT168 : szT Try.prog 168 = some 1 := by kernel_rfl
@[go_sem] theorem isAggT168 : isAggT Try.prog 168 = some false := by kernel_rfl
@[go_sem] theorem szT169 : szT Try.prog 169 = some 1 := by kernel_rfl
@[go_sem] theorem isAggT169 : isAggT Try.prog 169 = some false := by kernel_rfl
@[go_sem] theorem szT170 : szT Try.prog 170 = some 1 := by kernel_rfl
@[go_sem] theorem isAggT170 : isAggT Try.prog 170 = some false := by kernel_rfl
@[go_sem] theorem szT171 : szT Try.prog 171 = some 1 := by kernel_rfl
@[go_sem] theorem isAggT171 : isAggT Try.prog 171 = some false := by kernel_rfl
@[go_sem] theorem szT172 : szT Try.prog 172 = some 4 := by kernel_rfl
@[go_sem] theorem isAggT172 : isAggT Try.prog 172 = some true := by kernel_rfl
@[go_sem] theorem fieldT172x0 : fieldT Try.prog 172 0 = some (0, 1, 17) := by kernel_rfl
@[go_sem] theorem placesT172x0 : placesT Try.prog 172 0 = some (0, 1) := by kernel_rfl
@[go_sem] theorem fieldT172x1 : fieldT Try.prog 172 1 = some (1, 1, 17) := by kernel_rfl
@[go_sem] theorem placesT172x1 : placesT Try.prog 172 1 = some (1, 1) := by kernel_rfl
@[go_sem] theorem fieldT172x2 : fieldT Try.prog 172 2 = some (2, 1, 17) := by kernel_rfl
@[go_sem] theorem placesT172x2 : placesT Try.prog 172 2 = some (2, 1) := by kernel_rfl
@[go_sem] theorem fieldT172x3 : fieldT Try.prog 172 3 = some (3, 1, 9) := by kernel_rfl
@[go_sem] theorem placesT172x3 : placesT Try.prog 172 3 = some (3, 1) := by kernel_rfl
@[go_sem] theorem buildableT172 : buildableT Try.prog 172 = true := by kernel_rfl
@[go_sem] theorem zeroT172 : zeroT Try.prog 172 = some [AV.c (.pointer none), AV.c (.pointer none), AV.c (.pointer none), AV.c (.string ByteArray.empty)] := by kernel_rfl
@[go_sem] theorem szT173 : szT Try.prog 173 = some 4 := by kernel_rfl
@[go_sem] theorem isAggT173 : isAggT Try.prog 173 = some true := by kernel_rfl
@[go_sem] theorem fieldT173x0 : fieldT Try.prog 173 0 = some (0, 1, 17) := by kernel_rfl
@[go_sem] theorem placesT173x0 : placesT Try.prog 173 0 = some (0, 1) := by kernel_rfl
@[go_sem] theorem fieldT173x1 : fieldT Try.prog 173 1 = some (1, 1, 17) := by kernel_rfl
@[go_sem] theorem placesT173x1 : placesT Try.prog 173 1 = some (1, 1) := by kernel_rfl
@[go_sem] theorem fieldT173x2 : fieldT Try.prog 173 2 = some (2, 1, 17) := by kernel_rfl
@[go_sem] theorem placesT173x2 : placesT Try.prog 173 2 = some (2, 1) := by kernel_rfl
@[go_sem] theorem fieldT173x3 : fieldT Try.prog 173 3 = some (3, 1, 9) := by kernel_rfl
@[go_sem] theorem placesT173x3 : placesT Try.prog 173 3 = some (3, 1) := by kernel_rfl
@[go_sem] theorem buildableT173 : buildableT Try.prog 173 = true := by kernel_rfl
@[go_sem] theorem zeroT173 : zeroT Try.prog 173 = some [AV.c (.pointer none), AV.c (.pointer none), AV.c (.pointer none), AV.c (.string ByteArray.empty)] := by kernel_rfl
@[go_sem] theorem szT174 : szT Try.prog 174 = some 0 := by kernel_rfl
@[go_sem] theorem isAggT174 : isAggT Try.prog 174 = some true := by kernel_rfl
@[go_sem] theorem arrT174 : arrT Try.prog 174 = some (0, 16, 1) := by kernel_rfl
@[go_sem] theorem placesT174 : placesT Try.prog 174 = fun i => some (i * 1, 1) := by kernel_rfl
@[go_sem] theorem buildableT174 : buildableT Try.prog 174 = true := by kernel_rfl
@[go_sem] theorem zeroT174 : zeroT Try.prog 174 = some [] := by kernel_rfl
@[go_sem] theorem szT175 : szT Try.prog 175 = some 0 := by kernel_rfl
@[go_sem] theorem isAggT175 : isAggT Try.prog 175 = some true := by kernel_rfl
@[go_sem] theorem fieldT175x0 : fieldT Try.prog 175 0 = some (0, 0, 174) := by kernel_rfl
@[go_sem] theorem placesT175x0 : placesT Try.prog 175 0 = some (0, 0) := by kernel_rfl
@[go_sem] theorem buildableT175 : buildableT Try.prog 175 = true := by kernel_rfl
@[go_sem] theorem zeroT175 : zeroT Try.prog 175 = some [] := by kernel_rfl
@[go_sem] theorem szT176 : szT Try.prog 176 = some 0 := by kernel_rfl
@[go_sem] theorem isAggT176 : isAggT Try.prog 176 = some true := by kernel_rfl
@[go_sem] theorem fieldT176x0 : fieldT Try.prog 176 0 = some (0, 0, 174) := by kernel_rfl
@[go_sem] theorem placesT176x0 : placesT Try.prog 176 0 = some (0, 0) := by kernel_rfl
@[go_sem] theorem buildableT176 : buildableT Try.prog 176 = true := by kernel_rfl
@[go_sem] theorem zeroT176 : zeroT Try.prog 176 = some [] := by kernel_rfl
@[go_sem] theorem szT177 : szT Try.prog 177 = some 1 := by kernel_rfl
@[go_sem] theorem isAggT177 : isAggT Try.prog 177 = some false := by kernel_rfl
@[go_sem] theorem szT178 : szT Try.prog 178 = some 1 := by kernel_rfl
@[go_sem] theorem isAggT178 : isAggT Try.prog 178 = some false := by kernel_rfl
@[go_sem] theorem intT178 : intT Try.prog 178 = some .u8 := by kernel_rfl
@[go_sem] theorem zeroT178 : zeroT Try.prog 178 = some [AV.c (.int .u8 0)] := by kernel_rfl
@[go_sem] theorem szT179 : szT Try.prog 179 = some 1 := by kernel_rfl
@[go_sem] theorem isAggT179 : isAggT Try.prog 179 = some false := by kernel_rfl
@[go_sem] theorem intT179 : intT Try.prog 179 = some .u8 := by kernel_rfl
@[go_sem] theorem zeroT179 : zeroT Try.prog 179 = some [AV.c (.int .u8 0)] := by kernel_rfl
@[go_sem] theorem szT180 : szT Try.prog 180 = some 1 := by kernel_rfl
@[go_sem] theorem isAggT180 : isAggT Try.prog 180 = some false := by kernel_rfl
@[go_sem] theorem szT181 : szT Try.prog 181 = some 1 := by kernel_rfl
@[go_sem] theorem isAggT181 : isAggT Try.prog 181 = some false := by kernel_rfl
@[go_sem] theorem zeroT181 : zeroT Try.prog 181 = some [AV.c (.pointer none)] := by kernel_rfl
@[go_sem] theorem szT182 : szT Try.prog 182 = some 1 := by kernel_rfl
@[go_sem] theorem isAggT182 : isAggT Try.prog 182 = some false := by kernel_rfl
@[go_sem] theorem intT182 : intT Try.prog 182 = some .i32 := by kernel_rfl
@[go_sem] theorem zeroT182 : zeroT Try.prog 182 = some [AV.c (.int .i32 0)] := by kernel_rfl
@[go_sem] theorem szT183 : szT Try.prog 183 = some 1 := by kernel_rfl
@[go_sem] theorem isAggT183 : isAggT Try.prog 183 = some false := by kernel_rfl
@[go_sem] theorem intT183 : intT Try.prog 183 = some .i32 := by kernel_rfl
@[go_sem] theorem zeroT183 : zeroT Try.prog 183 = some [AV.c (.int .i32 0)] := by kernel_rfl
@[go_sem] theorem szT184 : szT Try.prog 184 = some 11 := by kernel_rfl
@[go_sem] theorem isAggT184 : isAggT Try.prog 184 = some true := by kernel_rfl
@[go_sem] theorem fieldT184x0 : fieldT Try.prog 184 0 = some (0, 1, 12) := by kernel_rfl
@[go_sem] theorem placesT184x0 : placesT Try.prog 184 0 = some (0, 1) := by kernel_rfl
@[go_sem] theorem fieldT184x1 : fieldT Try.prog 184 1 = some (1, 1, 12) := by kernel_rfl
@[go_sem] theorem placesT184x1 : placesT Try.prog 184 1 = some (1, 1) := by kernel_rfl
@[go_sem] theorem fieldT184x2 : fieldT Try.prog 184 2 = some (2, 1, 140) := by kernel_rfl
@[go_sem] theorem placesT184x2 : placesT Try.prog 184 2 = some (2, 1) := by kernel_rfl
@[go_sem] theorem fieldT184x3 : fieldT Try.prog 184 3 = some (3, 1, 178) := by kernel_rfl
@[go_sem] theorem placesT184x3 : placesT Try.prog 184 3 = some (3, 1) := by kernel_rfl
@[go_sem] theorem fieldT184x4 : fieldT Try.prog 184 4 = some (4, 1, 5) := by kernel_rfl
@[go_sem] theorem placesT184x4 : placesT Try.prog 184 4 = some (4, 1) := by kernel_rfl
@[go_sem] theorem fieldT184x5 : fieldT Try.prog 184 5 = some (5, 1, 5) := by kernel_rfl
@[go_sem] theorem placesT184x5 : placesT Try.prog 184 5 = some (5, 1) := by kernel_rfl
@[go_sem] theorem fieldT184x6 : fieldT Try.prog 184 6 = some (6, 1, 179) := by kernel_rfl
@[go_sem] theorem placesT184x6 : placesT Try.prog 184 6 = some (6, 1) := by kernel_rfl
@[go_sem] theorem fieldT184x7 : fieldT Try.prog 184 7 = some (7, 1, 180) := by kernel_rfl
@[go_sem] theorem placesT184x7 : placesT Try.prog 184 7 = some (7, 1) := by kernel_rfl
@[go_sem] theorem fieldT184x8 : fieldT Try.prog 184 8 = some (8, 1, 181) := by kernel_rfl
@[go_sem] theorem placesT184x8 : placesT Try.prog 184 8 = some (8, 1) := by kernel_rfl
@[go_sem] theorem fieldT184x9 : fieldT Try.prog 184 9 = some (9, 1, 182) := by kernel_rfl
@[go_sem] theorem placesT184x9 : placesT Try.prog 184 9 = some (9, 1) := by kernel_rfl
@[go_sem] theorem fieldT184x10 : fieldT Try.prog 184 10 = some (10, 1, 183) := by kernel_rfl
@[go_sem] theorem placesT184x10 : placesT Try.prog 184 10 = some (10, 1) := by kernel_rfl
@[go_sem] theorem buildableT184 : buildableT Try.prog 184 = true := by kernel_rfl
@[go_sem] theorem zeroT184 : zeroT Try.prog 184 = some [AV.c (.int .u64 0), AV.c (.int .u64 0), AV.c (.int .u32 0), AV.c (.int .u8 0), AV.c (.int .u8 0), AV.c (.int .u8 0), AV.c (.int .u8 0), AV.c .nilFunc, AV.c (.pointer none), AV.c (.int .i32 0), AV.c (.int .i32 0)] := by kernel_rfl
@[go_sem] theorem szT185 : szT Try.prog 185 = some 11 := by kernel_rfl
@[go_sem] theorem isAggT185 : isAggT Try.prog 185 = some true := by kernel_rfl
@[go_sem] theorem fieldT185x0 : fieldT Try.prog 185 0 = some (0, 1, 12) := by kernel_rfl
@[go_sem] theorem placesT185x0 : placesT Try.prog 185 0 = some (0, 1) := by kernel_rfl
@[go_sem] theorem fieldT185x1 : fieldT Try.prog 185 1 = some (1, 1, 12) := by kernel_rfl
@[go_sem] theorem placesT185x1 : placesT Try.prog 185 1 = some (1, 1) := by kernel_rfl
@[go_sem] theorem fieldT185x2 : fieldT Try.prog 185 2 = some (2, 1, 140) := by kernel_rfl
@[go_sem] theorem placesT185x2 : placesT Try.prog 185 2 = some (2, 1) := by kernel_rfl
@[go_sem] theorem fieldT185x3 : fieldT Try.prog 185 3 = some (3, 1, 178) := by kernel_rfl
@[go_sem] theorem placesT185x3 : placesT Try.prog 185 3 = some (3, 1) := by kernel_rfl
@[go_sem] theorem fieldT185x4 : fieldT Try.prog 185 4 = some (4, 1, 5) := by kernel_rfl
@[go_sem] theorem placesT185x4 : placesT Try.prog 185 4 = some (4, 1) := by kernel_rfl
@[go_sem] theorem fieldT185x5 : fieldT Try.prog 185 5 = some (5, 1, 5) := by kernel_rfl
@[go_sem] theorem placesT185x5 : placesT Try.prog 185 5 = some (5, 1) := by kernel_rfl
@[go_sem] theorem fieldT185x6 : fieldT Try.prog 185 6 = some (6, 1, 179) := by kernel_rfl
@[go_sem] theorem placesT185x6 : placesT Try.prog 185 6 = some (6, 1) := by kernel_rfl
@[go_sem] theorem fieldT185x7 : fieldT Try.prog 185 7 = some (7, 1, 180) := by kernel_rfl
@[go_sem] theorem placesT185x7 : placesT Try.prog 185 7 = some (7, 1) := by kernel_rfl
@[go_sem] theorem fieldT185x8 : fieldT Try.prog 185 8 = some (8, 1, 181) := by kernel_rfl
@[go_sem] theorem placesT185x8 : placesT Try.prog 185 8 = some (8, 1) := by kernel_rfl
@[go_sem] theorem fieldT185x9 : fieldT Try.prog 185 9 = some (9, 1, 182) := by kernel_rfl
@[go_sem] theorem placesT185x9 : placesT Try.prog 185 9 = some (9, 1) := by kernel_rfl
@[go_sem] theorem fieldT185x10 : fieldT Try.prog 185 10 = some (10, 1, 183) := by kernel_rfl
@[go_sem] theorem placesT185x10 : placesT Try.prog 185 10 = some (10, 1) := by kernel_rfl
@[go_sem] theorem buildableT185 : buildableT Try.prog 185 = true := by kernel_rfl
@[go_sem] theorem zeroT185 : zeroT Try.prog 185 = some [AV.c (.int .u64 0), AV.c (.int .u64 0), AV.c (.int .u32 0), AV.c (.int .u8 0), AV.c (.int .u8 0), AV.c (.int .u8 0), AV.c (.int .u8 0), AV.c .nilFunc, AV.c (.pointer none), AV.c (.int .i32 0), AV.c (.int .i32 0)] := by kernel_rfl
@[go_sem] theorem zeroA4 : zeroA Try.prog 4 = some (AV.c (.bool false)) := by kernel_rfl
@[go_sem] theorem zeroA22 : zeroA Try.prog 22 = some (AV.c (.slice none 0 0)) := by kernel_rfl
@[go_sem] theorem bytesT3 : bytesT Try.prog 3 = some 8 := by kernel_rfl
@[go_sem] theorem bytesT4 : bytesT Try.prog 4 = some 1 := by kernel_rfl
@[go_sem] theorem bytesT27 : bytesT Try.prog 27 = some 40 := by kernel_rfl
@[go_sem] theorem bytesT29 : bytesT Try.prog 29 = some 16 := by kernel_rfl
@[go_sem] theorem bytesT65 : bytesT Try.prog 65 = some 8 := by kernel_rfl
@[go_sem] theorem bytesT67 : bytesT Try.prog 67 = some 16 := by kernel_rfl
@[go_sem] theorem bytesT72 : bytesT Try.prog 72 = some 24 := by kernel_rfl
@[go_sem] theorem bytesT148 : bytesT Try.prog 148 = some 24 := by kernel_rfl
end Go.Proofs.Ytniccdnhjbnaeaa
