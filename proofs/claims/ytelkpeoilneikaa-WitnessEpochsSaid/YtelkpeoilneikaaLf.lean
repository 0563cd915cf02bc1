/- Facts on the types of the cut. No condition. -/
import Derived.Test.YtelkpeoilneikaaProg
import Derived.Test.YtelkpeoilneikaaLb
import Derived.KernelRfl
/- Facts on the types of the cut. -/
namespace Go.Proofs.Ytelkpeoilneikaa
open Go.Proofs Go.AL
@[go_sem] theorem szT1 : szT Try.prog 1 = some 1 := by kernel_rfl
@[go_sem] theorem isAggT1 : isAggT Try.prog 1 = some false := by kernel_rfl
@[go_sem] theorem szT2 : szT Try.prog 2 = some 1 := by kernel_rfl
@[go_sem] theorem isAggT2 : isAggT Try.prog 2 = some false := by kernel_rfl
@[go_sem] theorem intT2 : intT Try.prog 2 = some .i64 := by kernel_rfl
@[go_sem] theorem zeroT2 : zeroT Try.prog 2 = some [AV.c (.int .i64 0)] := by kernel_rfl
@[go_sem] theorem szT3 : szT Try.prog 3 = some 1 := by kernel_rfl
@[go_sem] theorem isAggT3 : isAggT Try.prog 3 = some false := by kernel_rfl
@[go_sem] theorem intT3 : intT Try.prog 3 = some .i64 := by kernel_rfl
@[go_sem] theorem zeroT3 : zeroT Try.prog 3 = some [AV.c (.int .i64 0)] := by kernel_rfl
@[go_sem] theorem szT4 : szT Try.prog 4 = some 1 := by kernel_rfl
@[go_sem] theorem isAggT4 : isAggT Try.prog 4 = some false := by kernel_rfl
@[go_sem] theorem isT4s : isT Try.prog 4 isString = false := by kernel_rfl
@[go_sem] theorem isT4b : isT Try.prog 4 isBool = true := by kernel_rfl
@[go_sem] theorem zeroT4 : zeroT Try.prog 4 = some [AV.c (.bool false)] := by kernel_rfl
@[go_sem] theorem szT5 : szT Try.prog 5 = some 1 := by kernel_rfl
@[go_sem] theorem isAggT5 : isAggT Try.prog 5 = some false := by kernel_rfl
@[go_sem] theorem intT5 : intT Try.prog 5 = some .u8 := by kernel_rfl
@[go_sem] theorem zeroT5 : zeroT Try.prog 5 = some [AV.c (.int .u8 0)] := by kernel_rfl
@[go_sem] theorem szT6 : szT Try.prog 6 = some 1 := by kernel_rfl
@[go_sem] theorem isAggT6 : isAggT Try.prog 6 = some false := by kernel_rfl
@[go_sem] theorem intT6 : intT Try.prog 6 = some .u8 := by kernel_rfl
@[go_sem] theorem zeroT6 : zeroT Try.prog 6 = some [AV.c (.int .u8 0)] := by kernel_rfl
@[go_sem] theorem szT7 : szT Try.prog 7 = some 4 := by kernel_rfl
@[go_sem] theorem isAggT7 : isAggT Try.prog 7 = some true := by kernel_rfl
@[go_sem] theorem fieldT7x0 : fieldT Try.prog 7 0 = some (0, 1, 2) := by kernel_rfl
@[go_sem] theorem placesT7x0 : placesT Try.prog 7 0 = some (0, 1) := by kernel_rfl
@[go_sem] theorem fieldT7x1 : fieldT Try.prog 7 1 = some (1, 1, 3) := by kernel_rfl
@[go_sem] theorem placesT7x1 : placesT Try.prog 7 1 = some (1, 1) := by kernel_rfl
@[go_sem] theorem fieldT7x2 : fieldT Try.prog 7 2 = some (2, 1, 4) := by kernel_rfl
@[go_sem] theorem placesT7x2 : placesT Try.prog 7 2 = some (2, 1) := by kernel_rfl
@[go_sem] theorem fieldT7x3 : fieldT Try.prog 7 3 = some (3, 1, 6) := by kernel_rfl
@[go_sem] theorem placesT7x3 : placesT Try.prog 7 3 = some (3, 1) := by kernel_rfl
@[go_sem] theorem buildableT7 : buildableT Try.prog 7 = true := by kernel_rfl
@[go_sem] theorem zeroT7 : zeroT Try.prog 7 = some [AV.c (.int .i64 0), AV.c (.int .i64 0), AV.c (.bool false), AV.c (.int .u8 0)] := by kernel_rfl
@[go_sem] theorem szT8 : szT Try.prog 8 = some 4 := by kernel_rfl
@[go_sem] theorem isAggT8 : isAggT Try.prog 8 = some true := by kernel_rfl
@[go_sem] theorem fieldT8x0 : fieldT Try.prog 8 0 = some (0, 1, 2) := by kernel_rfl
@[go_sem] theorem placesT8x0 : placesT Try.prog 8 0 = some (0, 1) := by kernel_rfl
@[go_sem] theorem fieldT8x1 : fieldT Try.prog 8 1 = some (1, 1, 3) := by kernel_rfl
@[go_sem] theorem placesT8x1 : placesT Try.prog 8 1 = some (1, 1) := by kernel_rfl
@[go_sem] theorem fieldT8x2 : fieldT Try.prog 8 2 = some (2, 1, 4) := by kernel_rfl
@[go_sem] theorem placesT8x2 : placesT Try.prog 8 2 = some (2, 1) := by kernel_rfl
@[go_sem] theorem fieldT8x3 : fieldT Try.prog 8 3 = some (3, 1, 6) := by kernel_rfl
@[go_sem] theorem placesT8x3 : placesT Try.prog 8 3 = some (3, 1) := by kernel_rfl
@[go_sem] theorem buildableT8 : buildableT Try.prog 8 = true := by kernel_rfl
@[go_sem] theorem zeroT8 : zeroT Try.prog 8 = some [AV.c (.int .i64 0), AV.c (.int .i64 0), AV.c (.bool false), AV.c (.int .u8 0)] := by kernel_rfl
@[go_sem] theorem szT9 : szT Try.prog 9 = some 1 := by kernel_rfl
@[go_sem] theorem isAggT9 : isAggT Try.prog 9 = some false := by kernel_rfl
@[go_sem] theorem isT9s : isT Try.prog 9 isString = true := by kernel_rfl
@[go_sem] theorem isT9b : isT Try.prog 9 isBool = false := by kernel_rfl
@[go_sem] theorem zeroT9 : zeroT Try.prog 9 = some [AV.c (.string ByteArray.empty)] := by kernel_rfl
@[go_sem] theorem szT10 : szT Try.prog 10 = some 1 := by kernel_rfl
@[go_sem] theorem isAggT10 : isAggT Try.prog 10 = some false := by kernel_rfl
@[go_sem] theorem isT10s : isT Try.prog 10 isString = true := by kernel_rfl
@[go_sem] theorem isT10b : isT Try.prog 10 isBool = false := by kernel_rfl
@[go_sem] theorem zeroT10 : zeroT Try.prog 10 = some [AV.c (.string ByteArray.empty)] := by kernel_rfl
@[go_sem] theorem szT11 : szT Try.prog 11 = some 1 := by kernel_rfl
@[go_sem] theorem isAggT11 : isAggT Try.prog 11 = some false := by kernel_rfl
@[go_sem] theorem isT11s : isT Try.prog 11 isString = true := by kernel_rfl
@[go_sem] theorem isT11b : isT Try.prog 11 isBool = false := by kernel_rfl
@[go_sem] theorem zeroT11 : zeroT Try.prog 11 = some [AV.c (.string ByteArray.empty)] := by kernel_rfl
@[go_sem] theorem szT12 : szT Try.prog 12 = some 1 := by kernel_rfl
@[go_sem] theorem isAggT12 : isAggT Try.prog 12 = some false := by kernel_rfl
@[go_sem] theorem intT12 : intT Try.prog 12 = some .u64 := by kernel_rfl
@[go_sem] theorem zeroT12 : zeroT Try.prog 12 = some [AV.c (.int .u64 0)] := by kernel_rfl
@[go_sem] theorem szT13 : szT Try.prog 13 = some 2 := by kernel_rfl
@[go_sem] theorem isAggT13 : isAggT Try.prog 13 = some true := by kernel_rfl
@[go_sem] theorem fieldT13x0 : fieldT Try.prog 13 0 = some (0, 1, 9) := by kernel_rfl
@[go_sem] theorem placesT13x0 : placesT Try.prog 13 0 = some (0, 1) := by kernel_rfl
@[go_sem] theorem fieldT13x1 : fieldT Try.prog 13 1 = some (1, 1, 12) := by kernel_rfl
@[go_sem] theorem placesT13x1 : placesT Try.prog 13 1 = some (1, 1) := by kernel_rfl
@[go_sem] theorem buildableT13 : buildableT Try.prog 13 = true := by kernel_rfl
@[go_sem] theorem zeroT13 : zeroT Try.prog 13 = some [AV.c (.string ByteArray.empty), AV.c (.int .u64 0)] := by kernel_rfl
@[go_sem] theorem szT14 : szT Try.prog 14 = some 2 := by kernel_rfl
@[go_sem] theorem isAggT14 : isAggT Try.prog 14 = some true := by kernel_rfl
@[go_sem] theorem fieldT14x0 : fieldT Try.prog 14 0 = some (0, 1, 9) := by kernel_rfl
@[go_sem] theorem placesT14x0 : placesT Try.prog 14 0 = some (0, 1) := by kernel_rfl
@[go_sem] theorem fieldT14x1 : fieldT Try.prog 14 1 = some (1, 1, 12) := by kernel_rfl
@[go_sem] theorem placesT14x1 : placesT Try.prog 14 1 = some (1, 1) := by kernel_rfl
@[go_sem] theorem buildableT14 : buildableT Try.prog 14 = true := by kernel_rfl
@[go_sem] theorem zeroT14 : zeroT Try.prog 14 = some [AV.c (.string ByteArray.empty), AV.c (.int .u64 0)] := by kernel_rfl
@[go_sem] theorem szT15 : szT Try.prog 15 = some 1 := by kernel_rfl
@[go_sem] theorem isAggT15 : isAggT Try.prog 15 = some false := by kernel_rfl
@[go_sem] theorem zeroT15 : zeroT Try.prog 15 = some [AV.c (.pointer none)] := by kernel_rfl
@[go_sem] theorem szT16 : szT Try.prog 16 = some 1 := by kernel_rfl
@[go_sem] theorem isAggT16 : isAggT Try.prog 16 = some false := by kernel_rfl
@[go_sem] theorem zeroT16 : zeroT Try.prog 16 = some [AV.c (.pointer none)] := by kernel_rfl
@[go_sem] theorem szT17 : szT Try.prog 17 = some 1 := by kernel_rfl
@[go_sem] theorem isAggT17 : isAggT Try.prog 17 = some false := by kernel_rfl
@[go_sem] theorem zeroT17 : zeroT Try.prog 17 = some [AV.c (.pointer none)] := by kernel_rfl
@[go_sem] theorem szT18 : szT Try.prog 18 = some 1 := by kernel_rfl
@[go_sem] theorem isAggT18 : isAggT Try.prog 18 = some true := by kernel_rfl
@[go_sem] theorem fieldT18x0 : fieldT Try.prog 18 0 = some (0, 1, 17) := by kernel_rfl
@[go_sem] theorem placesT18x0 : placesT Try.prog 18 0 = some (0, 1) := by kernel_rfl
@[go_sem] theorem buildableT18 : buildableT Try.prog 18 = true := by kernel_rfl
@[go_sem] theorem zeroT18 : zeroT Try.prog 18 = some [AV.c (.pointer none)] := by kernel_rfl
@[go_sem] theorem szT19 : szT Try.prog 19 = some 1 := by kernel_rfl
@[go_sem] theorem isAggT19 : isAggT Try.prog 19 = some true := by kernel_rfl
@[go_sem] theorem fieldT19x0 : fieldT Try.prog 19 0 = some (0, 1, 17) := by kernel_rfl
@[go_sem] theorem placesT19x0 : placesT Try.prog 19 0 = some (0, 1) := by kernel_rfl
@[go_sem] theorem buildableT19 : buildableT Try.prog 19 = true := by kernel_rfl
@[go_sem] theorem zeroT19 : zeroT Try.prog 19 = some [AV.c (.pointer none)] := by kernel_rfl
@[go_sem] theorem szT20 : szT Try.prog 20 = some 1 := by kernel_rfl
@[go_sem] theorem isAggT20 : isAggT Try.prog 20 = some false := by kernel_rfl
@[go_sem] theorem szT21 : szT Try.prog 21 = some 1 := by kernel_rfl
@[go_sem] theorem isAggT21 : isAggT Try.prog 21 = some false := by kernel_rfl
@[go_sem] theorem intT21 : intT Try.prog 21 = some .i32 := by kernel_rfl
@[go_sem] theorem zeroT21 : zeroT Try.prog 21 = some [AV.c (.int .i32 0)] := by kernel_rfl
@[go_sem] theorem szT22 : szT Try.prog 22 = some 3 := by kernel_rfl
@[go_sem] theorem isAggT22 : isAggT Try.prog 22 = some true := by kernel_rfl
@[go_sem] theorem fieldT22x0 : fieldT Try.prog 22 0 = some (0, 1, 3) := by kernel_rfl
@[go_sem] theorem placesT22x0 : placesT Try.prog 22 0 = some (0, 1) := by kernel_rfl
@[go_sem] theorem fieldT22x1 : fieldT Try.prog 22 1 = some (1, 1, 3) := by kernel_rfl
@[go_sem] theorem placesT22x1 : placesT Try.prog 22 1 = some (1, 1) := by kernel_rfl
@[go_sem] theorem fieldT22x2 : fieldT Try.prog 22 2 = some (2, 1, 3) := by kernel_rfl
@[go_sem] theorem placesT22x2 : placesT Try.prog 22 2 = some (2, 1) := by kernel_rfl
@[go_sem] theorem buildableT22 : buildableT Try.prog 22 = true := by kernel_rfl
@[go_sem] theorem zeroT22 : zeroT Try.prog 22 = some [AV.c (.int .i64 0), AV.c (.int .i64 0), AV.c (.int .i64 0)] := by kernel_rfl
@[go_sem] theorem szT23 : szT Try.prog 23 = some 3 := by kernel_rfl
@[go_sem] theorem isAggT23 : isAggT Try.prog 23 = some true := by kernel_rfl
@[go_sem] theorem fieldT23x0 : fieldT Try.prog 23 0 = some (0, 1, 3) := by kernel_rfl
@[go_sem] theorem placesT23x0 : placesT Try.prog 23 0 = some (0, 1) := by kernel_rfl
@[go_sem] theorem fieldT23x1 : fieldT Try.prog 23 1 = some (1, 1, 3) := by kernel_rfl
@[go_sem] theorem placesT23x1 : placesT Try.prog 23 1 = some (1, 1) := by kernel_rfl
@[go_sem] theorem fieldT23x2 : fieldT Try.prog 23 2 = some (2, 1, 3) := by kernel_rfl
@[go_sem] theorem placesT23x2 : placesT Try.prog 23 2 = some (2, 1) := by kernel_rfl
@[go_sem] theorem buildableT23 : buildableT Try.prog 23 = true := by kernel_rfl
@[go_sem] theorem zeroT23 : zeroT Try.prog 23 = some [AV.c (.int .i64 0), AV.c (.int .i64 0), AV.c (.int .i64 0)] := by kernel_rfl
@[go_sem] theorem szT24 : szT Try.prog 24 = some 1 := by kernel_rfl
@[go_sem] theorem isAggT24 : isAggT Try.prog 24 = some false := by kernel_rfl
@[go_sem] theorem sliceT24 : sliceT Try.prog 24 = some (3, 1) := by kernel_rfl
@[go_sem] theorem zeroT24 : zeroT Try.prog 24 = some [AV.c (.slice none 0 0)] := by kernel_rfl
@[go_sem] theorem szT25 : szT Try.prog 25 = some 1 := by kernel_rfl
@[go_sem] theorem isAggT25 : isAggT Try.prog 25 = some false := by kernel_rfl
@[go_sem] theorem sliceT25 : sliceT Try.prog 25 = some (5, 1) := by kernel_rfl
@[go_sem] theorem zeroT25 : zeroT Try.prog 25 = some [AV.c (.slice none 0 0)] := by kernel_rfl
@[go_sem] theorem szT26 : szT Try.prog 26 = some 8 := by kernel_rfl
@[go_sem] theorem isAggT26 : isAggT Try.prog 26 = some true := by kernel_rfl
@[go_sem] theorem fieldT26x0 : fieldT Try.prog 26 0 = some (0, 1, 3) := by kernel_rfl
@[go_sem] theorem placesT26x0 : placesT Try.prog 26 0 = some (0, 1) := by kernel_rfl
@[go_sem] theorem fieldT26x1 : fieldT Try.prog 26 1 = some (1, 1, 3) := by kernel_rfl
@[go_sem] theorem placesT26x1 : placesT Try.prog 26 1 = some (1, 1) := by kernel_rfl
@[go_sem] theorem fieldT26x2 : fieldT Try.prog 26 2 = some (2, 1, 3) := by kernel_rfl
@[go_sem] theorem placesT26x2 : placesT Try.prog 26 2 = some (2, 1) := by kernel_rfl
@[go_sem] theorem fieldT26x3 : fieldT Try.prog 26 3 = some (3, 1, 3) := by kernel_rfl
@[go_sem] theorem placesT26x3 : placesT Try.prog 26 3 = some (3, 1) := by kernel_rfl
@[go_sem] theorem fieldT26x4 : fieldT Try.prog 26 4 = some (4, 1, 3) := by kernel_rfl
@[go_sem] theorem placesT26x4 : placesT Try.prog 26 4 = some (4, 1) := by kernel_rfl
@[go_sem] theorem fieldT26x5 : fieldT Try.prog 26 5 = some (5, 1, 3) := by kernel_rfl
@[go_sem] theorem placesT26x5 : placesT Try.prog 26 5 = some (5, 1) := by kernel_rfl
@[go_sem] theorem fieldT26x6 : fieldT Try.prog 26 6 = some (6, 1, 24) := by kernel_rfl
@[go_sem] theorem placesT26x6 : placesT Try.prog 26 6 = some (6, 1) := by kernel_rfl
@[go_sem] theorem fieldT26x7 : fieldT Try.prog 26 7 = some (7, 1, 25) := by kernel_rfl
@[go_sem] theorem placesT26x7 : placesT Try.prog 26 7 = some (7, 1) := by kernel_rfl
@[go_sem] theorem buildableT26 : buildableT Try.prog 26 = true := by kernel_rfl
@[go_sem] theorem zeroT26 : zeroT Try.prog 26 = some [AV.c (.int .i64 0), AV.c (.int .i64 0), AV.c (.int .i64 0), AV.c (.int .i64 0), AV.c (.int .i64 0), AV.c (.int .i64 0), AV.c (.slice none 0 0), AV.c (.slice none 0 0)] := by kernel_rfl
@[go_sem] theorem szT27 : szT Try.prog 27 = some 8 := by kernel_rfl
@[go_sem] theorem isAggT27 : isAggT Try.prog 27 = some true := by kernel_rfl
@[go_sem] theorem fieldT27x0 : fieldT Try.prog 27 0 = some (0, 1, 3) := by kernel_rfl
@[go_sem] theorem placesT27x0 : placesT Try.prog 27 0 = some (0, 1) := by kernel_rfl
@[go_sem] theorem fieldT27x1 : fieldT Try.prog 27 1 = some (1, 1, 3) := by kernel_rfl
@[go_sem] theorem placesT27x1 : placesT Try.prog 27 1 = some (1, 1) := by kernel_rfl
@[go_sem] theorem fieldT27x2 : fieldT Try.prog 27 2 = some (2, 1, 3) := by kernel_rfl
@[go_sem] theorem placesT27x2 : placesT Try.prog 27 2 = some (2, 1) := by kernel_rfl
@[go_sem] theorem fieldT27x3 : fieldT Try.prog 27 3 = some (3, 1, 3) := by kernel_rfl
@[go_sem] theorem placesT27x3 : placesT Try.prog 27 3 = some (3, 1) := by kernel_rfl
@[go_sem] theorem fieldT27x4 : fieldT Try.prog 27 4 = some (4, 1, 3) := by kernel_rfl
@[go_sem] theorem placesT27x4 : placesT Try.prog 27 4 = some (4, 1) := by kernel_rfl
@[go_sem] theorem fieldT27x5 : fieldT Try.prog 27 5 = some (5, 1, 3) := by kernel_rfl
@[go_sem] theorem placesT27x5 : placesT Try.prog 27 5 = some (5, 1) := by kernel_rfl
@[go_sem] theorem fieldT27x6 : fieldT Try.prog 27 6 = some (6, 1, 24) := by kernel_rfl
@[go_sem] theorem placesT27x6 : placesT Try.prog 27 6 = some (6, 1) := by kernel_rfl
@[go_sem] theorem fieldT27x7 : fieldT Try.prog 27 7 = some (7, 1, 25) := by kernel_rfl
@[go_sem] theorem placesT27x7 : placesT Try.prog 27 7 = some (7, 1) := by kernel_rfl
@[go_sem] theorem buildableT27 : buildableT Try.prog 27 = true := by kernel_rfl
@[go_sem] theorem zeroT27 : zeroT Try.prog 27 = some [AV.c (.int .i64 0), AV.c (.int .i64 0), AV.c (.int .i64 0), AV.c (.int .i64 0), AV.c (.int .i64 0), AV.c (.int .i64 0), AV.c (.slice none 0 0), AV.c (.slice none 0 0)] := by kernel_rfl
@[go_sem] theorem szT28 : szT Try.prog 28 = some 12 := by kernel_rfl
@[go_sem] theorem isAggT28 : isAggT Try.prog 28 = some true := by kernel_rfl
@[go_sem] theorem fieldT28x0 : fieldT Try.prog 28 0 = some (0, 8, 27) := by kernel_rfl
@[go_sem] theorem placesT28x0 : placesT Try.prog 28 0 = some (0, 8) := by kernel_rfl
@[go_sem] theorem fieldT28x1 : fieldT Try.prog 28 1 = some (8, 1, 3) := by kernel_rfl
@[go_sem] theorem placesT28x1 : placesT Try.prog 28 1 = some (8, 1) := by kernel_rfl
@[go_sem] theorem fieldT28x2 : fieldT Try.prog 28 2 = some (9, 1, 3) := by kernel_rfl
@[go_sem] theorem placesT28x2 : placesT Try.prog 28 2 = some (9, 1) := by kernel_rfl
@[go_sem] theorem fieldT28x3 : fieldT Try.prog 28 3 = some (10, 1, 3) := by kernel_rfl
@[go_sem] theorem placesT28x3 : placesT Try.prog 28 3 = some (10, 1) := by kernel_rfl
@[go_sem] theorem fieldT28x4 : fieldT Try.prog 28 4 = some (11, 1, 3) := by kernel_rfl
@[go_sem] theorem placesT28x4 : placesT Try.prog 28 4 = some (11, 1) := by kernel_rfl
@[go_sem] theorem buildableT28 : buildableT Try.prog 28 = true := by kernel_rfl
@[go_sem] theorem zeroT28 : zeroT Try.prog 28 = some [AV.c (.int .i64 0), AV.c (.int .i64 0), AV.c (.int .i64 0), AV.c (.int .i64 0), AV.c (.int .i64 0), AV.c (.int .i64 0), AV.c (.slice none 0 0), AV.c (.slice none 0 0), AV.c (.int .i64 0), AV.c (.int .i64 0), AV.c (.int .i64 0), AV.c (.int .i64 0)] := by kernel_rfl
@[go_sem] theorem szT29 : szT Try.prog 29 = some 12 := by kernel_rfl
@[go_sem] theorem isAggT29 : isAggT Try.prog 29 = some true := by kernel_rfl
@[go_sem] theorem fieldT29x0 : fieldT Try.prog 29 0 = some (0, 8, 27) := by kernel_rfl
@[go_sem] theorem placesT29x0 : placesT Try.prog 29 0 = some (0, 8) := by kernel_rfl
@[go_sem] theorem fieldT29x1 : fieldT Try.prog 29 1 = some (8, 1, 3) := by kernel_rfl
@[go_sem] theorem placesT29x1 : placesT Try.prog 29 1 = some (8, 1) := by kernel_rfl
@[go_sem] theorem fieldT29x2 : fieldT Try.prog 29 2 = some (9, 1, 3) := by kernel_rfl
@[go_sem] theorem placesT29x2 : placesT Try.prog 29 2 = some (9, 1) := by kernel_rfl
@[go_sem] theorem fieldT29x3 : fieldT Try.prog 29 3 = some (10, 1, 3) := by kernel_rfl
@[go_sem] theorem placesT29x3 : placesT Try.prog 29 3 = some (10, 1) := by kernel_rfl
@[go_sem] theorem fieldT29x4 : fieldT Try.prog 29 4 = some (11, 1, 3) := by kernel_rfl
@[go_sem] theorem placesT29x4 : placesT Try.prog 29 4 = some (11, 1) := by kernel_rfl
@[go_sem] theorem buildableT29 : buildableT Try.prog 29 = true := by kernel_rfl
@[go_sem] theorem zeroT29 : zeroT Try.prog 29 = some [AV.c (.int .i64 0), AV.c (.int .i64 0), AV.c (.int .i64 0), AV.c (.int .i64 0), AV.c (.int .i64 0), AV.c (.int .i64 0), AV.c (.slice none 0 0), AV.c (.slice none 0 0), AV.c (.int .i64 0), AV.c (.int .i64 0), AV.c (.int .i64 0), AV.c (.int .i64 0)] := by kernel_rfl
@[go_sem] theorem szT30 : szT Try.prog 30 = some 1 := by kernel_rfl
@[go_sem] theorem isAggT30 : isAggT Try.prog 30 = some false := by kernel_rfl
@[go_sem] theorem szT31 : szT Try.prog 31 = some 1 := by kernel_rfl
@[go_sem] theorem isAggT31 : isAggT Try.prog 31 = some false := by kernel_rfl
@[go_sem] theorem szT32 : szT Try.prog 32 = some 1 := by kernel_rfl
@[go_sem] theorem isAggT32 : isAggT Try.prog 32 = some false := by kernel_rfl
@[go_sem] theorem sliceT32 : sliceT Try.prog 32 = some (27, 8) := by kernel_rfl
@[go_sem] theorem zeroT32 : zeroT Try.prog 32 = some [AV.c (.slice none 0 0)] := by kernel_rfl
@[go_sem] theorem szT34 : szT Try.prog 34 = some 1 := by kernel_rfl
@[go_sem] theorem isAggT34 : isAggT Try.prog 34 = some false := by kernel_rfl
@[go_sem] theorem szT35 : szT Try.prog 35 = some 1 := by kernel_rfl
@[go_sem] theorem isAggT35 : isAggT Try.prog 35 = some false := by kernel_rfl
@[go_sem] theorem szT36 : szT Try.prog 36 = some 1 := by kernel_rfl
@[go_sem] theorem isAggT36 : isAggT Try.prog 36 = some false := by kernel_rfl
@[go_sem] theorem intT36 : intT Try.prog 36 = some .i64 := by kernel_rfl
@[go_sem] theorem zeroT36 : zeroT Try.prog 36 = some [AV.c (.int .i64 0)] := by kernel_rfl
@[go_sem] theorem szT37 : szT Try.prog 37 = some 1 := by kernel_rfl
@[go_sem] theorem isAggT37 : isAggT Try.prog 37 = some false := by kernel_rfl
@[go_sem] theorem szT38 : szT Try.prog 38 = some 1 := by kernel_rfl
@[go_sem] theorem isAggT38 : isAggT Try.prog 38 = some false := by kernel_rfl
@[go_sem] theorem szT39 : szT Try.prog 39 = some 1 := by kernel_rfl
@[go_sem] theorem isAggT39 : isAggT Try.prog 39 = some false := by kernel_rfl
@[go_sem] theorem szT40 : szT Try.prog 40 = some 3 := by kernel_rfl
@[go_sem] theorem isAggT40 : isAggT Try.prog 40 = some true := by kernel_rfl
@[go_sem] theorem fieldT40x0 : fieldT Try.prog 40 0 = some (0, 1, 3) := by kernel_rfl
@[go_sem] theorem placesT40x0 : placesT Try.prog 40 0 = some (0, 1) := by kernel_rfl
@[go_sem] theorem fieldT40x1 : fieldT Try.prog 40 1 = some (1, 1, 3) := by kernel_rfl
@[go_sem] theorem placesT40x1 : placesT Try.prog 40 1 = some (1, 1) := by kernel_rfl
@[go_sem] theorem fieldT40x2 : fieldT Try.prog 40 2 = some (2, 1, 3) := by kernel_rfl
@[go_sem] theorem placesT40x2 : placesT Try.prog 40 2 = some (2, 1) := by kernel_rfl
@[go_sem] theorem buildableT40 : buildableT Try.prog 40 = true := by kernel_rfl
@[go_sem] theorem zeroT40 : zeroT Try.prog 40 = some [AV.c (.int .i64 0), AV.c (.int .i64 0), AV.c (.int .i64 0)] := by kernel_rfl
@[go_sem] theorem szT41 : szT Try.prog 41 = some 3 := by kernel_rfl
@[go_sem] theorem isAggT41 : isAggT Try.prog 41 = some true := by kernel_rfl
@[go_sem] theorem fieldT41x0 : fieldT Try.prog 41 0 = some (0, 1, 3) := by kernel_rfl
@[go_sem] theorem placesT41x0 : placesT Try.prog 41 0 = some (0, 1) := by kernel_rfl
@[go_sem] theorem fieldT41x1 : fieldT Try.prog 41 1 = some (1, 1, 3) := by kernel_rfl
@[go_sem] theorem placesT41x1 : placesT Try.prog 41 1 = some (1, 1) := by kernel_rfl
@[go_sem] theorem fieldT41x2 : fieldT Try.prog 41 2 = some (2, 1, 3) := by kernel_rfl
@[go_sem] theorem placesT41x2 : placesT Try.prog 41 2 = some (2, 1) := by kernel_rfl
@[go_sem] theorem buildableT41 : buildableT Try.prog 41 = true := by kernel_rfl
@[go_sem] theorem zeroT41 : zeroT Try.prog 41 = some [AV.c (.int .i64 0), AV.c (.int .i64 0), AV.c (.int .i64 0)] := by kernel_rfl
@[go_sem] theorem szT42 : szT Try.prog 42 = some 1 := by kernel_rfl
@[go_sem] theorem isAggT42 : isAggT Try.prog 42 = some false := by kernel_rfl
@[go_sem] theorem szT43 : szT Try.prog 43 = some 1 := by kernel_rfl
@[go_sem] theorem isAggT43 : isAggT Try.prog 43 = some false := by kernel_rfl
@[go_sem] theorem szT45 : szT Try.prog 45 = some 1 := by kernel_rfl
@[go_sem] theorem isAggT45 : isAggT Try.prog 45 = some false := by kernel_rfl
@[go_sem] theorem szT47 : szT Try.prog 47 = some 1 := by kernel_rfl
@[go_sem] theorem isAggT47 : isAggT Try.prog 47 = some false := by kernel_rfl
@[go_sem] theorem szT48 : szT Try.prog 48 = some 1 := by kernel_rfl
@[go_sem] theorem isAggT48 : isAggT Try.prog 48 = some false := by kernel_rfl
@[go_sem] theorem szT49 : szT Try.prog 49 = some 1 := by kernel_rfl
@[go_sem] theorem isAggT49 : isAggT Try.prog 49 = some false := by kernel_rfl
@[go_sem] theorem szT51 : szT Try.prog 51 = some 1 := by kernel_rfl
@[go_sem] theorem isAggT51 : isAggT Try.prog 51 = some false := by kernel_rfl
@[go_sem] theorem szT52 : szT Try.prog 52 = some 1 := by kernel_rfl
@[go_sem] theorem isAggT52 : isAggT Try.prog 52 = some false := by kernel_rfl
@[go_sem] theorem szT53 : szT Try.prog 53 = some 1 := by kernel_rfl
@[go_sem] theorem isAggT53 : isAggT Try.prog 53 = some false := by kernel_rfl
@[go_sem] theorem szT54 : szT Try.prog 54 = some 1 := by kernel_rfl
@[go_sem] theorem isAggT54 : isAggT Try.prog 54 = some false := by kernel_rfl
@[go_sem] theorem sliceT54 : sliceT Try.prog 54 = some (62, 3) := by kernel_rfl
@[go_sem] theorem zeroT54 : zeroT Try.prog 54 = some [AV.c (.slice none 0 0)] := by kernel_rfl
@[go_sem] theorem szT55 : szT Try.prog 55 = some 9 := by kernel_rfl
@[go_sem] theorem isAggT55 : isAggT Try.prog 55 = some true := by kernel_rfl
@[go_sem] theorem arrT55 : arrT Try.prog 55 = some (3, 41, 3) := by kernel_rfl
@[go_sem] theorem placesT55 : placesT Try.prog 55 = fun i => some (i * 3, 3) := by kernel_rfl
@[go_sem] theorem buildableT55 : buildableT Try.prog 55 = true := by kernel_rfl
@[go_sem] theorem zeroT55 : zeroT Try.prog 55 = some [AV.c (.int .i64 0), AV.c (.int .i64 0), AV.c (.int .i64 0), AV.c (.int .i64 0), AV.c (.int .i64 0), AV.c (.int .i64 0), AV.c (.int .i64 0), AV.c (.int .i64 0), AV.c (.int .i64 0)] := by kernel_rfl
@[go_sem] theorem szT56 : szT Try.prog 56 = some 80 := by kernel_rfl
@[go_sem] theorem isAggT56 : isAggT Try.prog 56 = some true := by kernel_rfl
@[go_sem] theorem arrT56 : arrT Try.prog 56 = some (80, 3, 1) := by kernel_rfl
@[go_sem] theorem placesT56 : placesT Try.prog 56 = fun i => some (i * 1, 1) := by kernel_rfl
@[go_sem] theorem buildableT56 : buildableT Try.prog 56 = true := by kernel_rfl
@[go_sem] theorem zeroT56 : zeroT Try.prog 56 = some [AV.c (.int .i64 0), AV.c (.int .i64 0), AV.c (.int .i64 0), AV.c (.int .i64 0), AV.c (.int .i64 0), AV.c (.int .i64 0), AV.c (.int .i64 0), AV.c (.int .i64 0), AV.c (.int .i64 0), AV.c (.int .i64 0), AV.c (.int .i64 0), AV.c (.int .i64 0), AV.c (.int .i64 0), AV.c (.int .i64 0), AV.c (.int .i64 0), AV.c (.int .i64 0), AV.c (.int .i64 0), AV.c (.int .i64 0), AV.c (.int .i64 0), AV.c (.int .i64 0), AV.c (.int .i64 0), AV.c (.int .i64 0), AV.c (.int .i64 0), AV.c (.int .i64 0), AV.c (.int .i64 0), AV.c (.int .i64 0), AV.c (.int .i64 0), AV.c (.int .i64 0), AV.c (.int .i64 0), AV.c (.int .i64 0), AV.c (.int .i64 0), AV.c (.int .i64 0), AV.c (.int .i64 0), AV.c (.int .i64 0), AV.c (.int .i64 0), AV.c (.int .i64 0), AV.c (.int .i64 0), AV.c (.int .i64 0), AV.c (.int .i64 0), AV.c (.int .i64 0), AV.c (.int .i64 0), AV.c (.int .i64 0), AV.c (.int .i64 0), AV.c (.int .i64 0), AV.c (.int .i64 0), AV.c (.int .i64 0), AV.c (.int .i64 0), AV.c (.int .i64 0), AV.c (.int .i64 0), AV.c (.int .i64 0), AV.c (.int .i64 0), AV.c (.int .i64 0), AV.c (.int .i64 0), AV.c (.int .i64 0), AV.c (.int .i64 0), AV.c (.int .i64 0), AV.c (.int .i64 0), AV.c (.int .i64 0), AV.c (.int .i64 0), AV.c (.int .i64 0), AV.c (.int .i64 0), AV.c (.int .i64 0), AV.c (.int .i64 0), AV.c (.int .i64 0), AV.c (.int .i64 0), AV.c (.int .i64 0), AV.c (.int .i64 0), AV.c (.int .i64 0), AV.c (.int .i64 0), AV.c (.int .i64 0), AV.c (.int .i64 0), AV.c (.int .i64 0), AV.c (.int .i64 0), AV.c (.int .i64 0), AV.c (.int .i64 0), AV.c (.int .i64 0), AV.c (.int .i64 0), AV.c (.int .i64 0), AV.c (.int .i64 0), AV.c (.int .i64 0)] := by kernel_rfl
@[go_sem] theorem szT57 : szT Try.prog 57 = some 96 := by kernel_rfl
@[go_sem] theorem isAggT57 : isAggT Try.prog 57 = some true := by kernel_rfl
@[go_sem] theorem fieldT57x0 : fieldT Try.prog 57 0 = some (0, 3, 23) := by kernel_rfl
@[go_sem] theorem placesT57x0 : placesT Try.prog 57 0 = some (0, 3) := by kernel_rfl
@[go_sem] theorem fieldT57x1 : fieldT Try.prog 57 1 = some (3, 9, 55) := by kernel_rfl
@[go_sem] theorem placesT57x1 : placesT Try.prog 57 1 = some (3, 9) := by kernel_rfl
@[go_sem] theorem fieldT57x2 : fieldT Try.prog 57 2 = some (12, 1, 32) := by kernel_rfl
@[go_sem] theorem placesT57x2 : placesT Try.prog 57 2 = some (12, 1) := by kernel_rfl
@[go_sem] theorem fieldT57x3 : fieldT Try.prog 57 3 = some (13, 1, 24) := by kernel_rfl
@[go_sem] theorem placesT57x3 : placesT Try.prog 57 3 = some (13, 1) := by kernel_rfl
@[go_sem] theorem fieldT57x4 : fieldT Try.prog 57 4 = some (14, 1, 3) := by kernel_rfl
@[go_sem] theorem placesT57x4 : placesT Try.prog 57 4 = some (14, 1) := by kernel_rfl
@[go_sem] theorem fieldT57x5 : fieldT Try.prog 57 5 = some (15, 80, 56) := by kernel_rfl
@[go_sem] theorem placesT57x5 : placesT Try.prog 57 5 = some (15, 80) := by kernel_rfl
@[go_sem] theorem fieldT57x6 : fieldT Try.prog 57 6 = some (95, 1, 4) := by kernel_rfl
@[go_sem] theorem placesT57x6 : placesT Try.prog 57 6 = some (95, 1) := by kernel_rfl
@[go_sem] theorem buildableT57 : buildableT Try.prog 57 = true := by kernel_rfl
@[go_sem] theorem zeroT57 : zeroT Try.prog 57 = some [AV.c (.int .i64 0), AV.c (.int .i64 0), AV.c (.int .i64 0), AV.c (.int .i64 0), AV.c (.int .i64 0), AV.c (.int .i64 0), AV.c (.int .i64 0), AV.c (.int .i64 0), AV.c (.int .i64 0), AV.c (.int .i64 0), AV.c (.int .i64 0), AV.c (.int .i64 0), AV.c (.slice none 0 0), AV.c (.slice none 0 0), AV.c (.int .i64 0), AV.c (.int .i64 0), AV.c (.int .i64 0), AV.c (.int .i64 0), AV.c (.int .i64 0), AV.c (.int .i64 0), AV.c (.int .i64 0), AV.c (.int .i64 0), AV.c (.int .i64 0), AV.c (.int .i64 0), AV.c (.int .i64 0), AV.c (.int .i64 0), AV.c (.int .i64 0), AV.c (.int .i64 0), AV.c (.int .i64 0), AV.c (.int .i64 0), AV.c (.int .i64 0), AV.c (.int .i64 0), AV.c (.int .i64 0), AV.c (.int .i64 0), AV.c (.int .i64 0), AV.c (.int .i64 0), AV.c (.int .i64 0), AV.c (.int .i64 0), AV.c (.int .i64 0), AV.c (.int .i64 0), AV.c (.int .i64 0), AV.c (.int .i64 0), AV.c (.int .i64 0), AV.c (.int .i64 0), AV.c (.int .i64 0), AV.c (.int .i64 0), AV.c (.int .i64 0), AV.c (.int .i64 0), AV.c (.int .i64 0), AV.c (.int .i64 0), AV.c (.int .i64 0), AV.c (.int .i64 0), AV.c (.int .i64 0), AV.c (.int .i64 0), AV.c (.int .i64 0), AV.c (.int .i64 0), AV.c (.int .i64 0), AV.c (.int .i64 0), AV.c (.int .i64 0), AV.c (.int .i64 0), AV.c (.int .i64 0), AV.c (.int .i64 0), AV.c (.int .i64 0), AV.c (.int .i64 0), AV.c (.int .i64 0), AV.c (.int .i64 0), AV.c (.int .i64 0), AV.c (.int .i64 0), AV.c (.int .i64 0), AV.c (.int .i64 0), AV.c (.int .i64 0), AV.c (.int .i64 0), AV.c (.int .i64 0), AV.c (.int .i64 0), AV.c (.int .i64 0), AV.c (.int .i64 0), AV.c (.int .i64 0), AV.c (.int .i64 0), AV.c (.int .i64 0), AV.c (.int .i64 0), AV.c (.int .i64 0), AV.c (.int .i64 0), AV.c (.int .i64 0), AV.c (.int .i64 0), AV.c (.int .i64 0), AV.c (.int .i64 0), AV.c (.int .i64 0), AV.c (.int .i64 0), AV.c (.int .i64 0), AV.c (.int .i64 0), AV.c (.int .i64 0), AV.c (.int .i64 0), AV.c (.int .i64 0), AV.c (.int .i64 0), AV.c (.int .i64 0), AV.c (.bool false)] := by kernel_rfl
@[go_sem] theorem szT58 : szT Try.prog 58 = some 96 := by kernel_rfl
@[go_sem] theorem isAggT58 : isAggT Try.prog 58 = some true := by kernel_rfl
@[go_sem] theorem fieldT58x0 : fieldT Try.prog 58 0 = some (0, 3, 23) := by kernel_rfl
@[go_sem] theorem placesT58x0 : placesT Try.prog 58 0 = some (0, 3) := by kernel_rfl
@[go_sem] theorem fieldT58x1 : fieldT Try.prog 58 1 = some (3, 9, 55) := by kernel_rfl
@[go_sem] theorem placesT58x1 : placesT Try.prog 58 1 = some (3, 9) := by kernel_rfl
@[go_sem] theorem fieldT58x2 : fieldT Try.prog 58 2 = some (12, 1, 32) := by kernel_rfl
@[go_sem] theorem placesT58x2 : placesT Try.prog 58 2 = some (12, 1) := by kernel_rfl
@[go_sem] theorem fieldT58x3 : fieldT Try.prog 58 3 = some (13, 1, 24) := by kernel_rfl
@[go_sem] theorem placesT58x3 : placesT Try.prog 58 3 = some (13, 1) := by kernel_rfl
@[go_sem] theorem fieldT58x4 : fieldT Try.prog 58 4 = some (14, 1, 3) := by kernel_rfl
@[go_sem] theorem placesT58x4 : placesT Try.prog 58 4 = some (14, 1) := by kernel_rfl
@[go_sem] theorem fieldT58x5 : fieldT Try.prog 58 5 = some (15, 80, 56) := by kernel_rfl
@[go_sem] theorem placesT58x5 : placesT Try.prog 58 5 = some (15, 80) := by kernel_rfl
@[go_sem] theorem fieldT58x6 : fieldT Try.prog 58 6 = some (95, 1, 4) := by kernel_rfl
@[go_sem] theorem placesT58x6 : placesT Try.prog 58 6 = some (95, 1) := by kernel_rfl
@[go_sem] theorem buildableT58 : buildableT Try.prog 58 = true := by kernel_rfl
@[go_sem] theorem zeroT58 : zeroT Try.prog 58 = some [AV.c (.int .i64 0), AV.c (.int .i64 0), AV.c (.int .i64 0), AV.c (.int .i64 0), AV.c (.int .i64 0), AV.c (.int .i64 0), AV.c (.int .i64 0), AV.c (.int .i64 0), AV.c (.int .i64 0), AV.c (.int .i64 0), AV.c (.int .i64 0), AV.c (.int .i64 0), AV.c (.slice none 0 0), AV.c (.slice none 0 0), AV.c (.int .i64 0), AV.c (.int .i64 0), AV.c (.int .i64 0), AV.c (.int .i64 0), AV.c (.int .i64 0), AV.c (.int .i64 0), AV.c (.int .i64 0), AV.c (.int .i64 0), AV.c (.int .i64 0), AV.c (.int .i64 0), AV.c (.int .i64 0), AV.c (.int .i64 0), AV.c (.int .i64 0), AV.c (.int .i64 0), AV.c (.int .i64 0), AV.c (.int .i64 0), AV.c (.int .i64 0), AV.c (.int .i64 0), AV.c (.int .i64 0), AV.c (.int .i64 0), AV.c (.int .i64 0), AV.c (.int .i64 0), AV.c (.int .i64 0), AV.c (.int .i64 0), AV.c (.int .i64 0), AV.c (.int .i64 0), AV.c (.int .i64 0), AV.c (.int .i64 0), AV.c (.int .i64 0), AV.c (.int .i64 0), AV.c (.int .i64 0), AV.c (.int .i64 0), AV.c (.int .i64 0), AV.c (.int .i64 0), AV.c (.int .i64 0), AV.c (.int .i64 0), AV.c (.int .i64 0), AV.c (.int .i64 0), AV.c (.int .i64 0), AV.c (.int .i64 0), AV.c (.int .i64 0), AV.c (.int .i64 0), AV.c (.int .i64 0), AV.c (.int .i64 0), AV.c (.int .i64 0), AV.c (.int .i64 0), AV.c (.int .i64 0), AV.c (.int .i64 0), AV.c (.int .i64 0), AV.c (.int .i64 0), AV.c (.int .i64 0), AV.c (.int .i64 0), AV.c (.int .i64 0), AV.c (.int .i64 0), AV.c (.int .i64 0), AV.c (.int .i64 0), AV.c (.int .i64 0), AV.c (.int .i64 0), AV.c (.int .i64 0), AV.c (.int .i64 0), AV.c (.int .i64 0), AV.c (.int .i64 0), AV.c (.int .i64 0), AV.c (.int .i64 0), AV.c (.int .i64 0), AV.c (.int .i64 0), AV.c (.int .i64 0), AV.c (.int .i64 0), AV.c (.int .i64 0), AV.c (.int .i64 0), AV.c (.int .i64 0), AV.c (.int .i64 0), AV.c (.int .i64 0), AV.c (.int .i64 0), AV.c (.int .i64 0), AV.c (.int .i64 0), AV.c (.int .i64 0), AV.c (.int .i64 0), AV.c (.int .i64 0), AV.c (.int .i64 0), AV.c (.int .i64 0), AV.c (.bool false)] := by kernel_rfl
@[go_sem] theorem szT59 : szT Try.prog 59 = some 1 := by kernel_rfl
@[go_sem] theorem isAggT59 : isAggT Try.prog 59 = some false := by kernel_rfl
@[go_sem] theorem szT60 : szT Try.prog 60 = some 1 := by kernel_rfl
@[go_sem] theorem isAggT60 : isAggT Try.prog 60 = some false := by kernel_rfl
@[go_sem] theorem szT61 : szT Try.prog 61 = some 3 := by kernel_rfl
@[go_sem] theorem isAggT61 : isAggT Try.prog 61 = some true := by kernel_rfl
@[go_sem] theorem fieldT61x0 : fieldT Try.prog 61 0 = some (0, 1, 5) := by kernel_rfl
@[go_sem] theorem placesT61x0 : placesT Try.prog 61 0 = some (0, 1) := by kernel_rfl
@[go_sem] theorem fieldT61x1 : fieldT Try.prog 61 1 = some (1, 1, 5) := by kernel_rfl
@[go_sem] theorem placesT61x1 : placesT Try.prog 61 1 = some (1, 1) := by kernel_rfl
@[go_sem] theorem fieldT61x2 : fieldT Try.prog 61 2 = some (2, 1, 5) := by kernel_rfl
@[go_sem] theorem placesT61x2 : placesT Try.prog 61 2 = some (2, 1) := by kernel_rfl
@[go_sem] theorem buildableT61 : buildableT Try.prog 61 = true := by kernel_rfl
@[go_sem] theorem zeroT61 : zeroT Try.prog 61 = some [AV.c (.int .u8 0), AV.c (.int .u8 0), AV.c (.int .u8 0)] := by kernel_rfl
@[go_sem] theorem szT62 : szT Try.prog 62 = some 3 := by kernel_rfl
@[go_sem] theorem isAggT62 : isAggT Try.prog 62 = some true := by kernel_rfl
@[go_sem] theorem fieldT62x0 : fieldT Try.prog 62 0 = some (0, 1, 5) := by kernel_rfl
@[go_sem] theorem placesT62x0 : placesT Try.prog 62 0 = some (0, 1) := by kernel_rfl
@[go_sem] theorem fieldT62x1 : fieldT Try.prog 62 1 = some (1, 1, 5) := by kernel_rfl
@[go_sem] theorem placesT62x1 : placesT Try.prog 62 1 = some (1, 1) := by kernel_rfl
@[go_sem] theorem fieldT62x2 : fieldT Try.prog 62 2 = some (2, 1, 5) := by kernel_rfl
@[go_sem] theorem placesT62x2 : placesT Try.prog 62 2 = some (2, 1) := by kernel_rfl
@[go_sem] theorem buildableT62 : buildableT Try.prog 62 = true := by kernel_rfl
@[go_sem] theorem zeroT62 : zeroT Try.prog 62 = some [AV.c (.int .u8 0), AV.c (.int .u8 0), AV.c (.int .u8 0)] := by kernel_rfl
@[go_sem] theorem szT64 : szT Try.prog 64 = some 1 := by kernel_rfl
@[go_sem] theorem isAggT64 : isAggT Try.prog 64 = some false := by kernel_rfl
@[go_sem] theorem szT65 : szT Try.prog 65 = some 1 := by kernel_rfl
@[go_sem] theorem isAggT65 : isAggT Try.prog 65 = some false := by kernel_rfl
@[go_sem] theorem szT66 : szT Try.prog 66 = some 1 := by kernel_rfl
@[go_sem] theorem isAggT66 : isAggT Try.prog 66 = some false := by kernel_rfl
@[go_sem] theorem szT67 : szT Try.prog 67 = some 1 := by kernel_rfl
@[go_sem] theorem isAggT67 : isAggT Try.prog 67 = some false := by kernel_rfl
@[go_sem] theorem szT68 : szT Try.prog 68 = some 1 := by kernel_rfl
@[go_sem] theorem isAggT68 : isAggT Try.prog 68 = some false := by kernel_rfl
@[go_sem] theorem szT69 : szT Try.prog 69 = some 1 := by kernel_rfl
@[go_sem] theorem isAggT69 : isAggT Try.prog 69 = some false := by kernel_rfl
@[go_sem] theorem szT70 : szT Try.prog 70 = some 1 := by kernel_rfl
@[go_sem] theorem isAggT70 : isAggT Try.prog 70 = some false := by kernel_rfl
@[go_sem] theorem zeroT70 : zeroT Try.prog 70 = some [AV.c (.pointer none)] := by kernel_rfl
@[go_sem] theorem szT71 : szT Try.prog 71 = some 13 := by kernel_rfl
@[go_sem] theorem isAggT71 : isAggT Try.prog 71 = some true := by kernel_rfl
@[go_sem] theorem fieldT71x0 : fieldT Try.prog 71 0 = some (0, 3, 23) := by kernel_rfl
@[go_sem] theorem placesT71x0 : placesT Try.prog 71 0 = some (0, 3) := by kernel_rfl
@[go_sem] theorem fieldT71x1 : fieldT Try.prog 71 1 = some (3, 1, 3) := by kernel_rfl
@[go_sem] theorem placesT71x1 : placesT Try.prog 71 1 = some (3, 1) := by kernel_rfl
@[go_sem] theorem fieldT71x2 : fieldT Try.prog 71 2 = some (4, 1, 3) := by kernel_rfl
@[go_sem] theorem placesT71x2 : placesT Try.prog 71 2 = some (4, 1) := by kernel_rfl
@[go_sem] theorem fieldT71x3 : fieldT Try.prog 71 3 = some (5, 8, 27) := by kernel_rfl
@[go_sem] theorem placesT71x3 : placesT Try.prog 71 3 = some (5, 8) := by kernel_rfl
@[go_sem] theorem buildableT71 : buildableT Try.prog 71 = true := by kernel_rfl
@[go_sem] theorem zeroT71 : zeroT Try.prog 71 = some [AV.c (.int .i64 0), AV.c (.int .i64 0), AV.c (.int .i64 0), AV.c (.int .i64 0), AV.c (.int .i64 0), AV.c (.int .i64 0), AV.c (.int .i64 0), AV.c (.int .i64 0), AV.c (.int .i64 0), AV.c (.int .i64 0), AV.c (.int .i64 0), AV.c (.slice none 0 0), AV.c (.slice none 0 0)] := by kernel_rfl
@[go_sem] theorem szT72 : szT Try.prog 72 = some 13 := by kernel_rfl
@[go_sem] theorem isAggT72 : isAggT Try.prog 72 = some true := by kernel_rfl
@[go_sem] theorem fieldT72x0 : fieldT Try.prog 72 0 = some (0, 3, 23) := by kernel_rfl
@[go_sem] theorem placesT72x0 : placesT Try.prog 72 0 = some (0, 3) := by kernel_rfl
@[go_sem] theorem fieldT72x1 : fieldT Try.prog 72 1 = some (3, 1, 3) := by kernel_rfl
@[go_sem] theorem placesT72x1 : placesT Try.prog 72 1 = some (3, 1) := by kernel_rfl
@[go_sem] theorem fieldT72x2 : fieldT Try.prog 72 2 = some (4, 1, 3) := by kernel_rfl
@[go_sem] theorem placesT72x2 : placesT Try.prog 72 2 = some (4, 1) := by kernel_rfl
@[go_sem] theorem fieldT72x3 : fieldT Try.prog 72 3 = some (5, 8, 27) := by kernel_rfl
@[go_sem] theorem placesT72x3 : placesT Try.prog 72 3 = some (5, 8) := by kernel_rfl
@[go_sem] theorem buildableT72 : buildableT Try.prog 72 = true := by kernel_rfl
@[go_sem] theorem zeroT72 : zeroT Try.prog 72 = some [AV.c (.int .i64 0), AV.c (.int .i64 0), AV.c (.int .i64 0), AV.c (.int .i64 0), AV.c (.int .i64 0), AV.c (.int .i64 0), AV.c (.int .i64 0), AV.c (.int .i64 0), AV.c (.int .i64 0), AV.c (.int .i64 0), AV.c (.int .i64 0), AV.c (.slice none 0 0), AV.c (.slice none 0 0)] := by kernel_rfl
@[go_sem] theorem szT73 : szT Try.prog 73 = some 1 := by kernel_rfl
@[go_sem] theorem isAggT73 : isAggT Try.prog 73 = some false := by kernel_rfl
@[go_sem] theorem szT74 : szT Try.prog 74 = some 1 := by kernel_rfl
@[go_sem] theorem isAggT74 : isAggT Try.prog 74 = some false := by kernel_rfl
@[go_sem] theorem zeroT74 : zeroT Try.prog 74 = some [AV.c (.map none)] := by kernel_rfl
@[go_sem] theorem szT76 : szT Try.prog 76 = some 1 := by kernel_rfl
@[go_sem] theorem isAggT76 : isAggT Try.prog 76 = some false := by kernel_rfl
@[go_sem] theorem szT77 : szT Try.prog 77 = some 1 := by kernel_rfl
@[go_sem] theorem isAggT77 : isAggT Try.prog 77 = some false := by kernel_rfl
@[go_sem] theorem szT78 : szT Try.prog 78 = some 1 := by kernel_rfl
@[go_sem] theorem isAggT78 : isAggT Try.prog 78 = some false := by kernel_rfl
@[go_sem] theorem szT79 : szT Try.prog 79 = some 1 := by kernel_rfl
@[go_sem] theorem isAggT79 : isAggT Try.prog 79 = some false := by kernel_rfl
@[go_sem] theorem szT80 : szT Try.prog 80 = some 1 := by kernel_rfl
@[go_sem] theorem isAggT80 : isAggT Try.prog 80 = some false := by kernel_rfl
@[go_sem] theorem szT81 : szT Try.prog 81 = some 1 := by kernel_rfl
@[go_sem] theorem isAggT81 : isAggT Try.prog 81 = some false := by kernel_rfl
@[go_sem] theorem szT82 : szT Try.prog 82 = some 1 := by kernel_rfl
@[go_sem] theorem isAggT82 : isAggT Try.prog 82 = some false := by kernel_rfl
@[go_sem] theorem szT83 : szT Try.prog 83 = some 4 := by kernel_rfl
@[go_sem] theorem isAggT83 : isAggT Try.prog 83 = some true := by kernel_rfl
@[go_sem] theorem fieldT83x0 : fieldT Try.prog 83 0 = some (0, 1, 17) := by kernel_rfl
@[go_sem] theorem placesT83x0 : placesT Try.prog 83 0 = some (0, 1) := by kernel_rfl
@[go_sem] theorem fieldT83x1 : fieldT Try.prog 83 1 = some (1, 1, 17) := by kernel_rfl
@[go_sem] theorem placesT83x1 : placesT Try.prog 83 1 = some (1, 1) := by kernel_rfl
@[go_sem] theorem fieldT83x2 : fieldT Try.prog 83 2 = some (2, 1, 17) := by kernel_rfl
@[go_sem] theorem placesT83x2 : placesT Try.prog 83 2 = some (2, 1) := by kernel_rfl
@[go_sem] theorem fieldT83x3 : fieldT Try.prog 83 3 = some (3, 1, 9) := by kernel_rfl
@[go_sem] theorem placesT83x3 : placesT Try.prog 83 3 = some (3, 1) := by kernel_rfl
@[go_sem] theorem buildableT83 : buildableT Try.prog 83 = true := by kernel_rfl
@[go_sem] theorem zeroT83 : zeroT Try.prog 83 = some [AV.c (.pointer none), AV.c (.pointer none), AV.c (.pointer none), AV.c (.string ByteArray.empty)] := by kernel_rfl
@[go_sem] theorem szT84 : szT Try.prog 84 = some 4 := by kernel_rfl
@[go_sem] theorem isAggT84 : isAggT Try.prog 84 = some true := by kernel_rfl
@[go_sem] theorem fieldT84x0 : fieldT Try.prog 84 0 = some (0, 1, 17) := by kernel_rfl
@[go_sem] theorem placesT84x0 : placesT Try.prog 84 0 = some (0, 1) := by kernel_rfl
@[go_sem] theorem fieldT84x1 : fieldT Try.prog 84 1 = some (1, 1, 17) := by kernel_rfl
@[go_sem] theorem placesT84x1 : placesT Try.prog 84 1 = some (1, 1) := by kernel_rfl
@[go_sem] theorem fieldT84x2 : fieldT Try.prog 84 2 = some (2, 1, 17) := by kernel_rfl
@[go_sem] theorem placesT84x2 : placesT Try.prog 84 2 = some (2, 1) := by kernel_rfl
@[go_sem] theorem fieldT84x3 : fieldT Try.prog 84 3 = some (3, 1, 9) := by kernel_rfl
@[go_sem] theorem placesT84x3 : placesT Try.prog 84 3 = some (3, 1) := by kernel_rfl
@[go_sem] theorem buildableT84 : buildableT Try.prog 84 = true := by kernel_rfl
@[go_sem] theorem zeroT84 : zeroT Try.prog 84 = some [AV.c (.pointer none), AV.c (.pointer none), AV.c (.pointer none), AV.c (.string ByteArray.empty)] := by kernel_rfl
@[go_sem] theorem szT85 : szT Try.prog 85 = some 0 := by kernel_rfl
@[go_sem] theorem isAggT85 : isAggT Try.prog 85 = some true := by kernel_rfl
@[go_sem] theorem arrT85 : arrT Try.prog 85 = some (0, 16, 1) := by kernel_rfl
@[go_sem] theorem placesT85 : placesT Try.prog 85 = fun i => some (i * 1, 1) := by kernel_rfl
@[go_sem] theorem buildableT85 : buildableT Try.prog 85 = true := by kernel_rfl
@[go_sem] theorem zeroT85 : zeroT Try.prog 85 = some [] := by kernel_rfl
@[go_sem] theorem szT86 : szT Try.prog 86 = some 0 := by kernel_rfl
@[go_sem] theorem isAggT86 : isAggT Try.prog 86 = some true := by kernel_rfl
@[go_sem] theorem fieldT86x0 : fieldT Try.prog 86 0 = some (0, 0, 85) := by kernel_rfl
@[go_sem] theorem placesT86x0 : placesT Try.prog 86 0 = some (0, 0) := by kernel_rfl
@[go_sem] theorem buildableT86 : buildableT Try.prog 86 = true := by kernel_rfl
@[go_sem] theorem zeroT86 : zeroT Try.prog 86 = some [] := by kernel_rfl
@[go_sem] theorem szT87 : szT Try.prog 87 = some 0 := by kernel_rfl
@[go_sem] theorem isAggT87 : isAggT Try.prog 87 = some true := by kernel_rfl
@[go_sem] theorem fieldT87x0 : fieldT Try.prog 87 0 = some (0, 0, 85) := by kernel_rfl
@[go_sem] theorem placesT87x0 : placesT Try.prog 87 0 = some (0, 0) := by kernel_rfl
@[go_sem] theorem buildableT87 : buildableT Try.prog 87 = true := by kernel_rfl
@[go_sem] theorem zeroT87 : zeroT Try.prog 87 = some [] := by kernel_rfl
@[go_sem] theorem szT88 : szT Try.prog 88 = some 1 := by kernel_rfl
@[go_sem] theorem isAggT88 : isAggT Try.prog 88 = some false := by kernel_rfl
@[go_sem] theorem szT89 : szT Try.prog 89 = some 1 := by kernel_rfl
@[go_sem] theorem isAggT89 : isAggT Try.prog 89 = some false := by kernel_rfl
@[go_sem] theorem intT89 : intT Try.prog 89 = some .u32 := by kernel_rfl
@[go_sem] theorem zeroT89 : zeroT Try.prog 89 = some [AV.c (.int .u32 0)] := by kernel_rfl
@[go_sem] theorem szT90 : szT Try.prog 90 = some 1 := by kernel_rfl
@[go_sem] theorem isAggT90 : isAggT Try.prog 90 = some false := by kernel_rfl
@[go_sem] theorem intT90 : intT Try.prog 90 = some .u8 := by kernel_rfl
@[go_sem] theorem zeroT90 : zeroT Try.prog 90 = some [AV.c (.int .u8 0)] := by kernel_rfl
@[go_sem] theorem szT91 : szT Try.prog 91 = some 1 := by kernel_rfl
@[go_sem] theorem isAggT91 : isAggT Try.prog 91 = some false := by kernel_rfl
@[go_sem] theorem intT91 : intT Try.prog 91 = some .u8 := by kernel_rfl
@[go_sem] theorem zeroT91 : zeroT Try.prog 91 = some [AV.c (.int .u8 0)] := by kernel_rfl
@[go_sem] theorem szT92 : szT Try.prog 92 = some 1 := by kernel_rfl
@[go_sem] theorem isAggT92 : isAggT Try.prog 92 = some false := by kernel_rfl
@[go_sem] theorem szT93 : szT Try.prog 93 = some 1 := by kernel_rfl
@[go_sem] theorem isAggT93 : isAggT Try.prog 93 = some false := by kernel_rfl
@[go_sem] theorem zeroT93 : zeroT Try.prog 93 = some [AV.c (.pointer none)] := by kernel_rfl
@[go_sem] theorem szT94 : szT Try.prog 94 = some 1 := by kernel_rfl
@[go_sem] theorem isAggT94 : isAggT Try.prog 94 = some false := by kernel_rfl
@[go_sem] theorem intT94 : intT Try.prog 94 = some .i32 := by kernel_rfl
@[go_sem] theorem zeroT94 : zeroT Try.prog 94 = some [AV.c (.int .i32 0)] := by kernel_rfl
@[go_sem] theorem szT95 : szT Try.prog 95 = some 1 := by kernel_rfl
@[go_sem] theorem isAggT95 : isAggT Try.prog 95 = some false := by kernel_rfl
@[go_sem] theorem intT95 : intT Try.prog 95 = some .i32 := by kernel_rfl
@[go_sem] theorem zeroT95 : zeroT Try.prog 95 = some [AV.c (.int .i32 0)] := by kernel_rfl
@[go_sem] theorem szT96 : szT Try.prog 96 = some 11 := by kernel_rfl
@[go_sem] theorem isAggT96 : isAggT Try.prog 96 = some true := by kernel_rfl
@[go_sem] theorem fieldT96x0 : fieldT Try.prog 96 0 = some (0, 1, 12) := by kernel_rfl
@[go_sem] theorem placesT96x0 : placesT Try.prog 96 0 = some (0, 1) := by kernel_rfl
@[go_sem] theorem fieldT96x1 : fieldT Try.prog 96 1 = some (1, 1, 12) := by kernel_rfl
@[go_sem] theorem placesT96x1 : placesT Try.prog 96 1 = some (1, 1) := by kernel_rfl
@[go_sem] theorem fieldT96x2 : fieldT Try.prog 96 2 = some (2, 1, 89) := by kernel_rfl
@[go_sem] theorem placesT96x2 : placesT Try.prog 96 2 = some (2, 1) := by kernel_rfl
@[go_sem] theorem fieldT96x3 : fieldT Try.prog 96 3 = some (3, 1, 90) := by kernel_rfl
@[go_sem] theorem placesT96x3 : placesT Try.prog 96 3 = some (3, 1) := by kernel_rfl
@[go_sem] theorem fieldT96x4 : fieldT Try.prog 96 4 = some (4, 1, 5) := by kernel_rfl
@[go_sem] theorem placesT96x4 : placesT Try.prog 96 4 = some (4, 1) := by kernel_rfl
@[go_sem] theorem fieldT96x5 : fieldT Try.prog 96 5 = some (5, 1, 5) := by kernel_rfl
@[go_sem] theorem placesT96x5 : placesT Try.prog 96 5 = some (5, 1) := by kernel_rfl
@[go_sem] theorem fieldT96x6 : fieldT Try.prog 96 6 = some (6, 1, 91) := by kernel_rfl
@[go_sem] theorem placesT96x6 : placesT Try.prog 96 6 = some (6, 1) := by kernel_rfl
@[go_sem] theorem fieldT96x7 : fieldT Try.prog 96 7 = some (7, 1, 92) := by kernel_rfl
@[go_sem] theorem placesT96x7 : placesT Try.prog 96 7 = some (7, 1) := by kernel_rfl
@[go_sem] theorem fieldT96x8 : fieldT Try.prog 96 8 = some (8, 1, 93) := by kernel_rfl
@[go_sem] theorem placesT96x8 : placesT Try.prog 96 8 = some (8, 1) := by kernel_rfl
@[go_sem] theorem fieldT96x9 : fieldT Try.prog 96 9 = some (9, 1, 94) := by kernel_rfl
@[go_sem] theorem placesT96x9 : placesT Try.prog 96 9 = some (9, 1) := by kernel_rfl
@[go_sem] theorem fieldT96x10 : fieldT Try.prog 96 10 = some (10, 1, 95) := by kernel_rfl
@[go_sem] theorem placesT96x10 : placesT Try.prog 96 10 = some (10, 1) := by kernel_rfl
@[go_sem] theorem buildableT96 : buildableT Try.prog 96 = true := by kernel_rfl
@[go_sem] theorem zeroT96 : zeroT Try.prog 96 = some [AV.c (.int .u64 0), AV.c (.int .u64 0), AV.c (.int .u32 0), AV.c (.int .u8 0), AV.c (.int .u8 0), AV.c (.int .u8 0), AV.c (.int .u8 0), AV.c .nilFunc, AV.c (.pointer none), AV.c (.int .i32 0), AV.c (.int .i32 0)] := by kernel_rfl
@[go_sem] theorem szT97 : szT Try.prog 97 = some 11 := by kernel_rfl
@[go_sem] theorem isAggT97 : isAggT Try.prog 97 = some true := by kernel_rfl
@[go_sem] theorem fieldT97x0 : fieldT Try.prog 97 0 = some (0, 1, 12) := by kernel_rfl
@[go_sem] theorem placesT97x0 : placesT Try.prog 97 0 = some (0, 1) := by kernel_rfl
@[go_sem] theorem fieldT97x1 : fieldT Try.prog 97 1 = some (1, 1, 12) := by kernel_rfl
@[go_sem] theorem placesT97x1 : placesT Try.prog 97 1 = some (1, 1) := by kernel_rfl
@[go_sem] theorem fieldT97x2 : fieldT Try.prog 97 2 = some (2, 1, 89) := by kernel_rfl
@[go_sem] theorem placesT97x2 : placesT Try.prog 97 2 = some (2, 1) := by kernel_rfl
@[go_sem] theorem fieldT97x3 : fieldT Try.prog 97 3 = some (3, 1, 90) := by kernel_rfl
@[go_sem] theorem placesT97x3 : placesT Try.prog 97 3 = some (3, 1) := by kernel_rfl
@[go_sem] theorem fieldT97x4 : fieldT Try.prog 97 4 = some (4, 1, 5) := by kernel_rfl
@[go_sem] theorem placesT97x4 : placesT Try.prog 97 4 = some (4, 1) := by kernel_rfl
@[go_sem] theorem fieldT97x5 : fieldT Try.prog 97 5 = some (5, 1, 5) := by kernel_rfl
@[go_sem] theorem placesT97x5 : placesT Try.prog 97 5 = some (5, 1) := by kernel_rfl
@[go_sem] theorem fieldT97x6 : fieldT Try.prog 97 6 = some (6, 1, 91) := by kernel_rfl
@[go_sem] theorem placesT97x6 : placesT Try.prog 97 6 = some (6, 1) := by kernel_rfl
@[go_sem] theorem fieldT97x7 : fieldT Try.prog 97 7 = some (7, 1, 92) := by kernel_rfl
@[go_sem] theorem placesT97x7 : placesT Try.prog 97 7 = some (7, 1) := by kernel_rfl
@[go_sem] theorem fieldT97x8 : fieldT Try.prog 97 8 = some (8, 1, 93) := by kernel_rfl
@[go_sem] theorem placesT97x8 : placesT Try.prog 97 8 = some (8, 1) := by kernel_rfl
@[go_sem] theorem fieldT97x9 : fieldT Try.prog 97 9 = some (9, 1, 94) := by kernel_rfl
@[go_sem] theorem placesT97x9 : placesT Try.prog 97 9 = some (9, 1) := by kernel_rfl
@[go_sem] theorem fieldT97x10 : fieldT Try.prog 97 10 = some (10, 1, 95) := by kernel_rfl
@[go_sem] theorem placesT97x10 : placesT Try.prog 97 10 = some (10, 1) := by kernel_rfl
@[go_sem] theorem buildableT97 : buildableT Try.prog 97 = true := by kernel_rfl
@[go_sem] theorem zeroT97 : zeroT Try.prog 97 = some [AV.c (.int .u64 0), AV.c (.int .u64 0), AV.c (.int .u32 0), AV.c (.int .u8 0), AV.c (.int .u8 0), AV.c (.int .u8 0), AV.c (.int .u8 0), AV.c .nilFunc, AV.c (.pointer none), AV.c (.int .i32 0), AV.c (.int .i32 0)] := by kernel_rfl
@[go_sem] theorem bytesT3 : bytesT Try.prog 3 = some 8 := by kernel_rfl
@[go_sem] theorem bytesT5 : bytesT Try.prog 5 = some 1 := by kernel_rfl
@[go_sem] theorem bytesT27 : bytesT Try.prog 27 = some 96 := by kernel_rfl
@[go_sem] theorem bytesT62 : bytesT Try.prog 62 = some 3 := by kernel_rfl
end Go.Proofs.Ytelkpeoilneikaa
