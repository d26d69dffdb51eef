/- The program's functions as abstract code. -/
import Derived.Test.YthnddhfpkmbacaaDoorPayQ
set_option maxRecDepth 20000
namespace Pay
def g_law03_RateParts.o3 : List AOper :=
  [⟨some 23, .pick (.t 20) (.c (.d (.bool true))) (.t 22), [], [], none, none⟩]
def g_law03_RateParts.o2 : List AOper :=
  (⟨some 21, .mv (.t 1), [], [], (some (6, 20, false)), none⟩ ::
     ⟨some 22, .bin .gtr (.t 21) (.c (.d (.int .i64 10000))), [], [], (some (6, 20, false)), (some ([0, 1, 2, 20, 22], (some [])))⟩ ::
     g_law03_RateParts.o3)
def g_law03_RateParts.o1 : List AOper :=
  (⟨some 19, .pick (.t 16) (.c (.d (.bool true))) (.t 18), [], [], none, none⟩ ::
     ⟨some 20, .mv (.t 19), [], [], none, (some ([0, 1, 2, 20], (some [])))⟩ ::
     g_law03_RateParts.o2)
def g_law03_RateParts.o0 : List AOper :=
  (⟨some 17, .mv (.t 1), [], [], (some (2, 16, false)), none⟩ ::
     ⟨some 18, .bin .lss (.t 17) (.c (.d (.int .i64 0))), [], [], (some (2, 16, false)), (some ([0, 1, 2, 16, 18], (some [])))⟩ ::
     g_law03_RateParts.o1)
def g_law03_RateParts.c0 : ACode :=
  .cond (.t 23) (.seq (.region [6] (some []) none
      [⟨some 24, .call 81 [], [], [], none, none⟩,
       ⟨some 6, .mv (.t 24), [], [], none, none⟩])
   (.ret))
  (.skip)
def g_law03_RateParts.o25 : List AOper :=
  [⟨some 94, .pick (.t 92) (.t 93) (.c (.d (.bool false))), [], [], none, none⟩,
     ⟨some 6, .mv (.t 94), [], [], none, none⟩]
def g_law03_RateParts.o24 : List AOper :=
  (⟨some 93, .call 81 [], [], [], (some (45, 92, true)), (some ([92, 93], (some [])))⟩ ::
     g_law03_RateParts.o25)
def g_law03_RateParts.o23 : List AOper :=
  (⟨some 91, .pick (.t 79) (.t 90) (.c (.d (.bool false))), [], [], none, none⟩ ::
     ⟨some 92, .mv (.t 91), [], [], none, (some ([92], (some [])))⟩ ::
     g_law03_RateParts.o24)
def g_law03_RateParts.o22 : List AOper :=
  (⟨some 90, .pick (.t 82) (.c (.d (.bool true))) (.t 89), [], [], (some (32, 79, true)), (some ([79, 90], (some [])))⟩ ::
     g_law03_RateParts.o23)
def g_law03_RateParts.o21 : List AOper :=
  (⟨some 89, .pick (.t 85) (.t 88) (.c (.d (.bool false))), [], [], (some (35, 82, false)), (some ([79, 82, 89], (some [])))⟩ ::
     g_law03_RateParts.o22)
def g_law03_RateParts.o20 : List AOper :=
  (⟨some 86, .mv (.t 8), [], [], (some (38, 85, true)), none⟩ ::
     ⟨some 87, .mv (.t 0), [], [], (some (38, 85, true)), none⟩ ::
     ⟨some 88, .bin .geq (.t 86) (.t 87), [], [], (some (38, 85, true)), (some ([79, 82, 85, 88], (some [])))⟩ ::
     g_law03_RateParts.o21)
def g_law03_RateParts.o19 : List AOper :=
  (⟨some 83, .mv (.t 8), [], [], (some (35, 82, false)), none⟩ ::
     ⟨some 84, .bin .leq (.t 83) (.c (.d (.int .i64 0))), [], [], (some (35, 82, false)), none⟩ ::
     ⟨some 85, .mv (.t 84), [], [], (some (35, 82, false)), (some ([0, 8, 79, 82, 85], (some [])))⟩ ::
     g_law03_RateParts.o20)
def g_law03_RateParts.o18 : List AOper :=
  (⟨some 80, .mv (.t 0), [], [], (some (32, 79, true)), none⟩ ::
     ⟨some 81, .bin .geq (.t 80) (.c (.d (.int .i64 0))), [], [], (some (32, 79, true)), none⟩ ::
     ⟨some 82, .mv (.t 81), [], [], (some (32, 79, true)), (some ([0, 8, 79, 82], (some [])))⟩ ::
     g_law03_RateParts.o19)
def g_law03_RateParts.o17 : List AOper :=
  (⟨some 78, .pick (.t 66) (.t 77) (.c (.d (.bool false))), [], [], none, none⟩ ::
     ⟨some 79, .mv (.t 78), [], [], none, (some ([0, 8, 79], (some [])))⟩ ::
     g_law03_RateParts.o18)
def g_law03_RateParts.o16 : List AOper :=
  (⟨some 77, .pick (.t 69) (.c (.d (.bool true))) (.t 76), [], [], (some (19, 66, true)), (some ([0, 8, 66, 77], (some [])))⟩ ::
     g_law03_RateParts.o17)
def g_law03_RateParts.o15 : List AOper :=
  (⟨some 76, .pick (.t 72) (.t 75) (.c (.d (.bool false))), [], [], (some (22, 69, false)), (some ([0, 8, 66, 69, 76], (some [])))⟩ ::
     g_law03_RateParts.o16)
def g_law03_RateParts.o14 : List AOper :=
  (⟨some 73, .mv (.t 8), [], [], (some (25, 72, true)), none⟩ ::
     ⟨some 74, .mv (.t 0), [], [], (some (25, 72, true)), none⟩ ::
     ⟨some 75, .bin .leq (.t 73) (.t 74), [], [], (some (25, 72, true)), (some ([0, 8, 66, 69, 72, 75], (some [])))⟩ ::
     g_law03_RateParts.o15)
def g_law03_RateParts.o13 : List AOper :=
  (⟨some 70, .mv (.t 8), [], [], (some (22, 69, false)), none⟩ ::
     ⟨some 71, .bin .geq (.t 70) (.c (.d (.int .i64 0))), [], [], (some (22, 69, false)), none⟩ ::
     ⟨some 72, .mv (.t 71), [], [], (some (22, 69, false)), (some ([0, 8, 66, 69, 72], (some [])))⟩ ::
     g_law03_RateParts.o14)
def g_law03_RateParts.o12 : List AOper :=
  (⟨some 67, .mv (.t 0), [], [], (some (19, 66, true)), none⟩ ::
     ⟨some 68, .bin .lss (.t 67) (.c (.d (.int .i64 0))), [], [], (some (19, 66, true)), none⟩ ::
     ⟨some 69, .mv (.t 68), [], [], (some (19, 66, true)), (some ([0, 8, 66, 69], (some [])))⟩ ::
     g_law03_RateParts.o13)
def g_law03_RateParts.o11 : List AOper :=
  (⟨some 65, .pick (.t 61) (.t 64) (.c (.d (.bool false))), [], [], none, none⟩ ::
     ⟨some 66, .mv (.t 65), [], [], none, (some ([0, 8, 66], (some [])))⟩ ::
     g_law03_RateParts.o12)
def g_law03_RateParts.o10 : List AOper :=
  (⟨some 62, .mv (.t 12), [], [], (some (14, 61, true)), none⟩ ::
     ⟨some 63, .mv (.t 0), [], [], (some (14, 61, true)), none⟩ ::
     ⟨some 64, .bin .eql (.t 62) (.t 63), [], [], (some (14, 61, true)), (some ([0, 8, 61, 64], (some [])))⟩ ::
     g_law03_RateParts.o11)
def g_law03_RateParts.o9 : List AOper :=
  (⟨some 60, .pick (.t 57) (.t 59) (.c (.d (.bool false))), [], [], none, none⟩ ::
     ⟨some 61, .mv (.t 60), [], [], none, (some ([0, 8, 12, 61], (some [])))⟩ ::
     g_law03_RateParts.o10)
def g_law03_RateParts.o8 : List AOper :=
  (⟨some 58, .mv (.t 10), [], [], (some (10, 57, true)), none⟩ ::
     ⟨some 59, .bin .eql (.t 58) (.c (.d (.int .i64 0))), [], [], (some (10, 57, true)), (some ([0, 8, 12, 57, 59], (some [])))⟩ ::
     g_law03_RateParts.o9)
def g_law03_RateParts.o7 : List AOper :=
  (⟨some 56, .pick (.t 53) (.t 55) (.c (.d (.bool false))), [], [], none, none⟩ ::
     ⟨some 57, .mv (.t 56), [], [], none, (some ([0, 8, 10, 12, 57], (some [])))⟩ ::
     g_law03_RateParts.o8)
def g_law03_RateParts.o6 : List AOper :=
  (⟨some 54, .mv (.t 13), [], [], (some (6, 53, true)), none⟩ ::
     ⟨some 55, .bin .eql (.t 54) (.c (.d (.int .i64 0))), [], [], (some (6, 53, true)), (some ([0, 8, 10, 12, 53, 55], (some [])))⟩ ::
     g_law03_RateParts.o7)
def g_law03_RateParts.o5 : List AOper :=
  (⟨some 52, .pick (.t 49) (.t 51) (.c (.d (.bool false))), [], [], none, none⟩ ::
     ⟨some 53, .mv (.t 52), [], [], none, (some ([0, 8, 10, 12, 13, 53], (some [])))⟩ ::
     g_law03_RateParts.o6)
def g_law03_RateParts.o4 : List AOper :=
  (⟨some 50, .mv (.t 11), [], [], (some (2, 49, true)), none⟩ ::
     ⟨some 51, .bin .eql (.t 50) (.c (.d (.int .i64 0))), [], [], (some (2, 49, true)), (some ([0, 8, 10, 12, 13, 49, 51], (some [])))⟩ ::
     g_law03_RateParts.o5)
def g_law03_RateParts.c1 : ACode :=
  .ret
def g_law03_RateParts.c2 : ACode :=
  .seq (.region [6] (some []) none
     (⟨some 47, .mv (.t 9), [], [], none, none⟩ ::
      ⟨some 48, .bin .eql (.t 47) (.c (.d (.int .i64 0))), [], [], none, none⟩ ::
      ⟨some 49, .mv (.t 48), [], [], none, (some ([0, 8, 10, 11, 12, 13, 49], (some [])))⟩ ::
      g_law03_RateParts.o4))
  (g_law03_RateParts.c1)
def g_law03_RateParts.c3 : ACode :=
  .seq (.region [0, 8, 9, 10, 11, 12, 13] (some []) none
     [⟨some 42, .mv (.t 0), [], [], none, none⟩,
      ⟨some 43, .mv (.t 7), [], [], none, none⟩,
      ⟨some 44, .call 82 [(.t 42), (.c (.d (.int .i64 10000))), (.t 43)], [], [], none, none⟩,
      ⟨some 41, .mv (.t 44), [], [], none, none⟩,
      ⟨some 45, .ext (.t 41) 0, [], [], none, none⟩,
      ⟨some 46, .ext (.t 41) 1, [], [], none, none⟩,
      ⟨some 12, .mv (.t 45), [], [], none, none⟩,
      ⟨some 13, .mv (.t 46), [], [], none, none⟩])
  (g_law03_RateParts.c2)
def g_law03_RateParts.c4 : ACode :=
  .seq (.region [0, 7, 8, 9, 10, 11] (some []) none
     [⟨some 36, .mv (.t 0), [], [], none, none⟩,
      ⟨some 37, .mv (.t 7), [], [], none, none⟩,
      ⟨some 38, .call 82 [(.t 36), (.c (.d (.int .i64 0))), (.t 37)], [], [], none, none⟩,
      ⟨some 35, .mv (.t 38), [], [], none, none⟩,
      ⟨some 39, .ext (.t 35) 0, [], [], none, none⟩,
      ⟨some 40, .ext (.t 35) 1, [], [], none, none⟩,
      ⟨some 10, .mv (.t 39), [], [], none, none⟩,
      ⟨some 11, .mv (.t 40), [], [], none, none⟩])
  (g_law03_RateParts.c3)
def g_law03_RateParts.c5 : ACode :=
  .seq (.region [0, 7, 8, 9] (some []) none
     [⟨some 29, .mv (.t 0), [], [], none, none⟩,
      ⟨some 30, .mv (.t 1), [], [], none, none⟩,
      ⟨some 31, .mv (.t 7), [], [], none, none⟩,
      ⟨some 32, .call 82 [(.t 29), (.t 30), (.t 31)], [], [], none, none⟩,
      ⟨some 28, .mv (.t 32), [], [], none, none⟩,
      ⟨some 33, .ext (.t 28) 0, [], [], none, none⟩,
      ⟨some 34, .ext (.t 28) 1, [], [], none, none⟩,
      ⟨some 8, .mv (.t 33), [], [], none, none⟩,
      ⟨some 9, .mv (.t 34), [], [], none, none⟩])
  (g_law03_RateParts.c4)
def g_law03_RateParts.c6 : ACode :=
  .seq (.region [0, 1, 7] (some []) none
     [⟨some 25, .mv (.t 2), [], [], none, none⟩,
      ⟨some 26, .bin .rem (.t 25) (.c (.d (.int .u8 4))), [], [], none, none⟩,
      ⟨some 27, .conv .i64 (.t 26), [], [], none, none⟩,
      ⟨some 7, .mv (.t 27), [], [], none, none⟩])
  (g_law03_RateParts.c5)
def g_law03_RateParts.code : ACode :=
  .seq (.region [0, 1, 2] (some []) none
     [⟨some 6, .mv (.c (.d (.bool false))), [], [], none, none⟩])
  (.seq (.seq (.region [0, 1, 2, 23] (some []) none
       (⟨some 14, .mv (.t 0), [], [], none, none⟩ ::
        ⟨some 15, .bin .eql (.t 14) (.c (.d (.int .i64 (-9223372036854775808)))), [], [], none, none⟩ ::
        ⟨some 16, .mv (.t 15), [], [], none, (some ([0, 1, 2, 16], (some [])))⟩ ::
        g_law03_RateParts.o0))
    (g_law03_RateParts.c0))
   (g_law03_RateParts.c6))
def g_law03_RateParts : AFn := { N := 95, res := [.slot 6], own := [], frz := [], code := g_law03_RateParts.code }
def g_law03_RateHalves.o11 : List AOper :=
  [⟨some 82, .pick (.t 80) (.t 81) (.c (.d (.bool false))), [], [], none, none⟩,
     ⟨some 6, .mv (.t 82), [], [], none, none⟩]
def g_law03_RateHalves.o10 : List AOper :=
  (⟨some 81, .call 81 [], [], [], (some (26, 80, true)), (some ([80, 81], (some [])))⟩ ::
     g_law03_RateHalves.o11)
def g_law03_RateHalves.o9 : List AOper :=
  (⟨some 79, .pick (.t 75) (.t 78) (.c (.d (.bool false))), [], [], none, none⟩ ::
     ⟨some 80, .mv (.t 79), [], [], none, (some ([80], (some [])))⟩ ::
     g_law03_RateHalves.o10)
def g_law03_RateHalves.o8 : List AOper :=
  (⟨some 76, .mv (.t 16), [], [], (some (21, 75, true)), none⟩ ::
     ⟨some 77, .mv (.t 14), [], [], (some (21, 75, true)), none⟩ ::
     ⟨some 78, .bin .leq (.t 76) (.t 77), [], [], (some (21, 75, true)), (some ([75, 78], (some [])))⟩ ::
     g_law03_RateHalves.o9)
def g_law03_RateHalves.o7 : List AOper :=
  (⟨some 74, .pick (.t 68) (.t 73) (.c (.d (.bool false))), [], [], none, none⟩ ::
     ⟨some 75, .mv (.t 74), [], [], none, (some ([14, 16, 75], (some [])))⟩ ::
     g_law03_RateHalves.o8)
def g_law03_RateHalves.o6 : List AOper :=
  (⟨some 69, .mv (.t 10), [], [], (some (14, 68, true)), none⟩ ::
     ⟨some 70, .mv (.t 12), [], [], (some (14, 68, true)), none⟩ ::
     ⟨some 71, .bin .add (.t 69) (.t 70), [], [], (some (14, 68, true)), none⟩ ::
     ⟨some 72, .mv (.t 7), [], [], (some (14, 68, true)), none⟩ ::
     ⟨some 73, .bin .eql (.t 71) (.t 72), [], [], (some (14, 68, true)), (some ([14, 16, 68, 73], (some [])))⟩ ::
     g_law03_RateHalves.o7)
def g_law03_RateHalves.o5 : List AOper :=
  (⟨some 67, .pick (.t 64) (.t 66) (.c (.d (.bool false))), [], [], none, none⟩ ::
     ⟨some 68, .mv (.t 67), [], [], none, (some ([7, 10, 12, 14, 16, 68], (some [])))⟩ ::
     g_law03_RateHalves.o6)
def g_law03_RateHalves.o4 : List AOper :=
  (⟨some 65, .mv (.t 17), [], [], (some (10, 64, true)), none⟩ ::
     ⟨some 66, .bin .eql (.t 65) (.c (.d (.int .i64 0))), [], [], (some (10, 64, true)), (some ([7, 10, 12, 14, 16, 64, 66], (some [])))⟩ ::
     g_law03_RateHalves.o5)
def g_law03_RateHalves.o3 : List AOper :=
  (⟨some 63, .pick (.t 60) (.t 62) (.c (.d (.bool false))), [], [], none, none⟩ ::
     ⟨some 64, .mv (.t 63), [], [], none, (some ([7, 10, 12, 14, 16, 17, 64], (some [])))⟩ ::
     g_law03_RateHalves.o4)
def g_law03_RateHalves.o2 : List AOper :=
  (⟨some 61, .mv (.t 15), [], [], (some (6, 60, true)), none⟩ ::
     ⟨some 62, .bin .eql (.t 61) (.c (.d (.int .i64 0))), [], [], (some (6, 60, true)), (some ([7, 10, 12, 14, 16, 17, 60, 62], (some [])))⟩ ::
     g_law03_RateHalves.o3)
def g_law03_RateHalves.o1 : List AOper :=
  (⟨some 59, .pick (.t 56) (.t 58) (.c (.d (.bool false))), [], [], none, none⟩ ::
     ⟨some 60, .mv (.t 59), [], [], none, (some ([7, 10, 12, 14, 15, 16, 17, 60], (some [])))⟩ ::
     g_law03_RateHalves.o2)
def g_law03_RateHalves.o0 : List AOper :=
  (⟨some 57, .mv (.t 13), [], [], (some (2, 56, true)), none⟩ ::
     ⟨some 58, .bin .eql (.t 57) (.c (.d (.int .i64 0))), [], [], (some (2, 56, true)), (some ([7, 10, 12, 14, 15, 16, 17, 56, 58], (some [])))⟩ ::
     g_law03_RateHalves.o1)
def g_law03_RateHalves.c0 : ACode :=
  .ret
def g_law03_RateHalves.c1 : ACode :=
  .seq (.region [6] (some []) none
     (⟨some 54, .mv (.t 11), [], [], none, none⟩ ::
      ⟨some 55, .bin .eql (.t 54) (.c (.d (.int .i64 0))), [], [], none, none⟩ ::
      ⟨some 56, .mv (.t 55), [], [], none, (some ([7, 10, 12, 13, 14, 15, 16, 17, 56], (some [])))⟩ ::
      g_law03_RateHalves.o0))
  (g_law03_RateHalves.c0)
def g_law03_RateHalves.c2 : ACode :=
  .seq (.region [7, 10, 11, 12, 13, 14, 15, 16, 17] (some []) none
     [⟨some 49, .mv (.t 7), [], [], none, none⟩,
      ⟨some 50, .mv (.t 8), [], [], none, none⟩,
      ⟨some 51, .call 82 [(.t 49), (.t 50), (.c (.d (.int .i64 3)))], [], [], none, none⟩,
      ⟨some 48, .mv (.t 51), [], [], none, none⟩,
      ⟨some 52, .ext (.t 48) 0, [], [], none, none⟩,
      ⟨some 53, .ext (.t 48) 1, [], [], none, none⟩,
      ⟨some 16, .mv (.t 52), [], [], none, none⟩,
      ⟨some 17, .mv (.t 53), [], [], none, none⟩])
  (g_law03_RateHalves.c1)
def g_law03_RateHalves.c3 : ACode :=
  .seq (.region [7, 8, 10, 11, 12, 13, 14, 15] (some []) none
     [⟨some 43, .mv (.t 7), [], [], none, none⟩,
      ⟨some 44, .mv (.t 9), [], [], none, none⟩,
      ⟨some 45, .call 82 [(.t 43), (.t 44), (.c (.d (.int .i64 3)))], [], [], none, none⟩,
      ⟨some 42, .mv (.t 45), [], [], none, none⟩,
      ⟨some 46, .ext (.t 42) 0, [], [], none, none⟩,
      ⟨some 47, .ext (.t 42) 1, [], [], none, none⟩,
      ⟨some 14, .mv (.t 46), [], [], none, none⟩,
      ⟨some 15, .mv (.t 47), [], [], none, none⟩])
  (g_law03_RateHalves.c2)
def g_law03_RateHalves.c4 : ACode :=
  .seq (.region [7, 8, 9, 10, 11, 12, 13] (some []) none
     [⟨some 36, .mv (.t 7), [], [], none, none⟩,
      ⟨some 37, .mv (.t 8), [], [], none, none⟩,
      ⟨some 38, .bin .sub (.c (.d (.int .i64 10000))) (.t 37), [], [], none, none⟩,
      ⟨some 39, .call 82 [(.t 36), (.t 38), (.c (.d (.int .i64 1)))], [], [], none, none⟩,
      ⟨some 35, .mv (.t 39), [], [], none, none⟩,
      ⟨some 40, .ext (.t 35) 0, [], [], none, none⟩,
      ⟨some 41, .ext (.t 35) 1, [], [], none, none⟩,
      ⟨some 12, .mv (.t 40), [], [], none, none⟩,
      ⟨some 13, .mv (.t 41), [], [], none, none⟩])
  (g_law03_RateHalves.c3)
def g_law03_RateHalves.c5 : ACode :=
  .seq (.region [7, 8, 9, 10, 11] (some []) none
     [⟨some 30, .mv (.t 7), [], [], none, none⟩,
      ⟨some 31, .mv (.t 8), [], [], none, none⟩,
      ⟨some 32, .call 82 [(.t 30), (.t 31), (.c (.d (.int .i64 0)))], [], [], none, none⟩,
      ⟨some 29, .mv (.t 32), [], [], none, none⟩,
      ⟨some 33, .ext (.t 29) 0, [], [], none, none⟩,
      ⟨some 34, .ext (.t 29) 1, [], [], none, none⟩,
      ⟨some 10, .mv (.t 33), [], [], none, none⟩,
      ⟨some 11, .mv (.t 34), [], [], none, none⟩])
  (g_law03_RateHalves.c4)
def g_law03_RateHalves.c6 : ACode :=
  .seq (.region [7, 8, 9] (some []) none
     [⟨some 24, .mv (.t 8), [], [], none, none⟩,
      ⟨some 25, .mv (.t 2), [], [], none, none⟩,
      ⟨some 26, .conv .i64 (.t 25), [], [], none, none⟩,
      ⟨some 27, .bin .add (.t 24) (.t 26), [], [], none, none⟩,
      ⟨some 28, .mm false [(.t 27), (.c (.d (.int .i64 10000)))], [], [], none, none⟩,
      ⟨some 9, .mv (.t 28), [], [], none, none⟩])
  (g_law03_RateHalves.c5)
def g_law03_RateHalves.c7 : ACode :=
  .seq (.region [2, 7, 8] (some []) none
     [⟨some 21, .mv (.t 1), [], [], none, none⟩,
      ⟨some 22, .bin .rem (.t 21) (.c (.d (.int .u16 10001))), [], [], none, none⟩,
      ⟨some 23, .conv .i64 (.t 22), [], [], none, none⟩,
      ⟨some 8, .mv (.t 23), [], [], none, none⟩])
  (g_law03_RateHalves.c6)
def g_law03_RateHalves.code : ACode :=
  .seq (.region [0, 1, 2] (some []) none
     [⟨some 6, .mv (.c (.d (.bool false))), [], [], none, none⟩])
  (.seq (.region [1, 2, 7] (some []) none
      [⟨some 18, .mv (.t 0), [], [], none, none⟩,
       ⟨some 19, .bin .shr (.t 18) (.c (.d (.int .u64 1))), [], [], none, none⟩,
       ⟨some 20, .conv .i64 (.t 19), [], [], none, none⟩,
       ⟨some 7, .mv (.t 20), [], [], none, none⟩])
   (g_law03_RateHalves.c7))
def g_law03_RateHalves : AFn := { N := 83, res := [.slot 6], own := [], frz := [], code := g_law03_RateHalves.code }
def g_law03_RateSums.o9 : List AOper :=
  [⟨some 72, .pick (.t 70) (.t 71) (.c (.d (.bool false))), [], [], none, none⟩,
     ⟨some 6, .mv (.t 72), [], [], none, none⟩]
def g_law03_RateSums.o8 : List AOper :=
  (⟨some 71, .call 81 [], [], [], (some (25, 70, true)), (some ([70, 71], (some [])))⟩ ::
     g_law03_RateSums.o9)
def g_law03_RateSums.o7 : List AOper :=
  (⟨some 69, .pick (.t 62) (.t 68) (.c (.d (.bool false))), [], [], none, none⟩ ::
     ⟨some 70, .mv (.t 69), [], [], none, (some ([70], (some [])))⟩ ::
     g_law03_RateSums.o8)
def g_law03_RateSums.o6 : List AOper :=
  (⟨some 63, .mv (.t 14), [], [], (some (17, 62, true)), none⟩ ::
     ⟨some 64, .mv (.t 10), [], [], (some (17, 62, true)), none⟩ ::
     ⟨some 65, .bin .sub (.t 63) (.t 64), [], [], (some (17, 62, true)), none⟩ ::
     ⟨some 66, .mv (.t 12), [], [], (some (17, 62, true)), none⟩ ::
     ⟨some 67, .bin .sub (.t 65) (.t 66), [], [], (some (17, 62, true)), none⟩ ::
     ⟨some 68, .bin .leq (.t 67) (.c (.d (.int .i64 1))), [], [], (some (17, 62, true)), (some ([62, 68], (some [])))⟩ ::
     g_law03_RateSums.o7)
def g_law03_RateSums.o5 : List AOper :=
  (⟨some 61, .pick (.t 55) (.t 60) (.c (.d (.bool false))), [], [], none, none⟩ ::
     ⟨some 62, .mv (.t 61), [], [], none, (some ([10, 12, 14, 62], (some [])))⟩ ::
     g_law03_RateSums.o6)
def g_law03_RateSums.o4 : List AOper :=
  (⟨some 56, .mv (.t 10), [], [], (some (10, 55, true)), none⟩ ::
     ⟨some 57, .mv (.t 12), [], [], (some (10, 55, true)), none⟩ ::
     ⟨some 58, .bin .add (.t 56) (.t 57), [], [], (some (10, 55, true)), none⟩ ::
     ⟨some 59, .mv (.t 14), [], [], (some (10, 55, true)), none⟩ ::
     ⟨some 60, .bin .leq (.t 58) (.t 59), [], [], (some (10, 55, true)), (some ([10, 12, 14, 55, 60], (some [])))⟩ ::
     g_law03_RateSums.o5)
def g_law03_RateSums.o3 : List AOper :=
  (⟨some 54, .pick (.t 51) (.t 53) (.c (.d (.bool false))), [], [], none, none⟩ ::
     ⟨some 55, .mv (.t 54), [], [], none, (some ([10, 12, 14, 55], (some [])))⟩ ::
     g_law03_RateSums.o4)
def g_law03_RateSums.o2 : List AOper :=
  (⟨some 52, .mv (.t 15), [], [], (some (6, 51, true)), none⟩ ::
     ⟨some 53, .bin .eql (.t 52) (.c (.d (.int .i64 0))), [], [], (some (6, 51, true)), (some ([10, 12, 14, 51, 53], (some [])))⟩ ::
     g_law03_RateSums.o3)
def g_law03_RateSums.o1 : List AOper :=
  (⟨some 50, .pick (.t 47) (.t 49) (.c (.d (.bool false))), [], [], none, none⟩ ::
     ⟨some 51, .mv (.t 50), [], [], none, (some ([10, 12, 14, 15, 51], (some [])))⟩ ::
     g_law03_RateSums.o2)
def g_law03_RateSums.o0 : List AOper :=
  (⟨some 48, .mv (.t 13), [], [], (some (2, 47, true)), none⟩ ::
     ⟨some 49, .bin .eql (.t 48) (.c (.d (.int .i64 0))), [], [], (some (2, 47, true)), (some ([10, 12, 14, 15, 47, 49], (some [])))⟩ ::
     g_law03_RateSums.o1)
def g_law03_RateSums.c0 : ACode :=
  .ret
def g_law03_RateSums.c1 : ACode :=
  .seq (.region [6] (some []) none
     (⟨some 45, .mv (.t 11), [], [], none, none⟩ ::
      ⟨some 46, .bin .eql (.t 45) (.c (.d (.int .i64 0))), [], [], none, none⟩ ::
      ⟨some 47, .mv (.t 46), [], [], none, (some ([10, 12, 13, 14, 15, 47], (some [])))⟩ ::
      g_law03_RateSums.o0))
  (g_law03_RateSums.c0)
def g_law03_RateSums.c2 : ACode :=
  .seq (.region [10, 11, 12, 13, 14, 15] (some []) none
     [⟨some 38, .mv (.t 7), [], [], none, none⟩,
      ⟨some 39, .mv (.t 8), [], [], none, none⟩,
      ⟨some 40, .mv (.t 9), [], [], none, none⟩,
      ⟨some 41, .bin .add (.t 39) (.t 40), [], [], none, none⟩,
      ⟨some 42, .call 82 [(.t 38), (.t 41), (.c (.d (.int .i64 0)))], [], [], none, none⟩,
      ⟨some 37, .mv (.t 42), [], [], none, none⟩,
      ⟨some 43, .ext (.t 37) 0, [], [], none, none⟩,
      ⟨some 44, .ext (.t 37) 1, [], [], none, none⟩,
      ⟨some 14, .mv (.t 43), [], [], none, none⟩,
      ⟨some 15, .mv (.t 44), [], [], none, none⟩])
  (g_law03_RateSums.c1)
def g_law03_RateSums.c3 : ACode :=
  .seq (.region [7, 8, 9, 10, 11, 12, 13] (some []) none
     [⟨some 32, .mv (.t 7), [], [], none, none⟩,
      ⟨some 33, .mv (.t 9), [], [], none, none⟩,
      ⟨some 34, .call 82 [(.t 32), (.t 33), (.c (.d (.int .i64 0)))], [], [], none, none⟩,
      ⟨some 31, .mv (.t 34), [], [], none, none⟩,
      ⟨some 35, .ext (.t 31) 0, [], [], none, none⟩,
      ⟨some 36, .ext (.t 31) 1, [], [], none, none⟩,
      ⟨some 12, .mv (.t 35), [], [], none, none⟩,
      ⟨some 13, .mv (.t 36), [], [], none, none⟩])
  (g_law03_RateSums.c2)
def g_law03_RateSums.c4 : ACode :=
  .seq (.region [7, 8, 9, 10, 11] (some []) none
     [⟨some 26, .mv (.t 7), [], [], none, none⟩,
      ⟨some 27, .mv (.t 8), [], [], none, none⟩,
      ⟨some 28, .call 82 [(.t 26), (.t 27), (.c (.d (.int .i64 0)))], [], [], none, none⟩,
      ⟨some 25, .mv (.t 28), [], [], none, none⟩,
      ⟨some 29, .ext (.t 25) 0, [], [], none, none⟩,
      ⟨some 30, .ext (.t 25) 1, [], [], none, none⟩,
      ⟨some 10, .mv (.t 29), [], [], none, none⟩,
      ⟨some 11, .mv (.t 30), [], [], none, none⟩])
  (g_law03_RateSums.c3)
def g_law03_RateSums.c5 : ACode :=
  .seq (.region [7, 8, 9] (some []) none
     [⟨some 22, .mv (.t 2), [], [], none, none⟩,
      ⟨some 23, .bin .rem (.t 22) (.c (.d (.int .u16 5001))), [], [], none, none⟩,
      ⟨some 24, .conv .i64 (.t 23), [], [], none, none⟩,
      ⟨some 9, .mv (.t 24), [], [], none, none⟩])
  (g_law03_RateSums.c4)
def g_law03_RateSums.c6 : ACode :=
  .seq (.region [2, 7, 8] (some []) none
     [⟨some 19, .mv (.t 1), [], [], none, none⟩,
      ⟨some 20, .bin .rem (.t 19) (.c (.d (.int .u16 5001))), [], [], none, none⟩,
      ⟨some 21, .conv .i64 (.t 20), [], [], none, none⟩,
      ⟨some 8, .mv (.t 21), [], [], none, none⟩])
  (g_law03_RateSums.c5)
def g_law03_RateSums.code : ACode :=
  .seq (.region [0, 1, 2] (some []) none
     [⟨some 6, .mv (.c (.d (.bool false))), [], [], none, none⟩])
  (.seq (.region [1, 2, 7] (some []) none
      [⟨some 16, .mv (.t 0), [], [], none, none⟩,
       ⟨some 17, .bin .shr (.t 16) (.c (.d (.int .u64 1))), [], [], none, none⟩,
       ⟨some 18, .conv .i64 (.t 17), [], [], none, none⟩,
       ⟨some 7, .mv (.t 18), [], [], none, none⟩])
   (g_law03_RateSums.c6))
def g_law03_RateSums : AFn := { N := 73, res := [.slot 6], own := [], frz := [], code := g_law03_RateSums.code }
def g_law03_RateAll.o13 : List AOper :=
  [⟨some 90, .pick (.t 88) (.t 89) (.c (.d (.bool false))), [], [], none, none⟩,
     ⟨some 6, .mv (.t 90), [], [], none, none⟩]
def g_law03_RateAll.o12 : List AOper :=
  (⟨some 89, .call 81 [], [], [], (some (30, 88, true)), (some ([88, 89], (some [])))⟩ ::
     g_law03_RateAll.o13)
def g_law03_RateAll.o11 : List AOper :=
  (⟨some 87, .pick (.t 84) (.t 86) (.c (.d (.bool false))), [], [], none, none⟩ ::
     ⟨some 88, .mv (.t 87), [], [], none, (some ([88], (some [])))⟩ ::
     g_law03_RateAll.o12)
def g_law03_RateAll.o10 : List AOper :=
  (⟨some 85, .mv (.t 17), [], [], (some (26, 84, true)), none⟩ ::
     ⟨some 86, .bin .eql (.t 85) (.c (.d (.int .i64 0))), [], [], (some (26, 84, true)), (some ([84, 86], (some [])))⟩ ::
     g_law03_RateAll.o11)
def g_law03_RateAll.o9 : List AOper :=
  (⟨some 83, .pick (.t 80) (.t 82) (.c (.d (.bool false))), [], [], none, none⟩ ::
     ⟨some 84, .mv (.t 83), [], [], none, (some ([17, 84], (some [])))⟩ ::
     g_law03_RateAll.o10)
def g_law03_RateAll.o8 : List AOper :=
  (⟨some 81, .mv (.t 15), [], [], (some (22, 80, true)), none⟩ ::
     ⟨some 82, .bin .eql (.t 81) (.c (.d (.int .i64 0))), [], [], (some (22, 80, true)), (some ([17, 80, 82], (some [])))⟩ ::
     g_law03_RateAll.o9)
def g_law03_RateAll.o7 : List AOper :=
  (⟨some 79, .pick (.t 76) (.t 78) (.c (.d (.bool false))), [], [], none, none⟩ ::
     ⟨some 80, .mv (.t 79), [], [], none, (some ([15, 17, 80], (some [])))⟩ ::
     g_law03_RateAll.o8)
def g_law03_RateAll.o6 : List AOper :=
  (⟨some 77, .mv (.t 13), [], [], (some (18, 76, true)), none⟩ ::
     ⟨some 78, .bin .eql (.t 77) (.c (.d (.int .i64 0))), [], [], (some (18, 76, true)), (some ([15, 17, 76, 78], (some [])))⟩ ::
     g_law03_RateAll.o7)
def g_law03_RateAll.o5 : List AOper :=
  (⟨some 75, .pick (.t 72) (.t 74) (.c (.d (.bool false))), [], [], none, none⟩ ::
     ⟨some 76, .mv (.t 75), [], [], none, (some ([13, 15, 17, 76], (some [])))⟩ ::
     g_law03_RateAll.o6)
def g_law03_RateAll.o4 : List AOper :=
  (⟨some 73, .mv (.t 11), [], [], (some (14, 72, true)), none⟩ ::
     ⟨some 74, .bin .eql (.t 73) (.c (.d (.int .i64 0))), [], [], (some (14, 72, true)), (some ([13, 15, 17, 72, 74], (some [])))⟩ ::
     g_law03_RateAll.o5)
def g_law03_RateAll.o3 : List AOper :=
  (⟨some 71, .pick (.t 65) (.t 70) (.c (.d (.bool false))), [], [], none, none⟩ ::
     ⟨some 72, .mv (.t 71), [], [], none, (some ([11, 13, 15, 17, 72], (some [])))⟩ ::
     g_law03_RateAll.o4)
def g_law03_RateAll.o2 : List AOper :=
  (⟨some 66, .mv (.t 14), [], [], (some (7, 65, true)), none⟩ ::
     ⟨some 67, .mv (.t 16), [], [], (some (7, 65, true)), none⟩ ::
     ⟨some 68, .bin .add (.t 66) (.t 67), [], [], (some (7, 65, true)), none⟩ ::
     ⟨some 69, .mv (.t 7), [], [], (some (7, 65, true)), none⟩ ::
     ⟨some 70, .bin .eql (.t 68) (.t 69), [], [], (some (7, 65, true)), (some ([11, 13, 15, 17, 65, 70], (some [])))⟩ ::
     g_law03_RateAll.o3)
def g_law03_RateAll.o1 : List AOper :=
  (⟨some 64, .pick (.t 61) (.t 63) (.c (.d (.bool false))), [], [], none, none⟩ ::
     ⟨some 65, .mv (.t 64), [], [], none, (some ([7, 11, 13, 14, 15, 16, 17, 65], (some [])))⟩ ::
     g_law03_RateAll.o2)
def g_law03_RateAll.o0 : List AOper :=
  (⟨some 62, .mv (.t 12), [], [], (some (3, 61, true)), none⟩ ::
     ⟨some 63, .bin .eql (.t 62) (.c (.d (.int .i64 0))), [], [], (some (3, 61, true)), (some ([7, 11, 13, 14, 15, 16, 17, 61, 63], (some [])))⟩ ::
     g_law03_RateAll.o1)
def g_law03_RateAll.c0 : ACode :=
  .ret
def g_law03_RateAll.c1 : ACode :=
  .seq (.region [6] (some []) none
     (⟨some 58, .mv (.t 10), [], [], none, none⟩ ::
      ⟨some 59, .mv (.t 7), [], [], none, none⟩ ::
      ⟨some 60, .bin .eql (.t 58) (.t 59), [], [], none, none⟩ ::
      ⟨some 61, .mv (.t 60), [], [], none, (some ([7, 11, 12, 13, 14, 15, 16, 17, 61], (some [])))⟩ ::
      g_law03_RateAll.o0))
  (g_law03_RateAll.c0)
def g_law03_RateAll.c2 : ACode :=
  .seq (.region [7, 10, 11, 12, 13, 14, 15, 16, 17] (some []) none
     [⟨some 50, .mv (.t 7), [], [], none, none⟩,
      ⟨some 51, .mv (.t 8), [], [], none, none⟩,
      ⟨some 52, .mv (.t 9), [], [], none, none⟩,
      ⟨some 53, .bin .sub (.t 51) (.t 52), [], [], none, none⟩,
      ⟨some 54, .mv (.t 8), [], [], none, none⟩,
      ⟨some 55, .call 86 [(.t 50), (.t 53), (.t 54), (.c (.d (.int .i64 1)))], [], [], none, none⟩,
      ⟨some 49, .mv (.t 55), [], [], none, none⟩,
      ⟨some 56, .ext (.t 49) 0, [], [], none, none⟩,
      ⟨some 57, .ext (.t 49) 1, [], [], none, none⟩,
      ⟨some 16, .mv (.t 56), [], [], none, none⟩,
      ⟨some 17, .mv (.t 57), [], [], none, none⟩])
  (g_law03_RateAll.c1)
def g_law03_RateAll.c3 : ACode :=
  .seq (.region [7, 8, 9, 10, 11, 12, 13, 14, 15] (some []) none
     [⟨some 43, .mv (.t 7), [], [], none, none⟩,
      ⟨some 44, .mv (.t 9), [], [], none, none⟩,
      ⟨some 45, .mv (.t 8), [], [], none, none⟩,
      ⟨some 46, .call 86 [(.t 43), (.t 44), (.t 45), (.c (.d (.int .i64 0)))], [], [], none, none⟩,
      ⟨some 42, .mv (.t 46), [], [], none, none⟩,
      ⟨some 47, .ext (.t 42) 0, [], [], none, none⟩,
      ⟨some 48, .ext (.t 42) 1, [], [], none, none⟩,
      ⟨some 14, .mv (.t 47), [], [], none, none⟩,
      ⟨some 15, .mv (.t 48), [], [], none, none⟩])
  (g_law03_RateAll.c2)
def g_law03_RateAll.c4 : ACode :=
  .seq (.region [7, 8, 9, 10, 11, 12, 13] (some []) none
     [⟨some 37, .mv (.t 7), [], [], none, none⟩,
      ⟨some 38, .mv (.t 8), [], [], none, none⟩,
      ⟨some 39, .call 86 [(.t 37), (.c (.d (.int .i64 0))), (.t 38), (.c (.d (.int .i64 1)))], [], [], none, none⟩,
      ⟨some 36, .mv (.t 39), [], [], none, none⟩,
      ⟨some 40, .ext (.t 36) 0, [], [], none, none⟩,
      ⟨some 41, .ext (.t 36) 1, [], [], none, none⟩,
      ⟨some 12, .mv (.t 40), [], [], none, none⟩,
      ⟨some 13, .mv (.t 41), [], [], none, none⟩])
  (g_law03_RateAll.c3)
def g_law03_RateAll.c5 : ACode :=
  .seq (.region [7, 8, 9, 10, 11] (some []) none
     [⟨some 30, .mv (.t 7), [], [], none, none⟩,
      ⟨some 31, .mv (.t 8), [], [], none, none⟩,
      ⟨some 32, .mv (.t 8), [], [], none, none⟩,
      ⟨some 33, .call 86 [(.t 30), (.t 31), (.t 32), (.c (.d (.int .i64 2)))], [], [], none, none⟩,
      ⟨some 29, .mv (.t 33), [], [], none, none⟩,
      ⟨some 34, .ext (.t 29) 0, [], [], none, none⟩,
      ⟨some 35, .ext (.t 29) 1, [], [], none, none⟩,
      ⟨some 10, .mv (.t 34), [], [], none, none⟩,
      ⟨some 11, .mv (.t 35), [], [], none, none⟩])
  (g_law03_RateAll.c4)
def g_law03_RateAll.c6 : ACode :=
  .seq (.region [7, 8, 9] (some []) none
     [⟨some 24, .mv (.t 1), [], [], none, none⟩,
      ⟨some 25, .conv .i64 (.t 24), [], [], none, none⟩,
      ⟨some 26, .mv (.t 8), [], [], none, none⟩,
      ⟨some 27, .bin .add (.t 26) (.c (.d (.int .i64 1))), [], [], none, none⟩,
      ⟨some 28, .bin .rem (.t 25) (.t 27), [], [], none, none⟩,
      ⟨some 9, .mv (.t 28), [], [], none, none⟩])
  (g_law03_RateAll.c5)
def g_law03_RateAll.code : ACode :=
  .seq (.region [0, 1, 2] (some []) none
     [⟨some 6, .mv (.c (.d (.bool false))), [], [], none, none⟩])
  (.seq (.region [1, 7, 8] (some []) none
      [⟨some 18, .mv (.t 0), [], [], none, none⟩,
       ⟨some 19, .bin .shr (.t 18) (.c (.d (.int .u64 1))), [], [], none, none⟩,
       ⟨some 20, .conv .i64 (.t 19), [], [], none, none⟩,
       ⟨some 21, .mv (.t 2), [], [], none, none⟩,
       ⟨some 22, .conv .i64 (.t 21), [], [], none, none⟩,
       ⟨some 23, .bin .add (.c (.d (.int .i64 1))) (.t 22), [], [], none, none⟩,
       ⟨some 7, .mv (.t 20), [], [], none, none⟩,
       ⟨some 8, .mv (.t 23), [], [], none, none⟩])
   (g_law03_RateAll.c6))
def g_law03_RateAll : AFn := { N := 91, res := [.slot 6], own := [], frz := [], code := g_law03_RateAll.code }
def g_law03_RateTexts.o1 : List AOper :=
  [⟨some 39, .pick (.t 35) (.c (.d (.bool true))) (.t 38), [], [], none, none⟩]
def g_law03_RateTexts.o0 : List AOper :=
  (⟨some 36, .mv (.t 8), [], [], (some (3, 35, false)), none⟩ ::
     ⟨some 37, .mv (.t 10), [], [], (some (3, 35, false)), none⟩ ::
     ⟨some 38, .beq true (.t 36) (.t 37), [], [], (some (3, 35, false)), (some ([0, 5, 6, 35, 38], (some [])))⟩ ::
     g_law03_RateTexts.o1)
def g_law03_RateTexts.c0 : ACode :=
  .cond (.t 39) (.seq (.region [4] (some []) none
      [⟨some 4, .mv (.c (.d (.bool false))), [], [], none, none⟩])
   (.ret))
  (.skip)
def g_law03_RateTexts.o3 : List AOper :=
  [⟨some 45, .pick (.t 42) (.c (.d (.bool true))) (.t 44), [], [], none, none⟩]
def g_law03_RateTexts.o2 : List AOper :=
  (⟨some 43, .mv (.t 0), [], [], (some (2, 42, false)), none⟩ ::
     ⟨some 44, .bin .gtr (.t 43) (.c (.d (.int .i64 10000))), [], [], (some (2, 42, false)), (some ([0, 5, 6, 42, 44], (some [])))⟩ ::
     g_law03_RateTexts.o3)
def g_law03_RateTexts.o7 : List AOper :=
  [⟨some 54, .pick (.t 52) (.t 53) (.c (.d (.bool false))), [], [], none, none⟩,
     ⟨some 4, .mv (.t 54), [], [], none, none⟩]
def g_law03_RateTexts.o6 : List AOper :=
  (⟨some 53, .call 81 [], [], [], (some (6, 52, true)), (some ([52, 53], (some [])))⟩ ::
     g_law03_RateTexts.o7)
def g_law03_RateTexts.o5 : List AOper :=
  (⟨some 51, .pick (.t 48) (.t 50) (.c (.d (.bool false))), [], [], none, none⟩ ::
     ⟨some 52, .mv (.t 51), [], [], none, (some ([52], (some [])))⟩ ::
     g_law03_RateTexts.o6)
def g_law03_RateTexts.o4 : List AOper :=
  (⟨some 49, .mv (.t 6), [], [], (some (2, 48, true)), none⟩ ::
     ⟨some 50, .bin .eql (.t 49) (.c (.d (.int .i64 1))), [], [], (some (2, 48, true)), (some ([48, 50], (some [])))⟩ ::
     g_law03_RateTexts.o5)
def g_law03_RateTexts.c1 : ACode :=
  .ret
def g_law03_RateTexts.c2 : ACode :=
  .cond (.t 45) (.seq (.region [4] (some []) none
      (⟨some 46, .mv (.t 5), [], [], none, none⟩ ::
       ⟨some 47, .bin .eql (.t 46) (.c (.d (.str []))), [], [], none, none⟩ ::
       ⟨some 48, .mv (.t 47), [], [], none, (some ([6, 48], (some [])))⟩ ::
       g_law03_RateTexts.o4))
   (g_law03_RateTexts.c1))
  (.skip)
def g_law03_RateTexts.o15 : List AOper :=
  [⟨some 78, .pick (.t 76) (.t 77) (.c (.d (.bool false))), [], [], none, none⟩,
     ⟨some 4, .mv (.t 78), [], [], none, none⟩]
def g_law03_RateTexts.o14 : List AOper :=
  (⟨some 77, .call 81 [], [], [], (some (16, 76, true)), (some ([76, 77], (some [])))⟩ ::
     g_law03_RateTexts.o15)
def g_law03_RateTexts.o13 : List AOper :=
  (⟨some 75, .pick (.t 73) (.t 74) (.c (.d (.bool false))), [], [], none, none⟩ ::
     ⟨some 76, .mv (.t 75), [], [], none, (some ([76], (some [])))⟩ ::
     g_law03_RateTexts.o14)
def g_law03_RateTexts.o12 : List AOper :=
  (⟨some 74, .mv (.t 12), [], [], (some (13, 73, true)), (some ([73, 74], (some [])))⟩ ::
     g_law03_RateTexts.o13)
def g_law03_RateTexts.o11 : List AOper :=
  (⟨some 72, .pick (.t 68) (.t 71) (.c (.d (.bool false))), [], [], none, none⟩ ::
     ⟨some 73, .mv (.t 72), [], [], none, (some ([12, 73], (some [])))⟩ ::
     g_law03_RateTexts.o12)
def g_law03_RateTexts.o10 : List AOper :=
  (⟨some 69, .mv (.t 11), [], [], (some (8, 68, true)), none⟩ ::
     ⟨some 70, .mv (.t 0), [], [], (some (8, 68, true)), none⟩ ::
     ⟨some 71, .bin .eql (.t 69) (.t 70), [], [], (some (8, 68, true)), (some ([12, 68, 71], (some [])))⟩ ::
     g_law03_RateTexts.o11)
def g_law03_RateTexts.o9 : List AOper :=
  (⟨some 67, .pick (.t 64) (.t 66) (.c (.d (.bool false))), [], [], none, none⟩ ::
     ⟨some 68, .mv (.t 67), [], [], none, (some ([0, 11, 12, 68], (some [])))⟩ ::
     g_law03_RateTexts.o10)
def g_law03_RateTexts.o8 : List AOper :=
  (⟨some 65, .mv (.t 6), [], [], (some (4, 64, true)), none⟩ ::
     ⟨some 66, .bin .eql (.t 65) (.c (.d (.int .i64 0))), [], [], (some (4, 64, true)), (some ([0, 11, 12, 64, 66], (some [])))⟩ ::
     g_law03_RateTexts.o9)
def g_law03_RateTexts.c3 : ACode :=
  .ret
def g_law03_RateTexts.c4 : ACode :=
  .seq (.region [4] (some []) none
     (⟨some 60, .mv (.t 5), [], [], none, none⟩ ::
      ⟨some 61, .mv (.t 0), [], [], none, none⟩ ::
      ⟨some 62, .call 94 [(.t 61)], [], [], none, none⟩ ::
      ⟨some 63, .bin .eql (.t 60) (.t 62), [], [], none, none⟩ ::
      ⟨some 64, .mv (.t 63), [], [], none, (some ([0, 6, 11, 12, 64], (some [])))⟩ ::
      g_law03_RateTexts.o8))
  (g_law03_RateTexts.c3)
def g_law03_RateTexts.c5 : ACode :=
  .seq (.region [0, 5, 6, 11, 12] (some []) none
     [⟨some 56, .mv (.t 5), [], [], none, none⟩,
      ⟨some 57, .call 92 [(.t 56)], [], [], none, none⟩,
      ⟨some 55, .mv (.t 57), [], [], none, none⟩,
      ⟨some 58, .ext (.t 55) 0, [], [], none, none⟩,
      ⟨some 59, .ext (.t 55) 1, [], [], none, none⟩,
      ⟨some 11, .mv (.t 58), [], [], none, none⟩,
      ⟨some 12, .mv (.t 59), [], [], none, none⟩])
  (g_law03_RateTexts.c4)
def g_law03_RateTexts.c6 : ACode :=
  .seq (.seq (.region [0, 5, 6, 45] (some []) none
      (⟨some 40, .mv (.t 0), [], [], none, none⟩ ::
       ⟨some 41, .bin .lss (.t 40) (.c (.d (.int .i64 0))), [], [], none, none⟩ ::
       ⟨some 42, .mv (.t 41), [], [], none, (some ([0, 5, 6, 42], (some [])))⟩ ::
       g_law03_RateTexts.o2))
   (g_law03_RateTexts.c2))
  (g_law03_RateTexts.c5)
def g_law03_RateTexts.c7 : ACode :=
  .seq (.seq (.region [0, 5, 6, 39] (some []) none
      (⟨some 32, .mv (.t 7), [], [], none, none⟩ ::
       ⟨some 33, .mv (.t 9), [], [], none, none⟩ ::
       ⟨some 34, .bin .neq (.t 32) (.t 33), [], [], none, none⟩ ::
       ⟨some 35, .mv (.t 34), [], [], none, (some ([0, 5, 6, 8, 10, 35], (some [])))⟩ ::
       g_law03_RateTexts.o0))
   (g_law03_RateTexts.c0))
  (g_law03_RateTexts.c6)
def g_law03_RateTexts.c8 : ACode :=
  .seq (.region [0, 5, 6, 7, 8, 9, 10] (some []) none
     [⟨some 28, .mv (.t 1), [], [], none, none⟩,
      ⟨some 29, .call 93 [(.t 28)], [], [], none, none⟩,
      ⟨some 27, .mv (.t 29), [], [], none, none⟩,
      ⟨some 30, .ext (.t 27) 0, [], [], none, none⟩,
      ⟨some 31, .ext (.t 27) 1, [], [], none, none⟩,
      ⟨some 9, .mv (.t 30), [], [], none, none⟩,
      ⟨some 10, .mv (.t 31), [], [], none, none⟩])
  (g_law03_RateTexts.c7)
def g_law03_RateTexts.c9 : ACode :=
  .seq (.region [0, 1, 5, 6, 7, 8] (some []) none
     [⟨some 23, .mv (.t 1), [], [], none, none⟩,
      ⟨some 24, .call 92 [(.t 23)], [], [], none, none⟩,
      ⟨some 22, .mv (.t 24), [], [], none, none⟩,
      ⟨some 25, .ext (.t 22) 0, [], [], none, none⟩,
      ⟨some 26, .ext (.t 22) 1, [], [], none, none⟩,
      ⟨some 7, .mv (.t 25), [], [], none, none⟩,
      ⟨some 8, .mv (.t 26), [], [], none, none⟩])
  (g_law03_RateTexts.c8)
def g_law03_RateTexts.c10 : ACode :=
  .seq (.region [0, 1, 5, 6] (some []) none
     [⟨some 18, .mv (.t 0), [], [], none, none⟩,
      ⟨some 19, .call 91 [(.t 18)], [], [], none, none⟩,
      ⟨some 17, .mv (.t 19), [], [], none, none⟩,
      ⟨some 20, .ext (.t 17) 0, [], [], none, none⟩,
      ⟨some 21, .ext (.t 17) 1, [], [], none, none⟩,
      ⟨some 5, .mv (.t 20), [], [], none, none⟩,
      ⟨some 6, .mv (.t 21), [], [], none, none⟩])
  (g_law03_RateTexts.c9)
def g_law03_RateTexts.code : ACode :=
  .seq (.region [0, 1] (some []) none
     [⟨some 4, .mv (.c (.d (.bool false))), [], [], none, none⟩])
  (.seq (.seq (.region [0, 1, 15] (some []) none
       [⟨some 13, .mv (.t 1), [], [], none, none⟩,
        ⟨some 14, .lenS (.t 13), [], [], none, none⟩,
        ⟨some 15, .bin .gtr (.t 14) (.c (.d (.int .i64 60))), [], [], none, none⟩])
    (.cond (.t 15) (.seq (.region [4] (some []) none
         [⟨some 16, .call 81 [], [], [], none, none⟩,
          ⟨some 4, .mv (.t 16), [], [], none, none⟩])
      (.ret))
     (.skip)))
   (g_law03_RateTexts.c10))
def g_law03_RateTexts : AFn := { N := 79, res := [.slot 4], own := [], frz := [], code := g_law03_RateTexts.code }
def g_law03_RateOrder.o11 : List AOper :=
  [⟨some 62, .pick (.t 60) (.t 61) (.c (.d (.bool false))), [], [], none, none⟩,
     ⟨some 4, .mv (.t 62), [], [], none, none⟩]
def g_law03_RateOrder.o10 : List AOper :=
  (⟨some 61, .call 81 [], [], [], (some (33, 60, true)), (some ([60, 61], (some [])))⟩ ::
     g_law03_RateOrder.o11)
def g_law03_RateOrder.o9 : List AOper :=
  (⟨some 59, .pick (.t 52) (.t 58) (.c (.d (.bool false))), [], [], none, none⟩ ::
     ⟨some 60, .mv (.t 59), [], [], none, (some ([60], (some [])))⟩ ::
     g_law03_RateOrder.o10)
def g_law03_RateOrder.o8 : List AOper :=
  (⟨some 53, .mv (.t 7), [], [], (some (25, 52, true)), none⟩ ::
     ⟨some 54, .mv (.t 7), [], [], (some (25, 52, true)), none⟩ ::
     ⟨some 55, .lenS (.t 54), [], [], (some (25, 52, true)), none⟩ ::
     ⟨some 56, .bin .sub (.t 55) (.c (.d (.int .i64 1))), [], [], (some (25, 52, true)), none⟩ ::
     ⟨some 57, .idx (.t 53) (.t 56), [], [], (some (25, 52, true)), none⟩ ::
     ⟨some 58, .bin .eql (.t 57) (.c (.d (.int .u8 37))), [], [], (some (25, 52, true)), (some ([52, 58], (some [])))⟩ ::
     g_law03_RateOrder.o9)
def g_law03_RateOrder.o7 : List AOper :=
  (⟨some 51, .pick (.t 47) (.t 50) (.c (.d (.bool false))), [], [], none, none⟩ ::
     ⟨some 52, .mv (.t 51), [], [], none, (some ([7, 52], (some [])))⟩ ::
     g_law03_RateOrder.o8)
def g_law03_RateOrder.o6 : List AOper :=
  (⟨some 48, .mv (.t 7), [], [], (some (20, 47, true)), none⟩ ::
     ⟨some 49, .lenS (.t 48), [], [], (some (20, 47, true)), none⟩ ::
     ⟨some 50, .bin .leq (.t 49) (.c (.d (.int .i64 7))), [], [], (some (20, 47, true)), (some ([7, 47, 50], (some [])))⟩ ::
     g_law03_RateOrder.o7)
def g_law03_RateOrder.o5 : List AOper :=
  (⟨some 46, .pick (.t 42) (.t 45) (.c (.d (.bool false))), [], [], none, none⟩ ::
     ⟨some 47, .mv (.t 46), [], [], none, (some ([7, 47], (some [])))⟩ ::
     g_law03_RateOrder.o6)
def g_law03_RateOrder.o4 : List AOper :=
  (⟨some 43, .mv (.t 7), [], [], (some (15, 42, true)), none⟩ ::
     ⟨some 44, .lenS (.t 43), [], [], (some (15, 42, true)), none⟩ ::
     ⟨some 45, .bin .geq (.t 44) (.c (.d (.int .i64 5))), [], [], (some (15, 42, true)), (some ([7, 42, 45], (some [])))⟩ ::
     g_law03_RateOrder.o5)
def g_law03_RateOrder.o3 : List AOper :=
  (⟨some 41, .pick (.t 33) (.t 40) (.c (.d (.bool false))), [], [], none, none⟩ ::
     ⟨some 42, .mv (.t 41), [], [], none, (some ([7, 42], (some [])))⟩ ::
     g_law03_RateOrder.o4)
def g_law03_RateOrder.o2 : List AOper :=
  (⟨some 34, .mv (.t 7), [], [], (some (6, 33, true)), none⟩ ::
     ⟨some 35, .mv (.t 9), [], [], (some (6, 33, true)), none⟩ ::
     ⟨some 36, .bin .eql (.t 34) (.t 35), [], [], (some (6, 33, true)), none⟩ ::
     ⟨some 37, .mv (.t 5), [], [], (some (6, 33, true)), none⟩ ::
     ⟨some 38, .mv (.t 6), [], [], (some (6, 33, true)), none⟩ ::
     ⟨some 39, .bin .eql (.t 37) (.t 38), [], [], (some (6, 33, true)), none⟩ ::
     ⟨some 40, .beq false (.t 36) (.t 39), [], [], (some (6, 33, true)), (some ([7, 33, 40], (some [])))⟩ ::
     g_law03_RateOrder.o3)
def g_law03_RateOrder.o1 : List AOper :=
  (⟨some 32, .pick (.t 29) (.t 31) (.c (.d (.bool false))), [], [], none, none⟩ ::
     ⟨some 33, .mv (.t 32), [], [], none, (some ([5, 6, 7, 9, 33], (some [])))⟩ ::
     g_law03_RateOrder.o2)
def g_law03_RateOrder.o0 : List AOper :=
  (⟨some 30, .mv (.t 10), [], [], (some (2, 29, true)), none⟩ ::
     ⟨some 31, .bin .eql (.t 30) (.c (.d (.int .i64 0))), [], [], (some (2, 29, true)), (some ([5, 6, 7, 9, 29, 31], (some [])))⟩ ::
     g_law03_RateOrder.o1)
def g_law03_RateOrder.c0 : ACode :=
  .ret
def g_law03_RateOrder.c1 : ACode :=
  .seq (.region [4] (some []) none
     (⟨some 27, .mv (.t 8), [], [], none, none⟩ ::
      ⟨some 28, .bin .eql (.t 27) (.c (.d (.int .i64 0))), [], [], none, none⟩ ::
      ⟨some 29, .mv (.t 28), [], [], none, (some ([5, 6, 7, 9, 10, 29], (some [])))⟩ ::
      g_law03_RateOrder.o0))
  (g_law03_RateOrder.c0)
def g_law03_RateOrder.c2 : ACode :=
  .seq (.region [5, 6, 7, 8, 9, 10] (some []) none
     [⟨some 23, .mv (.t 6), [], [], none, none⟩,
      ⟨some 24, .call 91 [(.t 23)], [], [], none, none⟩,
      ⟨some 22, .mv (.t 24), [], [], none, none⟩,
      ⟨some 25, .ext (.t 22) 0, [], [], none, none⟩,
      ⟨some 26, .ext (.t 22) 1, [], [], none, none⟩,
      ⟨some 9, .mv (.t 25), [], [], none, none⟩,
      ⟨some 10, .mv (.t 26), [], [], none, none⟩])
  (g_law03_RateOrder.c1)
def g_law03_RateOrder.c3 : ACode :=
  .seq (.region [5, 6, 7, 8] (some []) none
     [⟨some 18, .mv (.t 5), [], [], none, none⟩,
      ⟨some 19, .call 91 [(.t 18)], [], [], none, none⟩,
      ⟨some 17, .mv (.t 19), [], [], none, none⟩,
      ⟨some 20, .ext (.t 17) 0, [], [], none, none⟩,
      ⟨some 21, .ext (.t 17) 1, [], [], none, none⟩,
      ⟨some 7, .mv (.t 20), [], [], none, none⟩,
      ⟨some 8, .mv (.t 21), [], [], none, none⟩])
  (g_law03_RateOrder.c2)
def g_law03_RateOrder.code : ACode :=
  .seq (.region [0, 1] (some []) none
     [⟨some 4, .mv (.c (.d (.bool false))), [], [], none, none⟩])
  (.seq (.region [5, 6] (some []) none
      [⟨some 11, .mv (.t 0), [], [], none, none⟩,
       ⟨some 12, .bin .rem (.t 11) (.c (.d (.int .u16 10001))), [], [], none, none⟩,
       ⟨some 13, .conv .i64 (.t 12), [], [], none, none⟩,
       ⟨some 14, .mv (.t 1), [], [], none, none⟩,
       ⟨some 15, .bin .rem (.t 14) (.c (.d (.int .u16 10001))), [], [], none, none⟩,
       ⟨some 16, .conv .i64 (.t 15), [], [], none, none⟩,
       ⟨some 5, .mv (.t 13), [], [], none, none⟩,
       ⟨some 6, .mv (.t 16), [], [], none, none⟩])
   (g_law03_RateOrder.c3))
def g_law03_RateOrder : AFn := { N := 63, res := [.slot 4], own := [], frz := [], code := g_law03_RateOrder.code }
def g_law03_awake.o9 : List AOper :=
  [⟨some 32, .pick (.t 29) (.t 31) (.c (.d (.bool false))), [], [], none, none⟩,
     ⟨some 0, .mv (.t 32), [], [], none, none⟩]
def g_law03_awake.o8 : List AOper :=
  (⟨some 30, .call 88 [(.c (.d (.int .i64 10001)))], [], [], (some (16, 29, true)), none⟩ ::
     ⟨some 31, .un .not (.t 30), [], [], (some (16, 29, true)), (some ([29, 31], (some [])))⟩ ::
     g_law03_awake.o9)
def g_law03_awake.o7 : List AOper :=
  (⟨some 28, .pick (.t 26) (.t 27) (.c (.d (.bool false))), [], [], none, none⟩ ::
     ⟨some 29, .mv (.t 28), [], [], none, (some ([29], (some [])))⟩ ::
     g_law03_awake.o8)
def g_law03_awake.o6 : List AOper :=
  (⟨some 27, .call 88 [(.c (.d (.int .i64 10000)))], [], [], (some (13, 26, true)), (some ([26, 27], (some [])))⟩ ::
     g_law03_awake.o7)
def g_law03_awake.o5 : List AOper :=
  (⟨some 25, .pick (.t 23) (.t 24) (.c (.d (.bool false))), [], [], none, none⟩ ::
     ⟨some 26, .mv (.t 25), [], [], none, (some ([26], (some [])))⟩ ::
     g_law03_awake.o6)
def g_law03_awake.o4 : List AOper :=
  (⟨some 24, .mv (.t 4), [], [], (some (10, 23, true)), (some ([23, 24], (some [])))⟩ ::
     g_law03_awake.o5)
def g_law03_awake.o3 : List AOper :=
  (⟨some 22, .pick (.t 19) (.t 21) (.c (.d (.bool false))), [], [], none, none⟩ ::
     ⟨some 23, .mv (.t 22), [], [], none, (some ([4, 23], (some [])))⟩ ::
     g_law03_awake.o4)
def g_law03_awake.o2 : List AOper :=
  (⟨some 20, .mv (.t 3), [], [], (some (6, 19, true)), none⟩ ::
     ⟨some 21, .bin .eql (.t 20) (.c (.d (.int .i64 1250))), [], [], (some (6, 19, true)), (some ([4, 19, 21], (some [])))⟩ ::
     g_law03_awake.o3)
def g_law03_awake.o1 : List AOper :=
  (⟨some 18, .pick (.t 15) (.t 17) (.c (.d (.bool false))), [], [], none, none⟩ ::
     ⟨some 19, .mv (.t 18), [], [], none, (some ([3, 4, 19], (some [])))⟩ ::
     g_law03_awake.o2)
def g_law03_awake.o0 : List AOper :=
  (⟨some 16, .mv (.t 2), [], [], (some (2, 15, true)), none⟩ ::
     ⟨some 17, .bin .eql (.t 16) (.c (.d (.int .i64 0))), [], [], (some (2, 15, true)), (some ([3, 4, 15, 17], (some [])))⟩ ::
     g_law03_awake.o1)
def g_law03_awake.c0 : ACode :=
  .ret
def g_law03_awake.c1 : ACode :=
  .seq (.region [0] (some []) none
     (⟨some 13, .mv (.t 1), [], [], none, none⟩ ::
      ⟨some 14, .bin .eql (.t 13) (.c (.d (.int .i64 126))), [], [], none, none⟩ ::
      ⟨some 15, .mv (.t 14), [], [], none, (some ([2, 3, 4, 15], (some [])))⟩ ::
      g_law03_awake.o0))
  (g_law03_awake.c0)
def g_law03_awake.c2 : ACode :=
  .seq (.region [1, 2, 3, 4] (some []) none
     [⟨some 10, .call 92 [(.c (.d (.str [49, 50, 46, 53, 48, 37])))], [], [], none, none⟩,
      ⟨some 9, .mv (.t 10), [], [], none, none⟩,
      ⟨some 11, .ext (.t 9) 0, [], [], none, none⟩,
      ⟨some 12, .ext (.t 9) 1, [], [], none, none⟩,
      ⟨some 3, .mv (.t 11), [], [], none, none⟩,
      ⟨some 4, .mv (.t 12), [], [], none, none⟩])
  (g_law03_awake.c1)
def g_law03_awake.code : ACode :=
  .seq (.region [] (some []) none
     [⟨some 0, .mv (.c (.d (.bool false))), [], [], none, none⟩])
  (.seq (.region [1, 2] (some []) none
      [⟨some 6, .call 82 [(.c (.d (.int .i64 1005))), (.c (.d (.int .i64 1250))), (.c (.d (.int .i64 3)))], [], [], none, none⟩,
       ⟨some 5, .mv (.t 6), [], [], none, none⟩,
       ⟨some 7, .ext (.t 5) 0, [], [], none, none⟩,
       ⟨some 8, .ext (.t 5) 1, [], [], none, none⟩,
       ⟨some 1, .mv (.t 7), [], [], none, none⟩,
       ⟨some 2, .mv (.t 8), [], [], none, none⟩])
   (g_law03_awake.c2))
def g_law03_awake : AFn := { N := 33, res := [.slot 0], own := [], frz := [], code := g_law03_awake.code }
def g_rate_Of.c0 : ACode :=
  .seq (.region [6, 7] (some []) none
     [⟨some 11, .mv (.t 0), [], [], none, none⟩,
      ⟨some 12, .mv (.t 1), [], [], none, none⟩,
      ⟨some 13, .mv (.t 2), [], [], none, none⟩,
      ⟨some 14, .call 99 [(.t 11), (.t 12), (.c (.d (.int .i64 10000))), (.t 13)], [], [], none, none⟩,
      ⟨some 15, .ext (.t 14) 0, [], [], none, none⟩,
      ⟨some 16, .ext (.t 14) 1, [], [], none, none⟩,
      ⟨some 6, .mv (.t 15), [], [], none, none⟩,
      ⟨some 7, .mv (.t 16), [], [], none, none⟩])
  (.ret)
def g_rate_Of.code : ACode :=
  .seq (.region [0, 1, 2] (some []) none
     [⟨some 6, .mv (.c (.d (.int .i64 0))), [], [], none, none⟩,
      ⟨some 7, .mv (.c (.d (.int .i64 0))), [], [], none, none⟩])
  (.seq (.seq (.region [0, 1, 2, 10] (some []) none
       [⟨some 8, .mv (.t 1), [], [], none, none⟩,
        ⟨some 9, .call 88 [(.t 8)], [], [], none, none⟩,
        ⟨some 10, .un .not (.t 9), [], [], none, none⟩])
    (.cond (.t 10) (.seq (.region [6, 7] (some []) none
         [⟨some 6, .mv (.c (.d (.int .i64 0))), [], [], none, none⟩,
          ⟨some 7, .mv (.c (.d (.int .i64 1))), [], [], none, none⟩])
      (.ret))
     (.skip)))
   (g_rate_Of.c0))
def g_rate_Of : AFn := { N := 17, res := [.slot 6, .slot 7], own := [], frz := [], code := g_rate_Of.code }
def g_rate_Prorate.o3 : List AOper :=
  [⟨some 20, .pick (.t 16) (.c (.d (.bool true))) (.t 19), [], [], none, none⟩]
def g_rate_Prorate.o2 : List AOper :=
  (⟨some 17, .mv (.t 1), [], [], (some (6, 16, false)), none⟩ ::
     ⟨some 18, .mv (.t 2), [], [], (some (6, 16, false)), none⟩ ::
     ⟨some 19, .bin .gtr (.t 17) (.t 18), [], [], (some (6, 16, false)), (some ([0, 1, 2, 3, 16, 19], (some [])))⟩ ::
     g_rate_Prorate.o3)
def g_rate_Prorate.o1 : List AOper :=
  (⟨some 15, .pick (.t 12) (.c (.d (.bool true))) (.t 14), [], [], none, none⟩ ::
     ⟨some 16, .mv (.t 15), [], [], none, (some ([0, 1, 2, 3, 16], (some [])))⟩ ::
     g_rate_Prorate.o2)
def g_rate_Prorate.o0 : List AOper :=
  (⟨some 13, .mv (.t 1), [], [], (some (2, 12, false)), none⟩ ::
     ⟨some 14, .bin .lss (.t 13) (.c (.d (.int .i64 0))), [], [], (some (2, 12, false)), (some ([0, 1, 2, 3, 12, 14], (some [])))⟩ ::
     g_rate_Prorate.o1)
def g_rate_Prorate.c0 : ACode :=
  .cond (.t 20) (.seq (.region [8, 9] (some []) none
      [⟨some 8, .mv (.c (.d (.int .i64 0))), [], [], none, none⟩,
       ⟨some 9, .mv (.c (.d (.int .i64 1))), [], [], none, none⟩])
   (.ret))
  (.skip)
def g_rate_Prorate.c1 : ACode :=
  .seq (.region [8, 9] (some []) none
     [⟨some 21, .mv (.t 0), [], [], none, none⟩,
      ⟨some 22, .mv (.t 1), [], [], none, none⟩,
      ⟨some 23, .mv (.t 2), [], [], none, none⟩,
      ⟨some 24, .mv (.t 3), [], [], none, none⟩,
      ⟨some 25, .call 99 [(.t 21), (.t 22), (.t 23), (.t 24)], [], [], none, none⟩,
      ⟨some 26, .ext (.t 25) 0, [], [], none, none⟩,
      ⟨some 27, .ext (.t 25) 1, [], [], none, none⟩,
      ⟨some 8, .mv (.t 26), [], [], none, none⟩,
      ⟨some 9, .mv (.t 27), [], [], none, none⟩])
  (.ret)
def g_rate_Prorate.code : ACode :=
  .seq (.region [0, 1, 2, 3] (some []) none
     [⟨some 8, .mv (.c (.d (.int .i64 0))), [], [], none, none⟩,
      ⟨some 9, .mv (.c (.d (.int .i64 0))), [], [], none, none⟩])
  (.seq (.seq (.region [0, 1, 2, 3, 20] (some []) none
       (⟨some 10, .mv (.t 2), [], [], none, none⟩ ::
        ⟨some 11, .bin .lss (.t 10) (.c (.d (.int .i64 1))), [], [], none, none⟩ ::
        ⟨some 12, .mv (.t 11), [], [], none, (some ([0, 1, 2, 3, 12], (some [])))⟩ ::
        g_rate_Prorate.o0))
    (g_rate_Prorate.c0))
   (g_rate_Prorate.c1))
def g_rate_Prorate : AFn := { N := 28, res := [.slot 8, .slot 9], own := [], frz := [], code := g_rate_Prorate.code }
def g_rate_Right.o1 : List AOper :=
  [⟨some 8, .pick (.t 5) (.t 7) (.c (.d (.bool false))), [], [], none, none⟩,
     ⟨some 2, .mv (.t 8), [], [], none, none⟩]
def g_rate_Right.o0 : List AOper :=
  (⟨some 6, .mv (.t 0), [], [], (some (2, 5, true)), none⟩ ::
     ⟨some 7, .bin .leq (.t 6) (.c (.d (.int .i64 10000))), [], [], (some (2, 5, true)), (some ([5, 7], (some [])))⟩ ::
     g_rate_Right.o1)
def g_rate_Right.c0 : ACode :=
  .ret
def g_rate_Right.code : ACode :=
  .seq (.region [0] (some []) none
     [⟨some 2, .mv (.c (.d (.bool false))), [], [], none, none⟩])
  (.seq (.region [2] (some []) none
      (⟨some 3, .mv (.t 0), [], [], none, none⟩ ::
       ⟨some 4, .bin .geq (.t 3) (.c (.d (.int .i64 0))), [], [], none, none⟩ ::
       ⟨some 5, .mv (.t 4), [], [], none, (some ([0, 5], (some [])))⟩ ::
       g_rate_Right.o0))
   (g_rate_Right.c0))
def g_rate_Right : AFn := { N := 9, res := [.slot 2], own := [], frz := [], code := g_rate_Right.code }
def g_rate_Text.c0 : ACode :=
  .seq (.region [2, 3] (some []) none
     [⟨some 14, .mv (.t 4), [], [], none, none⟩,
      ⟨some 15, .bin .add (.t 14) (.c (.d (.str [37]))), [], [], none, none⟩,
      ⟨some 2, .mv (.t 15), [], [], none, none⟩,
      ⟨some 3, .mv (.c (.d (.int .i64 0))), [], [], none, none⟩])
  (.ret)
def g_rate_Text.c1 : ACode :=
  .seq (.region [4] (some []) none
     [⟨some 10, .mv (.t 0), [], [], none, none⟩,
      ⟨some 11, .call 50 [(.t 10)], [], [], none, none⟩,
      ⟨some 9, .mv (.t 11), [], [], none, none⟩,
      ⟨some 12, .ext (.t 9) 0, [], [], none, none⟩,
      ⟨some 13, .ext (.t 9) 1, [], [], none, none⟩,
      ⟨some 4, .mv (.t 12), [], [], none, none⟩,
      ⟨some 5, .mv (.t 13), [], [], none, none⟩])
  (g_rate_Text.c0)
def g_rate_Text.code : ACode :=
  .seq (.region [0] (some []) none
     [⟨some 2, .mv (.c (.d (.str []))), [], [], none, none⟩,
      ⟨some 3, .mv (.c (.d (.int .i64 0))), [], [], none, none⟩])
  (.seq (.seq (.region [0, 8] (some []) none
       [⟨some 6, .mv (.t 0), [], [], none, none⟩,
        ⟨some 7, .call 88 [(.t 6)], [], [], none, none⟩,
        ⟨some 8, .un .not (.t 7), [], [], none, none⟩])
    (.cond (.t 8) (.seq (.region [2, 3] (some []) none
         [⟨some 2, .mv (.c (.d (.str []))), [], [], none, none⟩,
          ⟨some 3, .mv (.c (.d (.int .i64 1))), [], [], none, none⟩])
      (.ret))
     (.skip)))
   (g_rate_Text.c1))
def g_rate_Text : AFn := { N := 16, res := [.slot 2, .slot 3], own := [], frz := [], code := g_rate_Text.code }
def g_rate_Parse.o3 : List AOper :=
  [⟨some 28, .pick (.t 24) (.c (.d (.bool true))) (.t 27), [], [], none, none⟩]
def g_rate_Parse.o2 : List AOper :=
  (⟨some 25, .mv (.t 6), [], [], (some (6, 24, false)), none⟩ ::
     ⟨some 26, .call 88 [(.t 25)], [], [], (some (6, 24, false)), none⟩ ::
     ⟨some 27, .un .not (.t 26), [], [], (some (6, 24, false)), (some ([6, 24, 27], (some [])))⟩ ::
     g_rate_Parse.o3)
def g_rate_Parse.o1 : List AOper :=
  (⟨some 23, .pick (.t 20) (.c (.d (.bool true))) (.t 22), [], [], none, none⟩ ::
     ⟨some 24, .mv (.t 23), [], [], none, (some ([6, 24], (some [])))⟩ ::
     g_rate_Parse.o2)
def g_rate_Parse.o0 : List AOper :=
  (⟨some 21, .mv (.t 7), [], [], (some (2, 20, false)), none⟩ ::
     ⟨some 22, .un .not (.t 21), [], [], (some (2, 20, false)), (some ([6, 20, 22], (some [])))⟩ ::
     g_rate_Parse.o1)
def g_rate_Parse.c0 : ACode :=
  .cond (.t 28) (.seq (.region [2, 3] (some []) none
      [⟨some 2, .mv (.c (.d (.int .i64 0))), [], [], none, none⟩,
       ⟨some 3, .mv (.c (.d (.bool false))), [], [], none, none⟩])
   (.ret))
  (.skip)
def g_rate_Parse.c1 : ACode :=
  .seq (.region [2, 3] (some []) none
     [⟨some 29, .mv (.t 6), [], [], none, none⟩,
      ⟨some 2, .mv (.t 29), [], [], none, none⟩,
      ⟨some 3, .mv (.c (.d (.bool true))), [], [], none, none⟩])
  (.ret)
def g_rate_Parse.c2 : ACode :=
  .seq (.seq (.region [6, 28] (some []) none
      (⟨some 18, .mv (.t 5), [], [], none, none⟩ ::
       ⟨some 19, .un .not (.t 18), [], [], none, none⟩ ::
       ⟨some 20, .mv (.t 19), [], [], none, (some ([6, 7, 20], (some [])))⟩ ::
       g_rate_Parse.o0))
   (g_rate_Parse.c0))
  (g_rate_Parse.c1)
def g_rate_Parse.c3 : ACode :=
  .seq (.region [5, 6, 7] (some []) none
     [⟨some 14, .mv (.t 4), [], [], none, none⟩,
      ⟨some 15, .call 51 [(.t 14)], [], [], none, none⟩,
      ⟨some 13, .mv (.t 15), [], [], none, none⟩,
      ⟨some 16, .ext (.t 13) 0, [], [], none, none⟩,
      ⟨some 17, .ext (.t 13) 1, [], [], none, none⟩,
      ⟨some 6, .mv (.t 16), [], [], none, none⟩,
      ⟨some 7, .mv (.t 17), [], [], none, none⟩])
  (g_rate_Parse.c2)
def g_rate_Parse.code : ACode :=
  .seq (.region [0] (some []) none
     [⟨some 2, .mv (.c (.d (.int .i64 0))), [], [], none, none⟩,
      ⟨some 3, .mv (.c (.d (.bool false))), [], [], none, none⟩])
  (.seq (.region [4, 5] (some []) none
      [⟨some 9, .mv (.t 0), [], [], none, none⟩,
       ⟨some 10, .call 101 [(.t 9), (.c (.d (.str [37])))], [], [], none, none⟩,
       ⟨some 8, .mv (.t 10), [], [], none, none⟩,
       ⟨some 11, .ext (.t 8) 0, [], [], none, none⟩,
       ⟨some 12, .ext (.t 8) 1, [], [], none, none⟩,
       ⟨some 4, .mv (.t 11), [], [], none, none⟩,
       ⟨some 5, .mv (.t 12), [], [], none, none⟩])
   (g_rate_Parse.c3))
def g_rate_Parse : AFn := { N := 30, res := [.slot 2, .slot 3], own := [], frz := [], code := g_rate_Parse.code }
def g_ref03_Parse.o1 : List AOper :=
  [⟨some 17, .pick (.t 12) (.t 16) (.c (.d (.bool false))), [], [], none, none⟩]
def g_ref03_Parse.o0 : List AOper :=
  (⟨some 13, .mv (.t 4), [], [], (some (3, 12, true)), none⟩ ::
     ⟨some 14, .call 94 [(.t 13)], [], [], (some (3, 12, true)), none⟩ ::
     ⟨some 15, .mv (.t 0), [], [], (some (3, 12, true)), none⟩ ::
     ⟨some 16, .bin .eql (.t 14) (.t 15), [], [], (some (3, 12, true)), (some ([0, 4, 12, 16], (some [])))⟩ ::
     g_ref03_Parse.o1)
def g_ref03_Parse.c0 : ACode :=
  .cond (.t 17) (.seq (.region [2, 3] (some []) none
      [⟨some 18, .mv (.t 4), [], [], none, none⟩,
       ⟨some 2, .mv (.t 18), [], [], none, none⟩,
       ⟨some 3, .mv (.c (.d (.bool true))), [], [], none, none⟩])
   (.ret))
  (.skip)
def g_ref03_Parse.c1 : ACode :=
  .region [0, 4] (some []) none
    [⟨some 7, .mv (.t 4), [], [], none, none⟩,
     ⟨some 8, .bin .add (.t 7) (.c (.d (.int .i64 1))), [], [], none, none⟩,
     ⟨some 4, .mv (.t 8), [], [], none, none⟩]
def g_ref03_Parse.l0 : ACode :=
  .loop [0, 4] (some []) (.seq (.seq (.region [0, 4, 6] (some []) none
      [⟨some 5, .mv (.t 4), [], [], none, none⟩,
       ⟨some 6, .bin .leq (.t 5) (.c (.d (.int .i64 10000))), [], [], none, none⟩])
   (.cond (.t 6) (.skip)
    (.exit 0)))
  (.seq (.block 1 [0, 4] (some []) (.seq (.region [0, 4, 17] (some []) none
        (⟨some 9, .mv (.t 0), [], [], none, none⟩ ::
         ⟨some 10, .lenS (.t 9), [], [], none, none⟩ ::
         ⟨some 11, .bin .lss (.t 10) (.c (.d (.int .i64 9))), [], [], none, none⟩ ::
         ⟨some 12, .mv (.t 11), [], [], none, (some ([0, 4, 12], (some [])))⟩ ::
         g_ref03_Parse.o0))
     (g_ref03_Parse.c0)))
   (g_ref03_Parse.c1)))
def g_ref03_Parse.c2 : ACode :=
  .seq (.region [2, 3] (some []) none
     [⟨some 2, .mv (.c (.d (.int .i64 0))), [], [], none, none⟩,
      ⟨some 3, .mv (.c (.d (.bool false))), [], [], none, none⟩])
  (.ret)
def g_ref03_Parse.code : ACode :=
  .seq (.region [0] (some []) none
     [⟨some 2, .mv (.c (.d (.int .i64 0))), [], [], none, none⟩,
      ⟨some 3, .mv (.c (.d (.bool false))), [], [], none, none⟩])
  (.seq (.seq (.region [0, 4] (some []) none
       [⟨some 4, .mv (.c (.d (.int .i64 0))), [], [], none, none⟩])
    (.block 0 [] (some []) (g_ref03_Parse.l0)))
   (g_ref03_Parse.c2))
def g_ref03_Parse : AFn := { N := 19, res := [.slot 2, .slot 3], own := [], frz := [], code := g_ref03_Parse.code }
def g_ref03_Text.code : ACode :=
  .seq (.region [0] (some []) none
     [⟨some 2, .mv (.c (.d (.str []))), [], [], none, none⟩])
  (.seq (.region [2] (some []) none
      [⟨some 3, .mv (.t 0), [], [], none, none⟩,
       ⟨some 4, .call 54 [(.t 3)], [], [], none, none⟩,
       ⟨some 5, .bin .add (.t 4) (.c (.d (.str [37]))), [], [], none, none⟩,
       ⟨some 2, .mv (.t 5), [], [], none, none⟩])
   (.ret))
def g_ref03_Text : AFn := { N := 6, res := [.slot 2], own := [], frz := [], code := g_ref03_Text.code }
def g_wide_MulDiv.o1 : List AOper :=
  [⟨some 22, .pick (.t 19) (.c (.d (.bool true))) (.t 21), [], [], none, none⟩,
     ⟨some 16, .mv (.t 22), [], [], none, none⟩]
def g_wide_MulDiv.o0 : List AOper :=
  (⟨some 20, .mv (.t 3), [], [], (some (2, 19, false)), none⟩ ::
     ⟨some 21, .bin .gtr (.t 20) (.c (.d (.int .i64 3))), [], [], (some (2, 19, false)), (some ([0, 1, 2, 3, 19, 21], (some [])))⟩ ::
     g_wide_MulDiv.o1)
def g_wide_MulDiv.o5 : List AOper :=
  [⟨some 36, .pick (.t 32) (.c (.d (.bool true))) (.t 35), [], [], none, none⟩,
     ⟨some 23, .mv (.t 36), [], [], none, none⟩]
def g_wide_MulDiv.o4 : List AOper :=
  (⟨some 33, .mv (.t 2), [], [], (some (8, 32, false)), none⟩ ::
     ⟨some 34, .call 58 [(.t 33)], [], [], (some (8, 32, false)), none⟩ ::
     ⟨some 35, .un .not (.t 34), [], [], (some (8, 32, false)), (some ([0, 1, 2, 3, 32, 35], (some [])))⟩ ::
     g_wide_MulDiv.o5)
def g_wide_MulDiv.o3 : List AOper :=
  (⟨some 31, .pick (.t 27) (.c (.d (.bool true))) (.t 30), [], [], none, none⟩ ::
     ⟨some 32, .mv (.t 31), [], [], none, (some ([0, 1, 2, 3, 32], (some [])))⟩ ::
     g_wide_MulDiv.o4)
def g_wide_MulDiv.o2 : List AOper :=
  (⟨some 28, .mv (.t 1), [], [], (some (3, 27, false)), none⟩ ::
     ⟨some 29, .call 58 [(.t 28)], [], [], (some (3, 27, false)), none⟩ ::
     ⟨some 30, .un .not (.t 29), [], [], (some (3, 27, false)), (some ([0, 1, 2, 3, 27, 30], (some [])))⟩ ::
     g_wide_MulDiv.o3)
def g_wide_MulDiv.c0 : ACode :=
  .cond (.t 23) (.seq (.region [8, 9] (some []) none
      [⟨some 8, .mv (.c (.d (.int .i64 0))), [], [], none, none⟩,
       ⟨some 9, .mv (.c (.d (.int .i64 3))), [], [], none, none⟩])
   (.ret))
  (.seq (.region [0, 1, 2, 3, 37] (some []) none
      [⟨some 38, .mv (.t 2), [], [], none, none⟩,
       ⟨some 39, .bin .eql (.t 38) (.c (.d (.int .i64 0))), [], [], none, none⟩,
       ⟨some 37, .mv (.t 39), [], [], none, none⟩])
   (.cond (.t 37) (.seq (.region [8, 9] (some []) none
        [⟨some 8, .mv (.c (.d (.int .i64 0))), [], [], none, none⟩,
         ⟨some 9, .mv (.c (.d (.int .i64 4))), [], [], none, none⟩])
     (.ret))
    (.skip)))
def g_wide_MulDiv.c1 : ACode :=
  .cond (.t 16) (.seq (.region [8, 9] (some []) none
      [⟨some 8, .mv (.c (.d (.int .i64 0))), [], [], none, none⟩,
       ⟨some 9, .mv (.c (.d (.int .i64 1))), [], [], none, none⟩])
   (.ret))
  (.seq (.region [0, 1, 2, 3, 23] (some []) none
      (⟨some 24, .mv (.t 0), [], [], none, none⟩ ::
       ⟨some 25, .call 58 [(.t 24)], [], [], none, none⟩ ::
       ⟨some 26, .un .not (.t 25), [], [], none, none⟩ ::
       ⟨some 27, .mv (.t 26), [], [], none, (some ([0, 1, 2, 3, 27], (some [])))⟩ ::
       g_wide_MulDiv.o2))
   (g_wide_MulDiv.c0))
def g_wide_MulDiv.o7 : List AOper :=
  [⟨some 68, .pick (.t 62) (.t 67) (.c (.d (.bool false))), [], [], none, none⟩]
def g_wide_MulDiv.o6 : List AOper :=
  (⟨some 63, .mv (.t 3), [], [], (some (2, 62, true)), none⟩ ::
     ⟨some 64, .mv (.t 13), [], [], (some (2, 62, true)), none⟩ ::
     ⟨some 65, .mv (.t 14), [], [], (some (2, 62, true)), none⟩ ::
     ⟨some 66, .mv (.t 12), [], [], (some (2, 62, true)), none⟩ ::
     ⟨some 67, .call 115 [(.t 63), (.t 64), (.t 65), (.t 66)], [], [], (some (2, 62, true)), (some ([0, 1, 2, 13, 62, 67], (some [])))⟩ ::
     g_wide_MulDiv.o7)
def g_wide_MulDiv.c2 : ACode :=
  .cond (.t 68) (.region [0, 1, 2, 13] (some []) none
     [⟨some 69, .mv (.t 13), [], [], none, none⟩,
      ⟨some 70, .bin .add (.t 69) (.c (.d (.int .u64 1))), [], [], none, none⟩,
      ⟨some 13, .mv (.t 70), [], [], none, none⟩])
  (.skip)
def g_wide_MulDiv.c3 : ACode :=
  .seq (.region [8, 9] (some []) none
     [⟨some 85, .mv (.t 15), [], [], none, none⟩,
      ⟨some 8, .mv (.t 85), [], [], none, none⟩,
      ⟨some 9, .mv (.c (.d (.int .i64 0))), [], [], none, none⟩])
  (.ret)
def g_wide_MulDiv.c4 : ACode :=
  .seq (.region [0, 1, 2, 15] (some []) none
     [⟨some 73, .mv (.t 13), [], [], none, none⟩,
      ⟨some 74, .conv .i64 (.t 73), [], [], none, none⟩,
      ⟨some 15, .mv (.t 74), [], [], none, none⟩])
  (.seq (.seq (.region [15, 82] (some []) none
       [⟨some 75, .mv (.t 0), [], [], none, none⟩,
        ⟨some 76, .bin .lss (.t 75) (.c (.d (.int .i64 0))), [], [], none, none⟩,
        ⟨some 77, .mv (.t 1), [], [], none, none⟩,
        ⟨some 78, .bin .lss (.t 77) (.c (.d (.int .i64 0))), [], [], none, none⟩,
        ⟨some 79, .beq true (.t 76) (.t 78), [], [], none, none⟩,
        ⟨some 80, .mv (.t 2), [], [], none, none⟩,
        ⟨some 81, .bin .lss (.t 80) (.c (.d (.int .i64 0))), [], [], none, none⟩,
        ⟨some 82, .beq true (.t 79) (.t 81), [], [], none, none⟩])
    (.cond (.t 82) (.region [15] (some []) none
        [⟨some 83, .mv (.t 15), [], [], none, none⟩,
         ⟨some 84, .un .neg (.t 83), [], [], none, none⟩,
         ⟨some 15, .mv (.t 84), [], [], none, none⟩])
     (.skip)))
   (g_wide_MulDiv.c3))
def g_wide_MulDiv.c5 : ACode :=
  .seq (.seq (.region [0, 1, 2, 13, 72] (some []) none
      [⟨some 71, .mv (.t 13), [], [], none, none⟩,
       ⟨some 72, .bin .gtr (.t 71) (.c (.d (.int .u64 9223372036854775807))), [], [], none, none⟩])
   (.cond (.t 72) (.seq (.region [8, 9] (some []) none
        [⟨some 8, .mv (.c (.d (.int .i64 0))), [], [], none, none⟩,
         ⟨some 9, .mv (.c (.d (.int .i64 3))), [], [], none, none⟩])
     (.ret))
    (.skip)))
  (g_wide_MulDiv.c4)
def g_wide_MulDiv.c6 : ACode :=
  .seq (.seq (.region [0, 1, 2, 13, 68] (some []) none
      (⟨some 60, .mv (.t 13), [], [], none, none⟩ ::
       ⟨some 61, .bin .leq (.t 60) (.c (.d (.int .u64 9223372036854775807))), [], [], none, none⟩ ::
       ⟨some 62, .mv (.t 61), [], [], none, (some ([0, 1, 2, 3, 12, 13, 14, 62], (some [])))⟩ ::
       g_wide_MulDiv.o6))
   (g_wide_MulDiv.c2))
  (g_wide_MulDiv.c5)
def g_wide_MulDiv.c7 : ACode :=
  .seq (.region [0, 1, 2, 3, 12, 13, 14] (some []) none
     [⟨some 54, .mv (.t 10), [], [], none, none⟩,
      ⟨some 55, .mv (.t 11), [], [], none, none⟩,
      ⟨some 56, .mv (.t 12), [], [], none, none⟩,
      ⟨some 57, .call 114 [(.t 54), (.t 55), (.t 56)], [], [], none, none⟩,
      ⟨some 53, .mv (.t 57), [], [], none, none⟩,
      ⟨some 58, .ext (.t 53) 0, [], [], none, none⟩,
      ⟨some 59, .ext (.t 53) 1, [], [], none, none⟩,
      ⟨some 13, .mv (.t 58), [], [], none, none⟩,
      ⟨some 14, .mv (.t 59), [], [], none, none⟩])
  (g_wide_MulDiv.c6)
def g_wide_MulDiv.c8 : ACode :=
  .seq (.region [0, 1, 2, 3, 10, 11, 12] (some []) none
     [⟨some 48, .mv (.t 2), [], [], none, none⟩,
      ⟨some 49, .call 112 [(.t 48)], [], [], none, none⟩,
      ⟨some 12, .mv (.t 49), [], [], none, none⟩])
  (.seq (.seq (.region [0, 1, 2, 3, 10, 11, 12, 52] (some []) none
       [⟨some 50, .mv (.t 10), [], [], none, none⟩,
        ⟨some 51, .mv (.t 12), [], [], none, none⟩,
        ⟨some 52, .bin .geq (.t 50) (.t 51), [], [], none, none⟩])
    (.cond (.t 52) (.seq (.region [8, 9] (some []) none
         [⟨some 8, .mv (.c (.d (.int .i64 0))), [], [], none, none⟩,
          ⟨some 9, .mv (.c (.d (.int .i64 3))), [], [], none, none⟩])
      (.ret))
     (.skip)))
   (g_wide_MulDiv.c7))
def g_wide_MulDiv.c9 : ACode :=
  .seq (.region [0, 1, 2, 3, 10, 11] (some []) none
     [⟨some 41, .mv (.t 0), [], [], none, none⟩,
      ⟨some 42, .call 112 [(.t 41)], [], [], none, none⟩,
      ⟨some 43, .mv (.t 1), [], [], none, none⟩,
      ⟨some 44, .call 112 [(.t 43)], [], [], none, none⟩,
      ⟨some 45, .call 113 [(.t 42), (.t 44)], [], [], none, none⟩,
      ⟨some 40, .mv (.t 45), [], [], none, none⟩,
      ⟨some 46, .ext (.t 40) 0, [], [], none, none⟩,
      ⟨some 47, .ext (.t 40) 1, [], [], none, none⟩,
      ⟨some 10, .mv (.t 46), [], [], none, none⟩,
      ⟨some 11, .mv (.t 47), [], [], none, none⟩])
  (g_wide_MulDiv.c8)
def g_wide_MulDiv.code : ACode :=
  .seq (.region [0, 1, 2, 3] (some []) none
     [⟨some 8, .mv (.c (.d (.int .i64 0))), [], [], none, none⟩,
      ⟨some 9, .mv (.c (.d (.int .i64 0))), [], [], none, none⟩])
  (.seq (.block 0 [0, 1, 2, 3] (some []) (.seq (.region [0, 1, 2, 3, 16] (some []) none
        (⟨some 17, .mv (.t 3), [], [], none, none⟩ ::
         ⟨some 18, .bin .lss (.t 17) (.c (.d (.int .i64 0))), [], [], none, none⟩ ::
         ⟨some 19, .mv (.t 18), [], [], none, (some ([0, 1, 2, 3, 19], (some [])))⟩ ::
         g_wide_MulDiv.o0))
     (g_wide_MulDiv.c1)))
   (g_wide_MulDiv.c9))
def g_wide_MulDiv : AFn := { N := 86, res := [.slot 8, .slot 9], own := [], frz := [], code := g_wide_MulDiv.code }
def g_money_Text.c0 : ACode :=
  .seq (.region [2, 3] (some []) (some ([0, 1, 2, 3, 4, 5, 6, 7, 8, 9, 10], .done))
     [⟨some 17, .mv (.t 4), [], [], none, none⟩,
      ⟨some 18, .mv (.t 0), [], [], none, none⟩,
      ⟨some 19, .bin .quo (.t 18) (.c (.d (.int .i64 100))), [], [1], none, none⟩,
      ⟨some 20, .call 68 [(.t 19)], [], [2], none, none⟩,
      ⟨some 21, .bin .add (.t 17) (.t 20), [], [0, 3], none, none⟩,
      ⟨some 22, .bin .add (.t 21) (.c (.d (.str [46]))), [], [4], none, none⟩,
      ⟨some 23, .mv (.t 5), [], [], none, none⟩,
      ⟨some 24, .slcS (.t 23) (some (.c (.d (.int .i64 1)))) none, [], [6], none, none⟩,
      ⟨some 25, .bin .add (.t 22) (.t 24), [], [5, 7], none, none⟩,
      ⟨some 2, .mv (.t 25), [], [8, 3, 0, 1, 2, 3, 4, 5, 6, 7, 8], none, none⟩,
      ⟨some 3, .mv (.c (.d (.int .i64 0))), [], [9, 0, 1, 2, 3, 4, 5, 6, 7, 8, 9], none, none⟩])
  (.ret)
def g_money_Text.c1 : ACode :=
  .seq (.region [0, 4, 5] (some []) none
     [⟨some 13, .mv (.t 0), [], [], none, none⟩,
      ⟨some 14, .bin .rem (.t 13) (.c (.d (.int .i64 100))), [], [], none, none⟩,
      ⟨some 15, .bin .add (.c (.d (.int .i64 100))) (.t 14), [], [], none, none⟩,
      ⟨some 16, .call 68 [(.t 15)], [], [], none, none⟩,
      ⟨some 5, .mv (.t 16), [], [], none, none⟩])
  (g_money_Text.c0)
def g_money_Text.c2 : ACode :=
  .seq (.region [0, 4] (some []) none
     [⟨some 4, .mv (.c (.d (.str []))), [], [], none, none⟩])
  (.seq (.seq (.region [0, 4, 10] (some []) none
       [⟨some 9, .mv (.t 0), [], [], none, none⟩,
        ⟨some 10, .bin .lss (.t 9) (.c (.d (.int .i64 0))), [], [], none, none⟩])
    (.cond (.t 10) (.region [0, 4] (some []) none
        [⟨some 11, .mv (.t 0), [], [], none, none⟩,
         ⟨some 12, .un .neg (.t 11), [], [], none, none⟩,
         ⟨some 4, .mv (.c (.d (.str [45]))), [], [], none, none⟩,
         ⟨some 0, .mv (.t 12), [], [], none, none⟩])
     (.skip)))
   (g_money_Text.c1))
def g_money_Text.code : ACode :=
  .seq (.region [0] (some []) none
     [⟨some 2, .mv (.c (.d (.str []))), [], [], none, none⟩,
      ⟨some 3, .mv (.c (.d (.int .i64 0))), [], [], none, none⟩])
  (.seq (.seq (.region [0, 8] (some []) none
       [⟨some 6, .mv (.t 0), [], [], none, none⟩,
        ⟨some 7, .call 58 [(.t 6)], [], [], none, none⟩,
        ⟨some 8, .un .not (.t 7), [], [], none, none⟩])
    (.cond (.t 8) (.seq (.region [2, 3] (some []) none
         [⟨some 2, .mv (.c (.d (.str []))), [], [], none, none⟩,
          ⟨some 3, .mv (.c (.d (.int .i64 3))), [], [], none, none⟩])
      (.ret))
     (.skip)))
   (g_money_Text.c2))
def g_money_Text : AFn := { N := 26, res := [.slot 2, .slot 3], own := [], frz := [], code := g_money_Text.code }
def g_strings_CutSuffix.code : ACode :=
  .seq (.region [0, 1] (some []) none
     [⟨some 4, .mv (.c (.d (.str []))), [], [], none, none⟩,
      ⟨some 5, .mv (.c (.d (.bool false))), [], [], none, none⟩])
  (.seq (.region [4, 5] (some []) none
      [⟨some 6, .mv (.t 0), [], [], none, none⟩,
       ⟨some 7, .mv (.t 1), [], [], none, none⟩,
       ⟨some 8, .call 122 [(.t 6), (.t 7)], [], [], none, none⟩,
       ⟨some 9, .ext (.t 8) 0, [], [], none, none⟩,
       ⟨some 10, .ext (.t 8) 1, [], [], none, none⟩,
       ⟨some 4, .mv (.t 9), [], [], none, none⟩,
       ⟨some 5, .mv (.t 10), [], [], none, none⟩])
   (.ret))
def g_strings_CutSuffix : AFn := { N := 11, res := [.slot 4, .slot 5], own := [], frz := [], code := g_strings_CutSuffix.code }
def g_money_Parse.o1 : List AOper :=
  [⟨some 20, .pick (.t 16) (.c (.d (.bool true))) (.t 19), [], [], none, none⟩]
def g_money_Parse.o0 : List AOper :=
  (⟨some 17, .mv (.t 4), [], [], (some (2, 16, false)), none⟩ ::
     ⟨some 18, .call 58 [(.t 17)], [], [], (some (2, 16, false)), none⟩ ::
     ⟨some 19, .un .not (.t 18), [], [], (some (2, 16, false)), (some ([0, 4, 16, 19], (some [])))⟩ ::
     g_money_Parse.o1)
def g_money_Parse.c0 : ACode :=
  .cond (.t 20) (.seq (.region [2, 3] (some []) none
      [⟨some 2, .mv (.c (.d (.int .i64 0))), [], [], none, none⟩,
       ⟨some 3, .mv (.c (.d (.bool false))), [], [], none, none⟩])
   (.ret))
  (.skip)
def g_money_Parse.c1 : ACode :=
  .seq (.region [4, 28] (some []) none
     [⟨some 26, .mv (.t 6), [], [], none, none⟩,
      ⟨some 27, .mv (.t 0), [], [], none, none⟩,
      ⟨some 28, .bin .neq (.t 26) (.t 27), [], [], none, none⟩])
  (.cond (.t 28) (.seq (.region [2, 3] (some []) none
       [⟨some 2, .mv (.c (.d (.int .i64 0))), [], [], none, none⟩,
        ⟨some 3, .mv (.c (.d (.bool false))), [], [], none, none⟩])
    (.ret))
   (.skip))
def g_money_Parse.c2 : ACode :=
  .seq (.region [2, 3] (some []) none
     [⟨some 29, .mv (.t 4), [], [], none, none⟩,
      ⟨some 2, .mv (.t 29), [], [], none, none⟩,
      ⟨some 3, .mv (.c (.d (.bool true))), [], [], none, none⟩])
  (.ret)
def g_money_Parse.c3 : ACode :=
  .seq (.seq (.region [0, 4, 6] (some []) none
      [⟨some 22, .mv (.t 4), [], [], none, none⟩,
       ⟨some 23, .call 50 [(.t 22)], [], [], none, none⟩,
       ⟨some 21, .mv (.t 23), [], [], none, none⟩,
       ⟨some 24, .ext (.t 21) 0, [], [], none, none⟩,
       ⟨some 25, .ext (.t 21) 1, [], [], none, none⟩,
       ⟨some 6, .mv (.t 24), [], [], none, none⟩,
       ⟨some 7, .mv (.t 25), [], [], none, none⟩])
   (g_money_Parse.c1))
  (g_money_Parse.c2)
def g_money_Parse.c4 : ACode :=
  .seq (.seq (.region [0, 4, 20] (some []) none
      (⟨some 14, .mv (.t 5), [], [], none, none⟩ ::
       ⟨some 15, .nilE true (.t 14), [], [], none, none⟩ ::
       ⟨some 16, .mv (.t 15), [], [], none, (some ([0, 4, 16], (some [])))⟩ ::
       g_money_Parse.o0))
   (g_money_Parse.c0))
  (g_money_Parse.c3)
def g_money_Parse.code : ACode :=
  .seq (.region [0] (some []) none
     [⟨some 2, .mv (.c (.d (.int .i64 0))), [], [], none, none⟩,
      ⟨some 3, .mv (.c (.d (.bool false))), [], [], none, none⟩])
  (.seq (.region [0, 4, 5] (some []) none
      [⟨some 9, .mv (.t 0), [], [], none, none⟩,
       ⟨some 10, .call 69 [(.t 9), (.c (.d (.str [46]))), (.c (.d (.str []))), (.c (.d (.int .i64 1)))], [], [], none, none⟩,
       ⟨some 11, .call 70 [(.t 10)], [], [], none, none⟩,
       ⟨some 8, .mv (.t 11), [], [], none, none⟩,
       ⟨some 12, .ext (.t 8) 0, [], [], none, none⟩,
       ⟨some 13, .ext (.t 8) 1, [], [], none, none⟩,
       ⟨some 4, .mv (.t 12), [], [], none, none⟩,
       ⟨some 5, .mv (.t 13), [], [], none, none⟩])
   (g_money_Parse.c4))
def g_money_Parse : AFn := { N := 30, res := [.slot 2, .slot 3], own := [], frz := [], code := g_money_Parse.code }
def g_ref01_Text.c0 : ACode :=
  .seq (.region [2] (some []) none
     [⟨some 9, .mv (.t 0), [], [], none, none⟩,
      ⟨some 10, .bin .quo (.t 9) (.c (.d (.int .i64 100))), [], [], none, none⟩,
      ⟨some 11, .call 71 [(.t 10)], [], [], none, none⟩,
      ⟨some 12, .bin .add (.t 11) (.c (.d (.str [46]))), [], [], none, none⟩,
      ⟨some 13, .mv (.t 0), [], [], none, none⟩,
      ⟨some 14, .bin .rem (.t 13) (.c (.d (.int .i64 100))), [], [], none, none⟩,
      ⟨some 15, .bin .quo (.t 14) (.c (.d (.int .i64 10))), [], [], none, none⟩,
      ⟨some 16, .call 71 [(.t 15)], [], [], none, none⟩,
      ⟨some 17, .bin .add (.t 12) (.t 16), [], [], none, none⟩,
      ⟨some 18, .mv (.t 0), [], [], none, none⟩,
      ⟨some 19, .bin .rem (.t 18) (.c (.d (.int .i64 10))), [], [], none, none⟩,
      ⟨some 20, .call 71 [(.t 19)], [], [], none, none⟩,
      ⟨some 21, .bin .add (.t 17) (.t 20), [], [], none, none⟩,
      ⟨some 2, .mv (.t 21), [], [], none, none⟩])
  (.ret)
def g_ref01_Text.code : ACode :=
  .seq (.region [0] (some []) none
     [⟨some 2, .mv (.c (.d (.str []))), [], [], none, none⟩])
  (.seq (.seq (.region [0, 4] (some []) none
       [⟨some 3, .mv (.t 0), [], [], none, none⟩,
        ⟨some 4, .bin .lss (.t 3) (.c (.d (.int .i64 0))), [], [], none, none⟩])
    (.cond (.t 4) (.seq (.region [2] (some []) none
         [⟨some 5, .mv (.t 0), [], [], none, none⟩,
          ⟨some 6, .un .neg (.t 5), [], [], none, none⟩,
          ⟨some 7, .call 54 [(.t 6)], [], [], none, none⟩,
          ⟨some 8, .bin .add (.c (.d (.str [45]))) (.t 7), [], [], none, none⟩,
          ⟨some 2, .mv (.t 8), [], [], none, none⟩])
      (.ret))
     (.skip)))
   (g_ref01_Text.c0))
def g_ref01_Text : AFn := { N := 22, res := [.slot 2], own := [], frz := [], code := g_ref01_Text.code }
def g_money_Right.code : ACode :=
  .seq (.region [0] (some []) none
     [⟨some 2, .mv (.c (.d (.bool false))), [], [], none, none⟩])
  (.seq (.region [2] (some []) none
      [⟨some 3, .mv (.t 0), [], [], none, none⟩,
       ⟨some 4, .bin .geq (.t 3) (.c (.d (.int .i64 (-9223372036854775807)))), [], [], none, none⟩,
       ⟨some 2, .mv (.t 4), [], [], none, none⟩])
   (.ret))
def g_money_Right : AFn := { N := 5, res := [.slot 2], own := [], frz := [], code := g_money_Right.code }
def g_wide_size.c0 : ACode :=
  .seq (.region [2] (some []) none
     [⟨some 8, .mv (.t 0), [], [], none, none⟩,
      ⟨some 9, .conv .u64 (.t 8), [], [], none, none⟩,
      ⟨some 2, .mv (.t 9), [], [], none, none⟩])
  (.ret)
def g_wide_size.code : ACode :=
  .seq (.region [0] (some []) none
     [⟨some 2, .mv (.c (.d (.int .u64 0))), [], [], none, none⟩])
  (.seq (.seq (.region [0, 4] (some []) none
       [⟨some 3, .mv (.t 0), [], [], none, none⟩,
        ⟨some 4, .bin .lss (.t 3) (.c (.d (.int .i64 0))), [], [], none, none⟩])
    (.cond (.t 4) (.seq (.region [2] (some []) none
         [⟨some 5, .mv (.t 0), [], [], none, none⟩,
          ⟨some 6, .conv .u64 (.t 5), [], [], none, none⟩,
          ⟨some 7, .un .neg (.t 6), [], [], none, none⟩,
          ⟨some 2, .mv (.t 7), [], [], none, none⟩])
      (.ret))
     (.skip)))
   (g_wide_size.c0))
def g_wide_size : AFn := { N := 10, res := [.slot 2], own := [], frz := [], code := g_wide_size.code }
def g_math_bits_Div64.o1 : List AOper :=
  [⟨some 78, .pick (.t 69) (.c (.d (.bool true))) (.t 77), [], [], none, none⟩]
def g_math_bits_Div64.o0 : List AOper :=
  (⟨some 70, .mv (.t 15), [], [], (some (2, 69, false)), none⟩ ::
     ⟨some 71, .mv (.t 10), [], [], (some (2, 69, false)), none⟩ ::
     ⟨some 72, .bin .mul (.t 70) (.t 71), [], [], (some (2, 69, false)), none⟩ ::
     ⟨some 73, .mv (.t 16), [], [], (some (2, 69, false)), none⟩ ::
     ⟨some 74, .bin .mul (.c (.d (.int .u64 4294967296))) (.t 73), [], [], (some (2, 69, false)), none⟩ ::
     ⟨some 75, .mv (.t 13), [], [], (some (2, 69, false)), none⟩ ::
     ⟨some 76, .bin .add (.t 74) (.t 75), [], [], (some (2, 69, false)), none⟩ ::
     ⟨some 77, .bin .gtr (.t 72) (.t 76), [], [], (some (2, 69, false)), (some ([2, 8, 9, 10, 11, 13, 14, 15, 16, 69, 77], (some [])))⟩ ::
     g_math_bits_Div64.o1)
def g_math_bits_Div64.c0 : ACode :=
  .cond (.t 78) (.skip)
  (.exit 0)
def g_math_bits_Div64.c1 : ACode :=
  .seq (.region [2, 8, 9, 10, 11, 13, 14, 15, 16, 85] (some []) none
     [⟨some 84, .mv (.t 16), [], [], none, none⟩,
      ⟨some 85, .bin .geq (.t 84) (.c (.d (.int .u64 4294967296))), [], [], none, none⟩])
  (.cond (.t 85) (.exit 0)
   (.skip))
def g_math_bits_Div64.c2 : ACode :=
  .block 1 [2, 8, 9, 10, 11, 13, 14, 15, 16] (some []) (.seq (.region [2, 8, 9, 10, 11, 13, 14, 15, 16] (some []) none
      [⟨some 79, .mv (.t 15), [], [], none, none⟩,
       ⟨some 80, .bin .sub (.t 79) (.c (.d (.int .u64 1))), [], [], none, none⟩,
       ⟨some 15, .mv (.t 80), [], [], none, none⟩])
   (.seq (.region [2, 8, 9, 10, 11, 13, 14, 15, 16] (some []) none
       [⟨some 81, .mv (.t 16), [], [], none, none⟩,
        ⟨some 82, .mv (.t 9), [], [], none, none⟩,
        ⟨some 83, .bin .add (.t 81) (.t 82), [], [], none, none⟩,
        ⟨some 16, .mv (.t 83), [], [], none, none⟩])
    (g_math_bits_Div64.c1)))
def g_math_bits_Div64.l0 : ACode :=
  .loop [2, 8, 9, 10, 11, 13, 14, 15, 16] (some []) (.seq (.seq (.region [2, 8, 9, 10, 11, 13, 14, 15, 16, 78] (some []) none
      (⟨some 67, .mv (.t 15), [], [], none, none⟩ ::
       ⟨some 68, .bin .geq (.t 67) (.c (.d (.int .u64 4294967296))), [], [], none, none⟩ ::
       ⟨some 69, .mv (.t 68), [], [], none, (some ([2, 8, 9, 10, 11, 13, 14, 15, 16, 69], (some [])))⟩ ::
       g_math_bits_Div64.o0))
   (g_math_bits_Div64.c0))
  (g_math_bits_Div64.c2))
def g_math_bits_Div64.o3 : List AOper :=
  [⟨some 113, .pick (.t 104) (.c (.d (.bool true))) (.t 112), [], [], none, none⟩]
def g_math_bits_Div64.o2 : List AOper :=
  (⟨some 105, .mv (.t 18), [], [], (some (2, 104, false)), none⟩ ::
     ⟨some 106, .mv (.t 10), [], [], (some (2, 104, false)), none⟩ ::
     ⟨some 107, .bin .mul (.t 105) (.t 106), [], [], (some (2, 104, false)), none⟩ ::
     ⟨some 108, .mv (.t 16), [], [], (some (2, 104, false)), none⟩ ::
     ⟨some 109, .bin .mul (.c (.d (.int .u64 4294967296))) (.t 108), [], [], (some (2, 104, false)), none⟩ ::
     ⟨some 110, .mv (.t 14), [], [], (some (2, 104, false)), none⟩ ::
     ⟨some 111, .bin .add (.t 109) (.t 110), [], [], (some (2, 104, false)), none⟩ ::
     ⟨some 112, .bin .gtr (.t 107) (.t 111), [], [], (some (2, 104, false)), (some ([2, 8, 9, 10, 14, 15, 16, 17, 18, 104, 112], (some [])))⟩ ::
     g_math_bits_Div64.o3)
def g_math_bits_Div64.c3 : ACode :=
  .cond (.t 113) (.skip)
  (.exit 2)
def g_math_bits_Div64.c4 : ACode :=
  .seq (.region [2, 8, 9, 10, 14, 15, 16, 17, 18, 120] (some []) none
     [⟨some 119, .mv (.t 16), [], [], none, none⟩,
      ⟨some 120, .bin .geq (.t 119) (.c (.d (.int .u64 4294967296))), [], [], none, none⟩])
  (.cond (.t 120) (.exit 2)
   (.skip))
def g_math_bits_Div64.c5 : ACode :=
  .block 3 [2, 8, 9, 10, 14, 15, 16, 17, 18] (some []) (.seq (.region [2, 8, 9, 10, 14, 15, 16, 17, 18] (some []) none
      [⟨some 114, .mv (.t 18), [], [], none, none⟩,
       ⟨some 115, .bin .sub (.t 114) (.c (.d (.int .u64 1))), [], [], none, none⟩,
       ⟨some 18, .mv (.t 115), [], [], none, none⟩])
   (.seq (.region [2, 8, 9, 10, 14, 15, 16, 17, 18] (some []) none
       [⟨some 116, .mv (.t 16), [], [], none, none⟩,
        ⟨some 117, .mv (.t 9), [], [], none, none⟩,
        ⟨some 118, .bin .add (.t 116) (.t 117), [], [], none, none⟩,
        ⟨some 16, .mv (.t 118), [], [], none, none⟩])
    (g_math_bits_Div64.c4)))
def g_math_bits_Div64.l1 : ACode :=
  .loop [2, 8, 9, 10, 14, 15, 16, 17, 18] (some []) (.seq (.seq (.region [2, 8, 9, 10, 14, 15, 16, 17, 18, 113] (some []) none
      (⟨some 102, .mv (.t 18), [], [], none, none⟩ ::
       ⟨some 103, .bin .geq (.t 102) (.c (.d (.int .u64 4294967296))), [], [], none, none⟩ ::
       ⟨some 104, .mv (.t 103), [], [], none, (some ([2, 8, 9, 10, 14, 15, 16, 17, 18, 104], (some [])))⟩ ::
       g_math_bits_Div64.o2))
   (g_math_bits_Div64.c3))
  (g_math_bits_Div64.c5))
def g_math_bits_Div64.c6 : ACode :=
  .seq (.region [6, 7] (some []) none
     [⟨some 121, .mv (.t 15), [], [], none, none⟩,
      ⟨some 122, .bin .mul (.t 121) (.c (.d (.int .u64 4294967296))), [], [], none, none⟩,
      ⟨some 123, .mv (.t 18), [], [], none, none⟩,
      ⟨some 124, .bin .add (.t 122) (.t 123), [], [], none, none⟩,
      ⟨some 125, .mv (.t 17), [], [], none, none⟩,
      ⟨some 126, .bin .mul (.t 125) (.c (.d (.int .u64 4294967296))), [], [], none, none⟩,
      ⟨some 127, .mv (.t 14), [], [], none, none⟩,
      ⟨some 128, .bin .add (.t 126) (.t 127), [], [], none, none⟩,
      ⟨some 129, .mv (.t 18), [], [], none, none⟩,
      ⟨some 130, .mv (.t 2), [], [], none, none⟩,
      ⟨some 131, .bin .mul (.t 129) (.t 130), [], [], none, none⟩,
      ⟨some 132, .bin .sub (.t 128) (.t 131), [], [], none, none⟩,
      ⟨some 133, .mv (.t 8), [], [], none, none⟩,
      ⟨some 134, .bin .shr (.t 132) (.t 133), [], [], none, none⟩,
      ⟨some 6, .mv (.t 124), [], [], none, none⟩,
      ⟨some 7, .mv (.t 134), [], [], none, none⟩])
  (.ret)
def g_math_bits_Div64.c7 : ACode :=
  .seq (.block 2 [2, 8, 14, 15, 17, 18] (some []) (g_math_bits_Div64.l1))
  (g_math_bits_Div64.c6)
def g_math_bits_Div64.c8 : ACode :=
  .seq (.region [2, 8, 9, 10, 14, 15, 16, 17, 18] (some []) none
     [⟨some 97, .mv (.t 17), [], [], none, none⟩,
      ⟨some 98, .mv (.t 18), [], [], none, none⟩,
      ⟨some 99, .mv (.t 9), [], [], none, none⟩,
      ⟨some 100, .bin .mul (.t 98) (.t 99), [], [], none, none⟩,
      ⟨some 101, .bin .sub (.t 97) (.t 100), [], [], none, none⟩,
      ⟨some 16, .mv (.t 101), [], [], none, none⟩])
  (g_math_bits_Div64.c7)
def g_math_bits_Div64.c9 : ACode :=
  .seq (.region [2, 8, 9, 10, 14, 15, 17, 18] (some []) none
     [⟨some 94, .mv (.t 17), [], [], none, none⟩,
      ⟨some 95, .mv (.t 9), [], [], none, none⟩,
      ⟨some 96, .bin .quo (.t 94) (.t 95), [], [], none, none⟩,
      ⟨some 18, .mv (.t 96), [], [], none, none⟩])
  (g_math_bits_Div64.c8)
def g_math_bits_Div64.c10 : ACode :=
  .seq (.region [2, 8, 9, 10, 14, 15, 17] (some []) none
     [⟨some 86, .mv (.t 11), [], [], none, none⟩,
      ⟨some 87, .bin .mul (.t 86) (.c (.d (.int .u64 4294967296))), [], [], none, none⟩,
      ⟨some 88, .mv (.t 13), [], [], none, none⟩,
      ⟨some 89, .bin .add (.t 87) (.t 88), [], [], none, none⟩,
      ⟨some 90, .mv (.t 15), [], [], none, none⟩,
      ⟨some 91, .mv (.t 2), [], [], none, none⟩,
      ⟨some 92, .bin .mul (.t 90) (.t 91), [], [], none, none⟩,
      ⟨some 93, .bin .sub (.t 89) (.t 92), [], [], none, none⟩,
      ⟨some 17, .mv (.t 93), [], [], none, none⟩])
  (g_math_bits_Div64.c9)
def g_math_bits_Div64.c11 : ACode :=
  .seq (.block 0 [2, 8, 9, 10, 11, 13, 14, 15] (some []) (g_math_bits_Div64.l0))
  (g_math_bits_Div64.c10)
def g_math_bits_Div64.c12 : ACode :=
  .seq (.region [2, 8, 9, 10, 11, 13, 14, 15, 16] (some []) none
     [⟨some 62, .mv (.t 11), [], [], none, none⟩,
      ⟨some 63, .mv (.t 15), [], [], none, none⟩,
      ⟨some 64, .mv (.t 9), [], [], none, none⟩,
      ⟨some 65, .bin .mul (.t 63) (.t 64), [], [], none, none⟩,
      ⟨some 66, .bin .sub (.t 62) (.t 65), [], [], none, none⟩,
      ⟨some 16, .mv (.t 66), [], [], none, none⟩])
  (g_math_bits_Div64.c11)
def g_math_bits_Div64.c13 : ACode :=
  .seq (.region [2, 8, 9, 10, 11, 12, 13] (some []) none
     [⟨some 55, .mv (.t 12), [], [], none, none⟩,
      ⟨some 56, .bin .shr (.t 55) (.c (.d (.int .u64 32))), [], [], none, none⟩,
      ⟨some 13, .mv (.t 56), [], [], none, none⟩])
  (.seq (.region [2, 8, 9, 10, 11, 13, 14] (some []) none
      [⟨some 57, .mv (.t 12), [], [], none, none⟩,
       ⟨some 58, .bin .and (.t 57) (.c (.d (.int .u64 4294967295))), [], [], none, none⟩,
       ⟨some 14, .mv (.t 58), [], [], none, none⟩])
   (.seq (.region [2, 8, 9, 10, 11, 13, 14, 15] (some []) none
       [⟨some 59, .mv (.t 11), [], [], none, none⟩,
        ⟨some 60, .mv (.t 9), [], [], none, none⟩,
        ⟨some 61, .bin .quo (.t 59) (.t 60), [], [], none, none⟩,
        ⟨some 15, .mv (.t 61), [], [], none, none⟩])
    (g_math_bits_Div64.c12)))
def g_math_bits_Div64.c14 : ACode :=
  .seq (.region [2, 8, 9, 10, 11, 12] (some []) none
     [⟨some 52, .mv (.t 1), [], [], none, none⟩,
      ⟨some 53, .mv (.t 8), [], [], none, none⟩,
      ⟨some 54, .bin .shl (.t 52) (.t 53), [], [], none, none⟩,
      ⟨some 12, .mv (.t 54), [], [], none, none⟩])
  (g_math_bits_Div64.c13)
def g_math_bits_Div64.c15 : ACode :=
  .seq (.region [0, 1, 2, 8, 9] (some []) none
     [⟨some 40, .mv (.t 2), [], [], none, none⟩,
      ⟨some 41, .bin .shr (.t 40) (.c (.d (.int .u64 32))), [], [], none, none⟩,
      ⟨some 9, .mv (.t 41), [], [], none, none⟩])
  (.seq (.region [0, 1, 2, 8, 9, 10] (some []) none
      [⟨some 42, .mv (.t 2), [], [], none, none⟩,
       ⟨some 43, .bin .and (.t 42) (.c (.d (.int .u64 4294967295))), [], [], none, none⟩,
       ⟨some 10, .mv (.t 43), [], [], none, none⟩])
   (.seq (.region [1, 2, 8, 9, 10, 11] (some []) none
       [⟨some 44, .mv (.t 0), [], [], none, none⟩,
        ⟨some 45, .mv (.t 8), [], [], none, none⟩,
        ⟨some 46, .bin .shl (.t 44) (.t 45), [], [], none, none⟩,
        ⟨some 47, .mv (.t 1), [], [], none, none⟩,
        ⟨some 48, .mv (.t 8), [], [], none, none⟩,
        ⟨some 49, .bin .sub (.c (.d (.int .u64 64))) (.t 48), [], [], none, none⟩,
        ⟨some 50, .bin .shr (.t 47) (.t 49), [], [], none, none⟩,
        ⟨some 51, .bin .or (.t 46) (.t 50), [], [], none, none⟩,
        ⟨some 11, .mv (.t 51), [], [], none, none⟩])
    (g_math_bits_Div64.c14)))
def g_math_bits_Div64.c16 : ACode :=
  .seq (.region [0, 1, 2, 8] (some []) none
     [⟨some 37, .mv (.t 2), [], [], none, none⟩,
      ⟨some 38, .mv (.t 8), [], [], none, none⟩,
      ⟨some 39, .bin .shl (.t 37) (.t 38), [], [], none, none⟩,
      ⟨some 2, .mv (.t 39), [], [], none, none⟩])
  (g_math_bits_Div64.c15)
def g_math_bits_Div64.c17 : ACode :=
  .seq (.region [0, 1, 2, 8] (some []) none
     [⟨some 34, .mv (.t 2), [], [], none, none⟩,
      ⟨some 35, .call 133 [(.t 34)], [], [], none, none⟩,
      ⟨some 36, .conv .u64 (.t 35), [], [], none, none⟩,
      ⟨some 8, .mv (.t 36), [], [], none, none⟩])
  (g_math_bits_Div64.c16)
def g_math_bits_Div64.c18 : ACode :=
  .seq (.seq (.region [0, 1, 2, 27] (some []) none
      [⟨some 26, .mv (.t 0), [], [], none, none⟩,
       ⟨some 27, .bin .eql (.t 26) (.c (.d (.int .u64 0))), [], [], none, none⟩])
   (.cond (.t 27) (.seq (.region [6, 7] (some []) (some ([0, 1, 2, 3, 4, 5, 6, 7], .done))
        [⟨some 28, .mv (.t 1), [], [], none, none⟩,
         ⟨some 29, .mv (.t 2), [], [], none, none⟩,
         ⟨some 30, .bin .quo (.t 28) (.t 29), [], [0, 1], none, none⟩,
         ⟨some 31, .mv (.t 1), [], [], none, none⟩,
         ⟨some 32, .mv (.t 2), [], [], none, none⟩,
         ⟨some 33, .bin .rem (.t 31) (.t 32), [], [3, 4], none, none⟩,
         ⟨some 6, .mv (.t 30), [], [2, 0, 1, 2], none, none⟩,
         ⟨some 7, .mv (.t 33), [], [5, 6, 0, 1, 2, 3, 4, 5, 6], none, none⟩])
     (.ret))
    (.skip)))
  (g_math_bits_Div64.c17)
def g_math_bits_Div64.c19 : ACode :=
  .seq (.seq (.region [0, 1, 2, 24] (some []) none
      [⟨some 22, .mv (.t 2), [], [], none, none⟩,
       ⟨some 23, .mv (.t 0), [], [], none, none⟩,
       ⟨some 24, .bin .leq (.t 22) (.t 23), [], [], none, none⟩])
   (.cond (.t 24) (.region [0, 1, 2] (some []) none
       [⟨some 25, .never, [], [], none, none⟩,
        ⟨none, .never, [], [], none, none⟩])
    (.skip)))
  (g_math_bits_Div64.c18)
def g_math_bits_Div64.code : ACode :=
  .seq (.region [0, 1, 2] (some []) none
     [⟨some 6, .mv (.c (.d (.int .u64 0))), [], [], none, none⟩,
      ⟨some 7, .mv (.c (.d (.int .u64 0))), [], [], none, none⟩])
  (.seq (.seq (.region [0, 1, 2, 20] (some []) none
       [⟨some 19, .mv (.t 2), [], [], none, none⟩,
        ⟨some 20, .bin .eql (.t 19) (.c (.d (.int .u64 0))), [], [], none, none⟩])
    (.cond (.t 20) (.region [0, 1, 2] (some []) none
        [⟨some 21, .never, [], [], none, none⟩,
         ⟨none, .never, [], [], none, none⟩])
     (.skip)))
   (g_math_bits_Div64.c19))
def g_math_bits_Div64 : AFn := { N := 135, res := [.slot 6, .slot 7], own := [], frz := [], code := g_math_bits_Div64.code }
def g_wide_up.o1 : List AOper :=
  [⟨some 31, .pick (.t 28) (.c (.d (.bool true))) (.t 30), [], [], none, none⟩,
     ⟨some 24, .mv (.t 31), [], [], none, none⟩]
def g_wide_up.o0 : List AOper :=
  (⟨some 29, .mv (.t 2), [], [], (some (3, 28, false)), none⟩ ::
     ⟨some 30, .bin .eql (.t 29) (.c (.d (.int .u64 0))), [], [], (some (3, 28, false)), (some ([0, 1, 28, 30], (some [])))⟩ ::
     g_wide_up.o1)
def g_wide_up.c0 : ACode :=
  .cond (.t 24) (.seq (.region [8] (some []) none
      [⟨some 8, .mv (.c (.d (.bool false))), [], [], none, none⟩])
   (.ret))
  (.skip)
def g_wide_up.o3 : List AOper :=
  [⟨some 38, .pick (.t 34) (.c (.d (.bool true))) (.t 37), [], [], none, none⟩,
     ⟨some 8, .mv (.t 38), [], [], none, none⟩]
def g_wide_up.o2 : List AOper :=
  (⟨some 35, .mv (.t 1), [], [], (some (2, 34, false)), none⟩ ::
     ⟨some 36, .bin .rem (.t 35) (.c (.d (.int .u64 2))), [], [], (some (2, 34, false)), none⟩ ::
     ⟨some 37, .bin .eql (.t 36) (.c (.d (.int .u64 1))), [], [], (some (2, 34, false)), (some ([34, 37], (some [])))⟩ ::
     g_wide_up.o3)
def g_wide_up.c1 : ACode :=
  .ret
def g_wide_up.c2 : ACode :=
  .seq (.region [8] (some []) none
     (⟨some 32, .mv (.t 0), [], [], none, none⟩ ::
      ⟨some 33, .bin .eql (.t 32) (.c (.d (.int .i64 2))), [], [], none, none⟩ ::
      ⟨some 34, .mv (.t 33), [], [], none, (some ([1, 34], (some [])))⟩ ::
      g_wide_up.o2))
  (g_wide_up.c1)
def g_wide_up.c3 : ACode :=
  .seq (.block 1 [0, 1] (some []) (.seq (.region [0, 1, 2, 9, 20] (some []) none
       [⟨some 21, .mv (.t 2), [], [], none, none⟩,
        ⟨some 22, .mv (.t 9), [], [], none, none⟩,
        ⟨some 23, .bin .gtr (.t 21) (.t 22), [], [], none, none⟩,
        ⟨some 20, .mv (.t 23), [], [], none, none⟩])
    (.cond (.t 20) (.seq (.region [8] (some []) none
         [⟨some 8, .mv (.c (.d (.bool true))), [], [], none, none⟩])
      (.ret))
     (.seq (.region [0, 1, 24] (some []) none
         (⟨some 25, .mv (.t 2), [], [], none, none⟩ ::
          ⟨some 26, .mv (.t 9), [], [], none, none⟩ ::
          ⟨some 27, .bin .lss (.t 25) (.t 26), [], [], none, none⟩ ::
          ⟨some 28, .mv (.t 27), [], [], none, (some ([0, 1, 2, 28], (some [])))⟩ ::
          g_wide_up.o0))
      (g_wide_up.c0)))))
  (g_wide_up.c2)
def g_wide_up.c4 : ACode :=
  .seq (.region [0, 1, 2, 9] (some []) none
     [⟨some 17, .mv (.t 3), [], [], none, none⟩,
      ⟨some 18, .mv (.t 2), [], [], none, none⟩,
      ⟨some 19, .bin .sub (.t 17) (.t 18), [], [], none, none⟩,
      ⟨some 9, .mv (.t 19), [], [], none, none⟩])
  (g_wide_up.c3)
def g_wide_up.code : ACode :=
  .seq (.region [0, 1, 2, 3] (some []) none
     [⟨some 8, .mv (.c (.d (.bool false))), [], [], none, none⟩])
  (.seq (.seq (.region [0, 1, 2, 3, 10] (some []) none
       [⟨some 10, .mv (.t 0), [], [], none, none⟩])
    (.block 0 [0, 1, 2, 3] (some []) (.seq (.region [0, 1, 2, 3, 10, 11] (some []) none
         [⟨some 12, .bin .eql (.t 10) (.c (.d (.int .i64 0))), [], [], none, none⟩,
          ⟨some 11, .mv (.t 12), [], [], none, none⟩])
      (.cond (.t 11) (.seq (.region [8] (some []) none
           [⟨some 8, .mv (.c (.d (.bool false))), [], [], none, none⟩])
        (.ret))
       (.seq (.region [0, 1, 2, 3, 13] (some []) none
           [⟨some 14, .bin .eql (.t 10) (.c (.d (.int .i64 1))), [], [], none, none⟩,
            ⟨some 13, .mv (.t 14), [], [], none, none⟩])
        (.cond (.t 13) (.seq (.region [8] (some []) none
             [⟨some 15, .mv (.t 2), [], [], none, none⟩,
              ⟨some 16, .bin .gtr (.t 15) (.c (.d (.int .u64 0))), [], [], none, none⟩,
              ⟨some 8, .mv (.t 16), [], [], none, none⟩])
          (.ret))
         (.skip)))))))
   (g_wide_up.c4))
def g_wide_up : AFn := { N := 39, res := [.slot 8], own := [], frz := [], code := g_wide_up.code }
def g_internal_stringslite_CutSuffix.c0 : ACode :=
  .seq (.region [4, 5] (some []) none
     [⟨some 11, .mv (.t 0), [], [], none, none⟩,
      ⟨some 12, .mv (.t 0), [], [], none, none⟩,
      ⟨some 13, .lenS (.t 12), [], [], none, none⟩,
      ⟨some 14, .mv (.t 1), [], [], none, none⟩,
      ⟨some 15, .lenS (.t 14), [], [], none, none⟩,
      ⟨some 16, .bin .sub (.t 13) (.t 15), [], [], none, none⟩,
      ⟨some 17, .slcS (.t 11) none (some (.t 16)), [], [], none, none⟩,
      ⟨some 4, .mv (.t 17), [], [], none, none⟩,
      ⟨some 5, .mv (.c (.d (.bool true))), [], [], none, none⟩])
  (.ret)
def g_internal_stringslite_CutSuffix.code : ACode :=
  .seq (.region [0, 1] (some []) none
     [⟨some 4, .mv (.c (.d (.str []))), [], [], none, none⟩,
      ⟨some 5, .mv (.c (.d (.bool false))), [], [], none, none⟩])
  (.seq (.seq (.region [0, 1, 9] (some []) none
       [⟨some 6, .mv (.t 0), [], [], none, none⟩,
        ⟨some 7, .mv (.t 1), [], [], none, none⟩,
        ⟨some 8, .call 141 [(.t 6), (.t 7)], [], [], none, none⟩,
        ⟨some 9, .un .not (.t 8), [], [], none, none⟩])
    (.cond (.t 9) (.seq (.region [4, 5] (some []) none
         [⟨some 10, .mv (.t 0), [], [], none, none⟩,
          ⟨some 4, .mv (.t 10), [], [], none, none⟩,
          ⟨some 5, .mv (.c (.d (.bool false))), [], [], none, none⟩])
      (.ret))
     (.skip)))
   (g_internal_stringslite_CutSuffix.c0))
def g_internal_stringslite_CutSuffix : AFn := { N := 18, res := [.slot 4, .slot 5], own := [], frz := [], code := g_internal_stringslite_CutSuffix.code }
def g_ref01_Digits.l0 : ACode :=
  .loop [0, 3] (some []) (.seq (.seq (.region [0, 3, 11] (some []) none
      [⟨some 10, .mv (.t 0), [], [], none, none⟩,
       ⟨some 11, .bin .gtr (.t 10) (.c (.d (.int .i64 9))), [], [], none, none⟩])
   (.cond (.t 11) (.skip)
    (.exit 0)))
  (.block 1 [0, 3] (some []) (.seq (.region [0, 3] (some []) none
       [⟨some 12, .mv (.t 0), [], [], none, none⟩,
        ⟨some 13, .bin .quo (.t 12) (.c (.d (.int .i64 10))), [], [], none, none⟩,
        ⟨some 0, .mv (.t 13), [], [], none, none⟩])
    (.region [0, 3] (some []) none
       [⟨some 14, .mv (.t 0), [], [], none, none⟩,
        ⟨some 15, .bin .rem (.t 14) (.c (.d (.int .i64 10))), [], [], none, none⟩,
        ⟨some 16, .bin .add (.c (.d (.int .i64 48))) (.t 15), [], [], none, none⟩,
        ⟨some 17, .conv .u8 (.t 16), [], [], none, none⟩,
        ⟨some 18, .bsl none 1 [] 1 [(0, (.t 17))], [], [], none, none⟩,
        ⟨some 19, .bstr (.t 18), [], [], none, none⟩,
        ⟨some 20, .mv (.t 3), [], [], none, none⟩,
        ⟨some 21, .bin .add (.t 19) (.t 20), [], [], none, none⟩,
        ⟨some 3, .mv (.t 21), [], [], none, none⟩]))))
def g_ref01_Digits.c0 : ACode :=
  .seq (.region [2] (some []) none
     [⟨some 22, .mv (.t 3), [], [], none, none⟩,
      ⟨some 2, .mv (.t 22), [], [], none, none⟩])
  (.ret)
def g_ref01_Digits.c1 : ACode :=
  .seq (.block 0 [3] (some []) (g_ref01_Digits.l0))
  (g_ref01_Digits.c0)
def g_ref01_Digits.code : ACode :=
  .seq (.region [0] (some []) none
     [⟨some 2, .mv (.c (.d (.str []))), [], [], none, none⟩])
  (.seq (.region [0, 3] (some []) none
      [⟨some 4, .mv (.t 0), [], [], none, none⟩,
       ⟨some 5, .bin .rem (.t 4) (.c (.d (.int .i64 10))), [], [], none, none⟩,
       ⟨some 6, .bin .add (.c (.d (.int .i64 48))) (.t 5), [], [], none, none⟩,
       ⟨some 7, .conv .u8 (.t 6), [], [], none, none⟩,
       ⟨some 8, .bsl none 1 [] 1 [(0, (.t 7))], [], [], none, none⟩,
       ⟨some 9, .bstr (.t 8), [], [], none, none⟩,
       ⟨some 3, .mv (.t 9), [], [], none, none⟩])
   (g_ref01_Digits.c1))
def g_ref01_Digits : AFn := { N := 23, res := [.slot 2], own := [], frz := [], code := g_ref01_Digits.code }
def g_internal_stringslite_HasSuffix.o1 : List AOper :=
  [⟨some 20, .pick (.t 10) (.t 19) (.c (.d (.bool false))), [], [], none, none⟩,
     ⟨some 4, .mv (.t 20), [], [], none, none⟩]
def g_internal_stringslite_HasSuffix.o0 : List AOper :=
  (⟨some 11, .mv (.t 0), [], [], (some (5, 10, true)), none⟩ ::
     ⟨some 12, .mv (.t 0), [], [], (some (5, 10, true)), none⟩ ::
     ⟨some 13, .lenS (.t 12), [], [], (some (5, 10, true)), none⟩ ::
     ⟨some 14, .mv (.t 1), [], [], (some (5, 10, true)), none⟩ ::
     ⟨some 15, .lenS (.t 14), [], [], (some (5, 10, true)), none⟩ ::
     ⟨some 16, .bin .sub (.t 13) (.t 15), [], [], (some (5, 10, true)), none⟩ ::
     ⟨some 17, .slcS (.t 11) (some (.t 16)) none, [], [], (some (5, 10, true)), none⟩ ::
     ⟨some 18, .mv (.t 1), [], [], (some (5, 10, true)), none⟩ ::
     ⟨some 19, .bin .eql (.t 17) (.t 18), [], [], (some (5, 10, true)), (some ([10, 19], (some [])))⟩ ::
     g_internal_stringslite_HasSuffix.o1)
def g_internal_stringslite_HasSuffix.c0 : ACode :=
  .ret
def g_internal_stringslite_HasSuffix.code : ACode :=
  .seq (.region [0, 1] (some []) none
     [⟨some 4, .mv (.c (.d (.bool false))), [], [], none, none⟩])
  (.seq (.region [4] (some []) none
      (⟨some 5, .mv (.t 0), [], [], none, none⟩ ::
       ⟨some 6, .lenS (.t 5), [], [], none, none⟩ ::
       ⟨some 7, .mv (.t 1), [], [], none, none⟩ ::
       ⟨some 8, .lenS (.t 7), [], [], none, none⟩ ::
       ⟨some 9, .bin .geq (.t 6) (.t 8), [], [], none, none⟩ ::
       ⟨some 10, .mv (.t 9), [], [], none, (some ([0, 1, 10], (some [])))⟩ ::
       g_internal_stringslite_HasSuffix.o0))
   (g_internal_stringslite_HasSuffix.c0))
def g_internal_stringslite_HasSuffix : AFn := { N := 21, res := [.slot 4], own := [], frz := [], code := g_internal_stringslite_HasSuffix.code }

end Pay
