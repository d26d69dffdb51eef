/- The program's functions as abstract code. -/
import Derived.Test.YthnddhfpkmbacaaDoorPayQ
set_option maxRecDepth 20000
namespace Pay
def g_law03_RateExact.o1 : List AOper :=
  [⟨some 39, .pick (.t 36) (.t 38) (.c (.d (.bool false))), [], [], none, none⟩]
def g_law03_RateExact.o0 : List AOper :=
  (⟨some 37, .mv (.t 1), [], [], (some (2, 36, true)), none⟩ ::
     ⟨some 38, .bin .leq (.t 37) (.c (.d (.int .i64 10000))), [], [], (some (2, 36, true)), (some ([0, 1, 2, 3, 4, 11, 12, 13, 14, 15, 16, 36, 38], (some [])))⟩ ::
     g_law03_RateExact.o1)
def g_law03_RateExact.c0 : ACode :=
  .cond (.t 39) (.region [0, 1, 2, 3, 4, 11, 12, 13, 14, 15, 16] (some []) none
     [⟨some 41, .mv (.t 0), [], [], none, none⟩,
      ⟨some 42, .mv (.t 1), [], [], none, none⟩,
      ⟨some 43, .mv (.t 4), [], [], none, none⟩,
      ⟨some 44, .call 87 [(.t 41), (.t 42), (.c (.d (.int .i64 10000))), (.t 43)], [], [], none, none⟩,
      ⟨some 40, .mv (.t 44), [], [], none, none⟩,
      ⟨some 45, .ext (.t 40) 0, [], [], none, none⟩,
      ⟨some 46, .ext (.t 40) 1, [], [], none, none⟩,
      ⟨some 15, .mv (.t 45), [], [], none, none⟩,
      ⟨some 16, .mv (.t 46), [], [], none, none⟩])
  (.skip)
def g_law03_RateExact.o5 : List AOper :=
  [⟨some 57, .pick (.t 53) (.t 56) (.c (.d (.bool false))), [], [], none, none⟩]
def g_law03_RateExact.o4 : List AOper :=
  (⟨some 54, .mv (.t 2), [], [], (some (6, 53, true)), none⟩ ::
     ⟨some 55, .mv (.t 3), [], [], (some (6, 53, true)), none⟩ ::
     ⟨some 56, .bin .leq (.t 54) (.t 55), [], [], (some (6, 53, true)), (some ([0, 1, 2, 3, 4, 11, 12, 13, 14, 15, 16, 17, 18, 53, 56], (some [])))⟩ ::
     g_law03_RateExact.o5)
def g_law03_RateExact.o3 : List AOper :=
  (⟨some 52, .pick (.t 49) (.t 51) (.c (.d (.bool false))), [], [], none, none⟩ ::
     ⟨some 53, .mv (.t 52), [], [], none, (some ([0, 1, 2, 3, 4, 11, 12, 13, 14, 15, 16, 17, 18, 53], (some [])))⟩ ::
     g_law03_RateExact.o4)
def g_law03_RateExact.o2 : List AOper :=
  (⟨some 50, .mv (.t 2), [], [], (some (2, 49, true)), none⟩ ::
     ⟨some 51, .bin .geq (.t 50) (.c (.d (.int .i64 0))), [], [], (some (2, 49, true)), (some ([0, 1, 2, 3, 4, 11, 12, 13, 14, 15, 16, 17, 18, 49, 51], (some [])))⟩ ::
     g_law03_RateExact.o3)
def g_law03_RateExact.c1 : ACode :=
  .cond (.t 57) (.region [1, 11, 12, 13, 14, 15, 16, 17, 18] (some []) none
     [⟨some 59, .mv (.t 0), [], [], none, none⟩,
      ⟨some 60, .mv (.t 2), [], [], none, none⟩,
      ⟨some 61, .mv (.t 3), [], [], none, none⟩,
      ⟨some 62, .mv (.t 4), [], [], none, none⟩,
      ⟨some 63, .call 87 [(.t 59), (.t 60), (.t 61), (.t 62)], [], [], none, none⟩,
      ⟨some 58, .mv (.t 63), [], [], none, none⟩,
      ⟨some 64, .ext (.t 58) 0, [], [], none, none⟩,
      ⟨some 65, .ext (.t 58) 1, [], [], none, none⟩,
      ⟨some 17, .mv (.t 64), [], [], none, none⟩,
      ⟨some 18, .mv (.t 65), [], [], none, none⟩])
  (.skip)
def g_law03_RateExact.o17 : List AOper :=
  [⟨some 97, .pick (.t 95) (.t 96) (.c (.d (.bool false))), [], [], none, none⟩,
     ⟨some 10, .mv (.t 97), [], [], none, none⟩]
def g_law03_RateExact.o16 : List AOper :=
  (⟨some 96, .call 81 [], [], [], (some (29, 95, true)), (some ([95, 96], (some [])))⟩ ::
     g_law03_RateExact.o17)
def g_law03_RateExact.o15 : List AOper :=
  (⟨some 94, .pick (.t 84) (.t 93) (.c (.d (.bool false))), [], [], none, none⟩ ::
     ⟨some 95, .mv (.t 94), [], [], none, (some ([95], (some [])))⟩ ::
     g_law03_RateExact.o16)
def g_law03_RateExact.o14 : List AOper :=
  (⟨some 92, .pick (.t 89) (.t 91) (.c (.d (.bool false))), [], [], (some (18, 84, true)), none⟩ ::
     ⟨some 93, .beq false (.t 86) (.t 92), [], [], (some (18, 84, true)), (some ([84, 93], (some [])))⟩ ::
     g_law03_RateExact.o15)
def g_law03_RateExact.o13 : List AOper :=
  (⟨some 90, .mv (.t 1), [], [], (some (23, 89, true)), none⟩ ::
     ⟨some 91, .bin .leq (.t 90) (.c (.d (.int .i64 10000))), [], [], (some (23, 89, true)), (some ([84, 86, 89, 91], (some [])))⟩ ::
     g_law03_RateExact.o14)
def g_law03_RateExact.o12 : List AOper :=
  (⟨some 85, .mv (.t 1), [], [], (some (18, 84, true)), none⟩ ::
     ⟨some 86, .call 88 [(.t 85)], [], [], (some (18, 84, true)), none⟩ ::
     ⟨some 87, .mv (.t 1), [], [], (some (18, 84, true)), none⟩ ::
     ⟨some 88, .bin .geq (.t 87) (.c (.d (.int .i64 0))), [], [], (some (18, 84, true)), none⟩ ::
     ⟨some 89, .mv (.t 88), [], [], (some (18, 84, true)), (some ([1, 84, 86, 89], (some [])))⟩ ::
     g_law03_RateExact.o13)
def g_law03_RateExact.o11 : List AOper :=
  (⟨some 83, .pick (.t 79) (.t 82) (.c (.d (.bool false))), [], [], none, none⟩ ::
     ⟨some 84, .mv (.t 83), [], [], none, (some ([1, 84], (some [])))⟩ ::
     g_law03_RateExact.o12)
def g_law03_RateExact.o10 : List AOper :=
  (⟨some 80, .mv (.t 14), [], [], (some (13, 79, true)), none⟩ ::
     ⟨some 81, .mv (.t 18), [], [], (some (13, 79, true)), none⟩ ::
     ⟨some 82, .bin .eql (.t 80) (.t 81), [], [], (some (13, 79, true)), (some ([1, 79, 82], (some [])))⟩ ::
     g_law03_RateExact.o11)
def g_law03_RateExact.o9 : List AOper :=
  (⟨some 78, .pick (.t 74) (.t 77) (.c (.d (.bool false))), [], [], none, none⟩ ::
     ⟨some 79, .mv (.t 78), [], [], none, (some ([1, 14, 18, 79], (some [])))⟩ ::
     g_law03_RateExact.o10)
def g_law03_RateExact.o8 : List AOper :=
  (⟨some 75, .mv (.t 13), [], [], (some (8, 74, true)), none⟩ ::
     ⟨some 76, .mv (.t 17), [], [], (some (8, 74, true)), none⟩ ::
     ⟨some 77, .bin .eql (.t 75) (.t 76), [], [], (some (8, 74, true)), (some ([1, 14, 18, 74, 77], (some [])))⟩ ::
     g_law03_RateExact.o9)
def g_law03_RateExact.o7 : List AOper :=
  (⟨some 73, .pick (.t 69) (.t 72) (.c (.d (.bool false))), [], [], none, none⟩ ::
     ⟨some 74, .mv (.t 73), [], [], none, (some ([1, 13, 14, 17, 18, 74], (some [])))⟩ ::
     g_law03_RateExact.o8)
def g_law03_RateExact.o6 : List AOper :=
  (⟨some 70, .mv (.t 12), [], [], (some (3, 69, true)), none⟩ ::
     ⟨some 71, .mv (.t 16), [], [], (some (3, 69, true)), none⟩ ::
     ⟨some 72, .bin .eql (.t 70) (.t 71), [], [], (some (3, 69, true)), (some ([1, 13, 14, 17, 18, 69, 72], (some [])))⟩ ::
     g_law03_RateExact.o7)
def g_law03_RateExact.c2 : ACode :=
  .ret
def g_law03_RateExact.c3 : ACode :=
  .seq (.region [10] (some []) none
     (⟨some 66, .mv (.t 11), [], [], none, none⟩ ::
      ⟨some 67, .mv (.t 15), [], [], none, none⟩ ::
      ⟨some 68, .bin .eql (.t 66) (.t 67), [], [], none, none⟩ ::
      ⟨some 69, .mv (.t 68), [], [], none, (some ([1, 12, 13, 14, 16, 17, 18, 69], (some [])))⟩ ::
      g_law03_RateExact.o6))
  (g_law03_RateExact.c2)
def g_law03_RateExact.c4 : ACode :=
  .seq (.region [0, 1, 2, 3, 4, 11, 12, 13, 14, 15, 16, 17, 18] (some []) none
     [⟨some 17, .mv (.c (.d (.int .i64 0))), [], [], none, none⟩,
      ⟨some 18, .mv (.c (.d (.int .i64 1))), [], [], none, none⟩])
  (.seq (.seq (.region [0, 1, 2, 3, 4, 11, 12, 13, 14, 15, 16, 17, 18, 57] (some []) none
       (⟨some 47, .mv (.t 3), [], [], none, none⟩ ::
        ⟨some 48, .bin .geq (.t 47) (.c (.d (.int .i64 1))), [], [], none, none⟩ ::
        ⟨some 49, .mv (.t 48), [], [], none, (some ([0, 1, 2, 3, 4, 11, 12, 13, 14, 15, 16, 17, 18, 49], (some [])))⟩ ::
        g_law03_RateExact.o2))
    (g_law03_RateExact.c1))
   (g_law03_RateExact.c3))
def g_law03_RateExact.c5 : ACode :=
  .seq (.region [0, 1, 2, 3, 4, 11, 12, 13, 14, 15, 16] (some []) none
     [⟨some 15, .mv (.c (.d (.int .i64 0))), [], [], none, none⟩,
      ⟨some 16, .mv (.c (.d (.int .i64 1))), [], [], none, none⟩])
  (.seq (.seq (.region [0, 1, 2, 3, 4, 11, 12, 13, 14, 15, 16, 39] (some []) none
       (⟨some 34, .mv (.t 1), [], [], none, none⟩ ::
        ⟨some 35, .bin .geq (.t 34) (.c (.d (.int .i64 0))), [], [], none, none⟩ ::
        ⟨some 36, .mv (.t 35), [], [], none, (some ([0, 1, 2, 3, 4, 11, 12, 13, 14, 15, 16, 36], (some [])))⟩ ::
        g_law03_RateExact.o0))
    (g_law03_RateExact.c0))
   (g_law03_RateExact.c4))
def g_law03_RateExact.c6 : ACode :=
  .seq (.region [0, 1, 2, 3, 4, 11, 12, 13, 14] (some []) none
     [⟨some 27, .mv (.t 0), [], [], none, none⟩,
      ⟨some 28, .mv (.t 2), [], [], none, none⟩,
      ⟨some 29, .mv (.t 3), [], [], none, none⟩,
      ⟨some 30, .mv (.t 4), [], [], none, none⟩,
      ⟨some 31, .call 86 [(.t 27), (.t 28), (.t 29), (.t 30)], [], [], none, none⟩,
      ⟨some 26, .mv (.t 31), [], [], none, none⟩,
      ⟨some 32, .ext (.t 26) 0, [], [], none, none⟩,
      ⟨some 33, .ext (.t 26) 1, [], [], none, none⟩,
      ⟨some 13, .mv (.t 32), [], [], none, none⟩,
      ⟨some 14, .mv (.t 33), [], [], none, none⟩])
  (g_law03_RateExact.c5)
def g_law03_RateExact.code : ACode :=
  .seq (.region [0, 1, 2, 3, 4] (some []) none
     [⟨some 10, .mv (.c (.d (.bool false))), [], [], none, none⟩])
  (.seq (.region [0, 1, 2, 3, 4, 11, 12] (some []) none
      [⟨some 20, .mv (.t 0), [], [], none, none⟩,
       ⟨some 21, .mv (.t 1), [], [], none, none⟩,
       ⟨some 22, .mv (.t 4), [], [], none, none⟩,
       ⟨some 23, .call 82 [(.t 20), (.t 21), (.t 22)], [], [], none, none⟩,
       ⟨some 19, .mv (.t 23), [], [], none, none⟩,
       ⟨some 24, .ext (.t 19) 0, [], [], none, none⟩,
       ⟨some 25, .ext (.t 19) 1, [], [], none, none⟩,
       ⟨some 11, .mv (.t 24), [], [], none, none⟩,
       ⟨some 12, .mv (.t 25), [], [], none, none⟩])
   (g_law03_RateExact.c6))
def g_law03_RateExact : AFn := { N := 98, res := [.slot 10], own := [], frz := [], code := g_law03_RateExact.code }
def g_law03_awake.o9 : List AOper :=
  [⟨some 32, .pick (.t 29) (.t 31) (.c (.d (.bool false))), [], [], none, none⟩,
     ⟨some 0, .mv (.t 32), [], [], none, none⟩]
def g_law03_awake.o8 : List AOper :=
  (⟨some 30, .call 88 [(.c (.d (.int .i64 10001)))], [], [], (some (16, 29, true)), none⟩ ::
     ⟨some 31, .un .not (.t 30), [], [], (some (16, 29, true)), (some ([29, 31], (some [])))⟩ ::
     g_law03_awake.o9)
def g_law03_awake.o7 : List AOper :=
  (⟨some 28, .pick (.t 26) (.t 27) (.c (.d (.bool false))), [], [], none, none⟩ ::
     ⟨some 29, .mv (.t 28), [], [], none, (some ([29], (some [])))⟩ ::
     g_law03_awake.o8)
def g_law03_awake.o6 : List AOper :=
  (⟨some 27, .call 88 [(.c (.d (.int .i64 10000)))], [], [], (some (13, 26, true)), (some ([26, 27], (some [])))⟩ ::
     g_law03_awake.o7)
def g_law03_awake.o5 : List AOper :=
  (⟨some 25, .pick (.t 23) (.t 24) (.c (.d (.bool false))), [], [], none, none⟩ ::
     ⟨some 26, .mv (.t 25), [], [], none, (some ([26], (some [])))⟩ ::
     g_law03_awake.o6)
def g_law03_awake.o4 : List AOper :=
  (⟨some 24, .mv (.t 4), [], [], (some (10, 23, true)), (some ([23, 24], (some [])))⟩ ::
     g_law03_awake.o5)
def g_law03_awake.o3 : List AOper :=
  (⟨some 22, .pick (.t 19) (.t 21) (.c (.d (.bool false))), [], [], none, none⟩ ::
     ⟨some 23, .mv (.t 22), [], [], none, (some ([4, 23], (some [])))⟩ ::
     g_law03_awake.o4)
def g_law03_awake.o2 : List AOper :=
  (⟨some 20, .mv (.t 3), [], [], (some (6, 19, true)), none⟩ ::
     ⟨some 21, .bin .eql (.t 20) (.c (.d (.int .i64 1250))), [], [], (some (6, 19, true)), (some ([4, 19, 21], (some [])))⟩ ::
     g_law03_awake.o3)
def g_law03_awake.o1 : List AOper :=
  (⟨some 18, .pick (.t 15) (.t 17) (.c (.d (.bool false))), [], [], none, none⟩ ::
     ⟨some 19, .mv (.t 18), [], [], none, (some ([3, 4, 19], (some [])))⟩ ::
     g_law03_awake.o2)
def g_law03_awake.o0 : List AOper :=
  (⟨some 16, .mv (.t 2), [], [], (some (2, 15, true)), none⟩ ::
     ⟨some 17, .bin .eql (.t 16) (.c (.d (.int .i64 0))), [], [], (some (2, 15, true)), (some ([3, 4, 15, 17], (some [])))⟩ ::
     g_law03_awake.o1)
def g_law03_awake.c0 : ACode :=
  .ret
def g_law03_awake.c1 : ACode :=
  .seq (.region [0] (some []) none
     (⟨some 13, .mv (.t 1), [], [], none, none⟩ ::
      ⟨some 14, .bin .eql (.t 13) (.c (.d (.int .i64 126))), [], [], none, none⟩ ::
      ⟨some 15, .mv (.t 14), [], [], none, (some ([2, 3, 4, 15], (some [])))⟩ ::
      g_law03_awake.o0))
  (g_law03_awake.c0)
def g_law03_awake.c2 : ACode :=
  .seq (.region [1, 2, 3, 4] (some []) none
     [⟨some 10, .call 92 [(.c (.d (.str [49, 50, 46, 53, 48, 37])))], [], [], none, none⟩,
      ⟨some 9, .mv (.t 10), [], [], none, none⟩,
      ⟨some 11, .ext (.t 9) 0, [], [], none, none⟩,
      ⟨some 12, .ext (.t 9) 1, [], [], none, none⟩,
      ⟨some 3, .mv (.t 11), [], [], none, none⟩,
      ⟨some 4, .mv (.t 12), [], [], none, none⟩])
  (g_law03_awake.c1)
def g_law03_awake.code : ACode :=
  .seq (.region [] (some []) none
     [⟨some 0, .mv (.c (.d (.bool false))), [], [], none, none⟩])
  (.seq (.region [1, 2] (some []) none
      [⟨some 6, .call 82 [(.c (.d (.int .i64 1005))), (.c (.d (.int .i64 1250))), (.c (.d (.int .i64 3)))], [], [], none, none⟩,
       ⟨some 5, .mv (.t 6), [], [], none, none⟩,
       ⟨some 7, .ext (.t 5) 0, [], [], none, none⟩,
       ⟨some 8, .ext (.t 5) 1, [], [], none, none⟩,
       ⟨some 1, .mv (.t 7), [], [], none, none⟩,
       ⟨some 2, .mv (.t 8), [], [], none, none⟩])
   (g_law03_awake.c2))
def g_law03_awake : AFn := { N := 33, res := [.slot 0], own := [], frz := [], code := g_law03_awake.code }
def g_rate_Of.c0 : ACode :=
  .seq (.region [6, 7] (some []) none
     [⟨some 11, .mv (.t 0), [], [], none, none⟩,
      ⟨some 12, .mv (.t 1), [], [], none, none⟩,
      ⟨some 13, .mv (.t 2), [], [], none, none⟩,
      ⟨some 14, .call 99 [(.t 11), (.t 12), (.c (.d (.int .i64 10000))), (.t 13)], [], [], none, none⟩,
      ⟨some 15, .ext (.t 14) 0, [], [], none, none⟩,
      ⟨some 16, .ext (.t 14) 1, [], [], none, none⟩,
      ⟨some 6, .mv (.t 15), [], [], none, none⟩,
      ⟨some 7, .mv (.t 16), [], [], none, none⟩])
  (.ret)
def g_rate_Of.code : ACode :=
  .seq (.region [0, 1, 2] (some []) none
     [⟨some 6, .mv (.c (.d (.int .i64 0))), [], [], none, none⟩,
      ⟨some 7, .mv (.c (.d (.int .i64 0))), [], [], none, none⟩])
  (.seq (.seq (.region [0, 1, 2, 10] (some []) none
       [⟨some 8, .mv (.t 1), [], [], none, none⟩,
        ⟨some 9, .call 88 [(.t 8)], [], [], none, none⟩,
        ⟨some 10, .un .not (.t 9), [], [], none, none⟩])
    (.cond (.t 10) (.seq (.region [6, 7] (some []) none
         [⟨some 6, .mv (.c (.d (.int .i64 0))), [], [], none, none⟩,
          ⟨some 7, .mv (.c (.d (.int .i64 1))), [], [], none, none⟩])
      (.ret))
     (.skip)))
   (g_rate_Of.c0))
def g_rate_Of : AFn := { N := 17, res := [.slot 6, .slot 7], own := [], frz := [], code := g_rate_Of.code }
def g_rate_Prorate.o3 : List AOper :=
  [⟨some 20, .pick (.t 16) (.c (.d (.bool true))) (.t 19), [], [], none, none⟩]
def g_rate_Prorate.o2 : List AOper :=
  (⟨some 17, .mv (.t 1), [], [], (some (6, 16, false)), none⟩ ::
     ⟨some 18, .mv (.t 2), [], [], (some (6, 16, false)), none⟩ ::
     ⟨some 19, .bin .gtr (.t 17) (.t 18), [], [], (some (6, 16, false)), (some ([0, 1, 2, 3, 16, 19], (some [])))⟩ ::
     g_rate_Prorate.o3)
def g_rate_Prorate.o1 : List AOper :=
  (⟨some 15, .pick (.t 12) (.c (.d (.bool true))) (.t 14), [], [], none, none⟩ ::
     ⟨some 16, .mv (.t 15), [], [], none, (some ([0, 1, 2, 3, 16], (some [])))⟩ ::
     g_rate_Prorate.o2)
def g_rate_Prorate.o0 : List AOper :=
  (⟨some 13, .mv (.t 1), [], [], (some (2, 12, false)), none⟩ ::
     ⟨some 14, .bin .lss (.t 13) (.c (.d (.int .i64 0))), [], [], (some (2, 12, false)), (some ([0, 1, 2, 3, 12, 14], (some [])))⟩ ::
     g_rate_Prorate.o1)
def g_rate_Prorate.c0 : ACode :=
  .cond (.t 20) (.seq (.region [8, 9] (some []) none
      [⟨some 8, .mv (.c (.d (.int .i64 0))), [], [], none, none⟩,
       ⟨some 9, .mv (.c (.d (.int .i64 1))), [], [], none, none⟩])
   (.ret))
  (.skip)
def g_rate_Prorate.c1 : ACode :=
  .seq (.region [8, 9] (some []) none
     [⟨some 21, .mv (.t 0), [], [], none, none⟩,
      ⟨some 22, .mv (.t 1), [], [], none, none⟩,
      ⟨some 23, .mv (.t 2), [], [], none, none⟩,
      ⟨some 24, .mv (.t 3), [], [], none, none⟩,
      ⟨some 25, .call 99 [(.t 21), (.t 22), (.t 23), (.t 24)], [], [], none, none⟩,
      ⟨some 26, .ext (.t 25) 0, [], [], none, none⟩,
      ⟨some 27, .ext (.t 25) 1, [], [], none, none⟩,
      ⟨some 8, .mv (.t 26), [], [], none, none⟩,
      ⟨some 9, .mv (.t 27), [], [], none, none⟩])
  (.ret)
def g_rate_Prorate.code : ACode :=
  .seq (.region [0, 1, 2, 3] (some []) none
     [⟨some 8, .mv (.c (.d (.int .i64 0))), [], [], none, none⟩,
      ⟨some 9, .mv (.c (.d (.int .i64 0))), [], [], none, none⟩])
  (.seq (.seq (.region [0, 1, 2, 3, 20] (some []) none
       (⟨some 10, .mv (.t 2), [], [], none, none⟩ ::
        ⟨some 11, .bin .lss (.t 10) (.c (.d (.int .i64 1))), [], [], none, none⟩ ::
        ⟨some 12, .mv (.t 11), [], [], none, (some ([0, 1, 2, 3, 12], (some [])))⟩ ::
        g_rate_Prorate.o0))
    (g_rate_Prorate.c0))
   (g_rate_Prorate.c1))
def g_rate_Prorate : AFn := { N := 28, res := [.slot 8, .slot 9], own := [], frz := [], code := g_rate_Prorate.code }
def g_law03_quotient.o1 : List AOper :=
  [⟨some 17, .pick (.t 14) (.c (.d (.bool true))) (.t 16), [], [], none, none⟩]
def g_law03_quotient.o0 : List AOper :=
  (⟨some 15, .mv (.t 3), [], [], (some (2, 14, false)), none⟩ ::
     ⟨some 16, .bin .gtr (.t 15) (.c (.d (.int .i64 3))), [], [], (some (2, 14, false)), (some ([0, 1, 2, 3, 14, 16], (some [])))⟩ ::
     g_law03_quotient.o1)
def g_law03_quotient.c0 : ACode :=
  .cond (.t 17) (.seq (.region [8, 9] (some []) none
      [⟨some 8, .mv (.c (.d (.int .i64 0))), [], [], none, none⟩,
       ⟨some 9, .mv (.c (.d (.int .i64 1))), [], [], none, none⟩])
   (.ret))
  (.skip)
def g_law03_quotient.c1 : ACode :=
  .seq (.region [8, 9] (some []) none
     [⟨some 31, .mv (.t 10), [], [], none, none⟩,
      ⟨some 8, .mv (.t 31), [], [], none, none⟩,
      ⟨some 9, .mv (.c (.d (.int .i64 0))), [], [], none, none⟩])
  (.ret)
def g_law03_quotient.c2 : ACode :=
  .seq (.seq (.region [10, 30] (some []) none
      [⟨some 29, .mv (.t 11), [], [], none, none⟩,
       ⟨some 30, .un .not (.t 29), [], [], none, none⟩])
   (.cond (.t 30) (.seq (.region [8, 9] (some []) none
        [⟨some 8, .mv (.c (.d (.int .i64 0))), [], [], none, none⟩,
         ⟨some 9, .mv (.c (.d (.int .i64 3))), [], [], none, none⟩])
     (.ret))
    (.skip)))
  (g_law03_quotient.c1)
def g_law03_quotient.c3 : ACode :=
  .seq (.region [10, 11] (some []) none
     [⟨some 22, .mv (.t 0), [], [], none, none⟩,
      ⟨some 23, .mv (.t 1), [], [], none, none⟩,
      ⟨some 24, .mv (.t 2), [], [], none, none⟩,
      ⟨some 25, .mv (.t 3), [], [], none, none⟩,
      ⟨some 26, .call 100 [(.t 22), (.t 23), (.t 24), (.t 25)], [], [], none, none⟩,
      ⟨some 21, .mv (.t 26), [], [], none, none⟩,
      ⟨some 27, .ext (.t 21) 0, [], [], none, none⟩,
      ⟨some 28, .ext (.t 21) 1, [], [], none, none⟩,
      ⟨some 10, .mv (.t 27), [], [], none, none⟩,
      ⟨some 11, .mv (.t 28), [], [], none, none⟩])
  (g_law03_quotient.c2)
def g_law03_quotient.c4 : ACode :=
  .seq (.seq (.region [0, 1, 2, 3, 20] (some []) none
      [⟨some 18, .mv (.t 0), [], [], none, none⟩,
       ⟨some 19, .call 53 [(.t 18)], [], [], none, none⟩,
       ⟨some 20, .un .not (.t 19), [], [], none, none⟩])
   (.cond (.t 20) (.seq (.region [8, 9] (some []) none
        [⟨some 8, .mv (.c (.d (.int .i64 0))), [], [], none, none⟩,
         ⟨some 9, .mv (.c (.d (.int .i64 3))), [], [], none, none⟩])
     (.ret))
    (.skip)))
  (g_law03_quotient.c3)
def g_law03_quotient.code : ACode :=
  .seq (.region [0, 1, 2, 3] (some []) none
     [⟨some 8, .mv (.c (.d (.int .i64 0))), [], [], none, none⟩,
      ⟨some 9, .mv (.c (.d (.int .i64 0))), [], [], none, none⟩])
  (.seq (.seq (.region [0, 1, 2, 3, 17] (some []) none
       (⟨some 12, .mv (.t 3), [], [], none, none⟩ ::
        ⟨some 13, .bin .lss (.t 12) (.c (.d (.int .i64 0))), [], [], none, none⟩ ::
        ⟨some 14, .mv (.t 13), [], [], none, (some ([0, 1, 2, 3, 14], (some [])))⟩ ::
        g_law03_quotient.o0))
    (g_law03_quotient.c0))
   (g_law03_quotient.c4))
def g_law03_quotient : AFn := { N := 32, res := [.slot 8, .slot 9], own := [], frz := [], code := g_law03_quotient.code }
def g_rate_Right.o1 : List AOper :=
  [⟨some 8, .pick (.t 5) (.t 7) (.c (.d (.bool false))), [], [], none, none⟩,
     ⟨some 2, .mv (.t 8), [], [], none, none⟩]
def g_rate_Right.o0 : List AOper :=
  (⟨some 6, .mv (.t 0), [], [], (some (2, 5, true)), none⟩ ::
     ⟨some 7, .bin .leq (.t 6) (.c (.d (.int .i64 10000))), [], [], (some (2, 5, true)), (some ([5, 7], (some [])))⟩ ::
     g_rate_Right.o1)
def g_rate_Right.c0 : ACode :=
  .ret
def g_rate_Right.code : ACode :=
  .seq (.region [0] (some []) none
     [⟨some 2, .mv (.c (.d (.bool false))), [], [], none, none⟩])
  (.seq (.region [2] (some []) none
      (⟨some 3, .mv (.t 0), [], [], none, none⟩ ::
       ⟨some 4, .bin .geq (.t 3) (.c (.d (.int .i64 0))), [], [], none, none⟩ ::
       ⟨some 5, .mv (.t 4), [], [], none, (some ([0, 5], (some [])))⟩ ::
       g_rate_Right.o0))
   (g_rate_Right.c0))
def g_rate_Right : AFn := { N := 9, res := [.slot 2], own := [], frz := [], code := g_rate_Right.code }
def g_rate_Text.c0 : ACode :=
  .seq (.region [2, 3] (some []) none
     [⟨some 14, .mv (.t 4), [], [], none, none⟩,
      ⟨some 15, .bin .add (.t 14) (.c (.d (.str [37]))), [], [], none, none⟩,
      ⟨some 2, .mv (.t 15), [], [], none, none⟩,
      ⟨some 3, .mv (.c (.d (.int .i64 0))), [], [], none, none⟩])
  (.ret)
def g_rate_Text.c1 : ACode :=
  .seq (.region [4] (some []) none
     [⟨some 10, .mv (.t 0), [], [], none, none⟩,
      ⟨some 11, .call 50 [(.t 10)], [], [], none, none⟩,
      ⟨some 9, .mv (.t 11), [], [], none, none⟩,
      ⟨some 12, .ext (.t 9) 0, [], [], none, none⟩,
      ⟨some 13, .ext (.t 9) 1, [], [], none, none⟩,
      ⟨some 4, .mv (.t 12), [], [], none, none⟩,
      ⟨some 5, .mv (.t 13), [], [], none, none⟩])
  (g_rate_Text.c0)
def g_rate_Text.code : ACode :=
  .seq (.region [0] (some []) none
     [⟨some 2, .mv (.c (.d (.str []))), [], [], none, none⟩,
      ⟨some 3, .mv (.c (.d (.int .i64 0))), [], [], none, none⟩])
  (.seq (.seq (.region [0, 8] (some []) none
       [⟨some 6, .mv (.t 0), [], [], none, none⟩,
        ⟨some 7, .call 88 [(.t 6)], [], [], none, none⟩,
        ⟨some 8, .un .not (.t 7), [], [], none, none⟩])
    (.cond (.t 8) (.seq (.region [2, 3] (some []) none
         [⟨some 2, .mv (.c (.d (.str []))), [], [], none, none⟩,
          ⟨some 3, .mv (.c (.d (.int .i64 1))), [], [], none, none⟩])
      (.ret))
     (.skip)))
   (g_rate_Text.c1))
def g_rate_Text : AFn := { N := 16, res := [.slot 2, .slot 3], own := [], frz := [], code := g_rate_Text.code }
def g_rate_Parse.o3 : List AOper :=
  [⟨some 28, .pick (.t 24) (.c (.d (.bool true))) (.t 27), [], [], none, none⟩]
def g_rate_Parse.o2 : List AOper :=
  (⟨some 25, .mv (.t 6), [], [], (some (6, 24, false)), none⟩ ::
     ⟨some 26, .call 88 [(.t 25)], [], [], (some (6, 24, false)), none⟩ ::
     ⟨some 27, .un .not (.t 26), [], [], (some (6, 24, false)), (some ([6, 24, 27], (some [])))⟩ ::
     g_rate_Parse.o3)
def g_rate_Parse.o1 : List AOper :=
  (⟨some 23, .pick (.t 20) (.c (.d (.bool true))) (.t 22), [], [], none, none⟩ ::
     ⟨some 24, .mv (.t 23), [], [], none, (some ([6, 24], (some [])))⟩ ::
     g_rate_Parse.o2)
def g_rate_Parse.o0 : List AOper :=
  (⟨some 21, .mv (.t 7), [], [], (some (2, 20, false)), none⟩ ::
     ⟨some 22, .un .not (.t 21), [], [], (some (2, 20, false)), (some ([6, 20, 22], (some [])))⟩ ::
     g_rate_Parse.o1)
def g_rate_Parse.c0 : ACode :=
  .cond (.t 28) (.seq (.region [2, 3] (some []) none
      [⟨some 2, .mv (.c (.d (.int .i64 0))), [], [], none, none⟩,
       ⟨some 3, .mv (.c (.d (.bool false))), [], [], none, none⟩])
   (.ret))
  (.skip)
def g_rate_Parse.c1 : ACode :=
  .seq (.region [2, 3] (some []) none
     [⟨some 29, .mv (.t 6), [], [], none, none⟩,
      ⟨some 2, .mv (.t 29), [], [], none, none⟩,
      ⟨some 3, .mv (.c (.d (.bool true))), [], [], none, none⟩])
  (.ret)
def g_rate_Parse.c2 : ACode :=
  .seq (.seq (.region [6, 28] (some []) none
      (⟨some 18, .mv (.t 5), [], [], none, none⟩ ::
       ⟨some 19, .un .not (.t 18), [], [], none, none⟩ ::
       ⟨some 20, .mv (.t 19), [], [], none, (some ([6, 7, 20], (some [])))⟩ ::
       g_rate_Parse.o0))
   (g_rate_Parse.c0))
  (g_rate_Parse.c1)
def g_rate_Parse.c3 : ACode :=
  .seq (.region [5, 6, 7] (some []) none
     [⟨some 14, .mv (.t 4), [], [], none, none⟩,
      ⟨some 15, .call 51 [(.t 14)], [], [], none, none⟩,
      ⟨some 13, .mv (.t 15), [], [], none, none⟩,
      ⟨some 16, .ext (.t 13) 0, [], [], none, none⟩,
      ⟨some 17, .ext (.t 13) 1, [], [], none, none⟩,
      ⟨some 6, .mv (.t 16), [], [], none, none⟩,
      ⟨some 7, .mv (.t 17), [], [], none, none⟩])
  (g_rate_Parse.c2)
def g_rate_Parse.code : ACode :=
  .seq (.region [0] (some []) none
     [⟨some 2, .mv (.c (.d (.int .i64 0))), [], [], none, none⟩,
      ⟨some 3, .mv (.c (.d (.bool false))), [], [], none, none⟩])
  (.seq (.region [4, 5] (some []) none
      [⟨some 9, .mv (.t 0), [], [], none, none⟩,
       ⟨some 10, .call 101 [(.t 9), (.c (.d (.str [37])))], [], [], none, none⟩,
       ⟨some 8, .mv (.t 10), [], [], none, none⟩,
       ⟨some 11, .ext (.t 8) 0, [], [], none, none⟩,
       ⟨some 12, .ext (.t 8) 1, [], [], none, none⟩,
       ⟨some 4, .mv (.t 11), [], [], none, none⟩,
       ⟨some 5, .mv (.t 12), [], [], none, none⟩])
   (g_rate_Parse.c3))
def g_rate_Parse : AFn := { N := 30, res := [.slot 2, .slot 3], own := [], frz := [], code := g_rate_Parse.code }
def g_ref03_Parse.o1 : List AOper :=
  [⟨some 17, .pick (.t 12) (.t 16) (.c (.d (.bool false))), [], [], none, none⟩]
def g_ref03_Parse.o0 : List AOper :=
  (⟨some 13, .mv (.t 4), [], [], (some (3, 12, true)), none⟩ ::
     ⟨some 14, .call 94 [(.t 13)], [], [], (some (3, 12, true)), none⟩ ::
     ⟨some 15, .mv (.t 0), [], [], (some (3, 12, true)), none⟩ ::
     ⟨some 16, .bin .eql (.t 14) (.t 15), [], [], (some (3, 12, true)), (some ([0, 4, 12, 16], (some [])))⟩ ::
     g_ref03_Parse.o1)
def g_ref03_Parse.c0 : ACode :=
  .cond (.t 17) (.seq (.region [2, 3] (some []) none
      [⟨some 18, .mv (.t 4), [], [], none, none⟩,
       ⟨some 2, .mv (.t 18), [], [], none, none⟩,
       ⟨some 3, .mv (.c (.d (.bool true))), [], [], none, none⟩])
   (.ret))
  (.skip)
def g_ref03_Parse.c1 : ACode :=
  .region [0, 4] (some []) none
    [⟨some 7, .mv (.t 4), [], [], none, none⟩,
     ⟨some 8, .bin .add (.t 7) (.c (.d (.int .i64 1))), [], [], none, none⟩,
     ⟨some 4, .mv (.t 8), [], [], none, none⟩]
def g_ref03_Parse.l0 : ACode :=
  .loop [0, 4] (some []) (.seq (.seq (.region [0, 4, 6] (some []) none
      [⟨some 5, .mv (.t 4), [], [], none, none⟩,
       ⟨some 6, .bin .leq (.t 5) (.c (.d (.int .i64 10000))), [], [], none, none⟩])
   (.cond (.t 6) (.skip)
    (.exit 0)))
  (.seq (.block 1 [0, 4] (some []) (.seq (.region [0, 4, 17] (some []) none
        (⟨some 9, .mv (.t 0), [], [], none, none⟩ ::
         ⟨some 10, .lenS (.t 9), [], [], none, none⟩ ::
         ⟨some 11, .bin .lss (.t 10) (.c (.d (.int .i64 9))), [], [], none, none⟩ ::
         ⟨some 12, .mv (.t 11), [], [], none, (some ([0, 4, 12], (some [])))⟩ ::
         g_ref03_Parse.o0))
     (g_ref03_Parse.c0)))
   (g_ref03_Parse.c1)))
def g_ref03_Parse.c2 : ACode :=
  .seq (.region [2, 3] (some []) none
     [⟨some 2, .mv (.c (.d (.int .i64 0))), [], [], none, none⟩,
      ⟨some 3, .mv (.c (.d (.bool false))), [], [], none, none⟩])
  (.ret)
def g_ref03_Parse.code : ACode :=
  .seq (.region [0] (some []) none
     [⟨some 2, .mv (.c (.d (.int .i64 0))), [], [], none, none⟩,
      ⟨some 3, .mv (.c (.d (.bool false))), [], [], none, none⟩])
  (.seq (.seq (.region [0, 4] (some []) none
       [⟨some 4, .mv (.c (.d (.int .i64 0))), [], [], none, none⟩])
    (.block 0 [] (some []) (g_ref03_Parse.l0)))
   (g_ref03_Parse.c2))
def g_ref03_Parse : AFn := { N := 19, res := [.slot 2, .slot 3], own := [], frz := [], code := g_ref03_Parse.code }
def g_ref03_Text.code : ACode :=
  .seq (.region [0] (some []) none
     [⟨some 2, .mv (.c (.d (.str []))), [], [], none, none⟩])
  (.seq (.region [2] (some []) none
      [⟨some 3, .mv (.t 0), [], [], none, none⟩,
       ⟨some 4, .call 54 [(.t 3)], [], [], none, none⟩,
       ⟨some 5, .bin .add (.t 4) (.c (.d (.str [37]))), [], [], none, none⟩,
       ⟨some 2, .mv (.t 5), [], [], none, none⟩])
   (.ret))
def g_ref03_Text : AFn := { N := 6, res := [.slot 2], own := [], frz := [], code := g_ref03_Text.code }
def g_wide_MulDiv.o1 : List AOper :=
  [⟨some 22, .pick (.t 19) (.c (.d (.bool true))) (.t 21), [], [], none, none⟩,
     ⟨some 16, .mv (.t 22), [], [], none, none⟩]
def g_wide_MulDiv.o0 : List AOper :=
  (⟨some 20, .mv (.t 3), [], [], (some (2, 19, false)), none⟩ ::
     ⟨some 21, .bin .gtr (.t 20) (.c (.d (.int .i64 3))), [], [], (some (2, 19, false)), (some ([0, 1, 2, 3, 19, 21], (some [])))⟩ ::
     g_wide_MulDiv.o1)
def g_wide_MulDiv.o5 : List AOper :=
  [⟨some 36, .pick (.t 32) (.c (.d (.bool true))) (.t 35), [], [], none, none⟩,
     ⟨some 23, .mv (.t 36), [], [], none, none⟩]
def g_wide_MulDiv.o4 : List AOper :=
  (⟨some 33, .mv (.t 2), [], [], (some (8, 32, false)), none⟩ ::
     ⟨some 34, .call 58 [(.t 33)], [], [], (some (8, 32, false)), none⟩ ::
     ⟨some 35, .un .not (.t 34), [], [], (some (8, 32, false)), (some ([0, 1, 2, 3, 32, 35], (some [])))⟩ ::
     g_wide_MulDiv.o5)
def g_wide_MulDiv.o3 : List AOper :=
  (⟨some 31, .pick (.t 27) (.c (.d (.bool true))) (.t 30), [], [], none, none⟩ ::
     ⟨some 32, .mv (.t 31), [], [], none, (some ([0, 1, 2, 3, 32], (some [])))⟩ ::
     g_wide_MulDiv.o4)
def g_wide_MulDiv.o2 : List AOper :=
  (⟨some 28, .mv (.t 1), [], [], (some (3, 27, false)), none⟩ ::
     ⟨some 29, .call 58 [(.t 28)], [], [], (some (3, 27, false)), none⟩ ::
     ⟨some 30, .un .not (.t 29), [], [], (some (3, 27, false)), (some ([0, 1, 2, 3, 27, 30], (some [])))⟩ ::
     g_wide_MulDiv.o3)
def g_wide_MulDiv.c0 : ACode :=
  .cond (.t 23) (.seq (.region [8, 9] (some []) none
      [⟨some 8, .mv (.c (.d (.int .i64 0))), [], [], none, none⟩,
       ⟨some 9, .mv (.c (.d (.int .i64 3))), [], [], none, none⟩])
   (.ret))
  (.seq (.region [0, 1, 2, 3, 37] (some []) none
      [⟨some 38, .mv (.t 2), [], [], none, none⟩,
       ⟨some 39, .bin .eql (.t 38) (.c (.d (.int .i64 0))), [], [], none, none⟩,
       ⟨some 37, .mv (.t 39), [], [], none, none⟩])
   (.cond (.t 37) (.seq (.region [8, 9] (some []) none
        [⟨some 8, .mv (.c (.d (.int .i64 0))), [], [], none, none⟩,
         ⟨some 9, .mv (.c (.d (.int .i64 4))), [], [], none, none⟩])
     (.ret))
    (.skip)))
def g_wide_MulDiv.c1 : ACode :=
  .cond (.t 16) (.seq (.region [8, 9] (some []) none
      [⟨some 8, .mv (.c (.d (.int .i64 0))), [], [], none, none⟩,
       ⟨some 9, .mv (.c (.d (.int .i64 1))), [], [], none, none⟩])
   (.ret))
  (.seq (.region [0, 1, 2, 3, 23] (some []) none
      (⟨some 24, .mv (.t 0), [], [], none, none⟩ ::
       ⟨some 25, .call 58 [(.t 24)], [], [], none, none⟩ ::
       ⟨some 26, .un .not (.t 25), [], [], none, none⟩ ::
       ⟨some 27, .mv (.t 26), [], [], none, (some ([0, 1, 2, 3, 27], (some [])))⟩ ::
       g_wide_MulDiv.o2))
   (g_wide_MulDiv.c0))
def g_wide_MulDiv.o7 : List AOper :=
  [⟨some 68, .pick (.t 62) (.t 67) (.c (.d (.bool false))), [], [], none, none⟩]
def g_wide_MulDiv.o6 : List AOper :=
  (⟨some 63, .mv (.t 3), [], [], (some (2, 62, true)), none⟩ ::
     ⟨some 64, .mv (.t 13), [], [], (some (2, 62, true)), none⟩ ::
     ⟨some 65, .mv (.t 14), [], [], (some (2, 62, true)), none⟩ ::
     ⟨some 66, .mv (.t 12), [], [], (some (2, 62, true)), none⟩ ::
     ⟨some 67, .call 115 [(.t 63), (.t 64), (.t 65), (.t 66)], [], [], (some (2, 62, true)), (some ([0, 1, 2, 13, 62, 67], (some [])))⟩ ::
     g_wide_MulDiv.o7)
def g_wide_MulDiv.c2 : ACode :=
  .cond (.t 68) (.region [0, 1, 2, 13] (some []) none
     [⟨some 69, .mv (.t 13), [], [], none, none⟩,
      ⟨some 70, .bin .add (.t 69) (.c (.d (.int .u64 1))), [], [], none, none⟩,
      ⟨some 13, .mv (.t 70), [], [], none, none⟩])
  (.skip)
def g_wide_MulDiv.c3 : ACode :=
  .seq (.region [8, 9] (some []) none
     [⟨some 85, .mv (.t 15), [], [], none, none⟩,
      ⟨some 8, .mv (.t 85), [], [], none, none⟩,
      ⟨some 9, .mv (.c (.d (.int .i64 0))), [], [], none, none⟩])
  (.ret)
def g_wide_MulDiv.c4 : ACode :=
  .seq (.region [0, 1, 2, 15] (some []) none
     [⟨some 73, .mv (.t 13), [], [], none, none⟩,
      ⟨some 74, .conv .i64 (.t 73), [], [], none, none⟩,
      ⟨some 15, .mv (.t 74), [], [], none, none⟩])
  (.seq (.seq (.region [15, 82] (some []) none
       [⟨some 75, .mv (.t 0), [], [], none, none⟩,
        ⟨some 76, .bin .lss (.t 75) (.c (.d (.int .i64 0))), [], [], none, none⟩,
        ⟨some 77, .mv (.t 1), [], [], none, none⟩,
        ⟨some 78, .bin .lss (.t 77) (.c (.d (.int .i64 0))), [], [], none, none⟩,
        ⟨some 79, .beq true (.t 76) (.t 78), [], [], none, none⟩,
        ⟨some 80, .mv (.t 2), [], [], none, none⟩,
        ⟨some 81, .bin .lss (.t 80) (.c (.d (.int .i64 0))), [], [], none, none⟩,
        ⟨some 82, .beq true (.t 79) (.t 81), [], [], none, none⟩])
    (.cond (.t 82) (.region [15] (some []) none
        [⟨some 83, .mv (.t 15), [], [], none, none⟩,
         ⟨some 84, .un .neg (.t 83), [], [], none, none⟩,
         ⟨some 15, .mv (.t 84), [], [], none, none⟩])
     (.skip)))
   (g_wide_MulDiv.c3))
def g_wide_MulDiv.c5 : ACode :=
  .seq (.seq (.region [0, 1, 2, 13, 72] (some []) none
      [⟨some 71, .mv (.t 13), [], [], none, none⟩,
       ⟨some 72, .bin .gtr (.t 71) (.c (.d (.int .u64 9223372036854775807))), [], [], none, none⟩])
   (.cond (.t 72) (.seq (.region [8, 9] (some []) none
        [⟨some 8, .mv (.c (.d (.int .i64 0))), [], [], none, none⟩,
         ⟨some 9, .mv (.c (.d (.int .i64 3))), [], [], none, none⟩])
     (.ret))
    (.skip)))
  (g_wide_MulDiv.c4)
def g_wide_MulDiv.c6 : ACode :=
  .seq (.seq (.region [0, 1, 2, 13, 68] (some []) none
      (⟨some 60, .mv (.t 13), [], [], none, none⟩ ::
       ⟨some 61, .bin .leq (.t 60) (.c (.d (.int .u64 9223372036854775807))), [], [], none, none⟩ ::
       ⟨some 62, .mv (.t 61), [], [], none, (some ([0, 1, 2, 3, 12, 13, 14, 62], (some [])))⟩ ::
       g_wide_MulDiv.o6))
   (g_wide_MulDiv.c2))
  (g_wide_MulDiv.c5)
def g_wide_MulDiv.c7 : ACode :=
  .seq (.region [0, 1, 2, 3, 12, 13, 14] (some []) none
     [⟨some 54, .mv (.t 10), [], [], none, none⟩,
      ⟨some 55, .mv (.t 11), [], [], none, none⟩,
      ⟨some 56, .mv (.t 12), [], [], none, none⟩,
      ⟨some 57, .call 114 [(.t 54), (.t 55), (.t 56)], [], [], none, none⟩,
      ⟨some 53, .mv (.t 57), [], [], none, none⟩,
      ⟨some 58, .ext (.t 53) 0, [], [], none, none⟩,
      ⟨some 59, .ext (.t 53) 1, [], [], none, none⟩,
      ⟨some 13, .mv (.t 58), [], [], none, none⟩,
      ⟨some 14, .mv (.t 59), [], [], none, none⟩])
  (g_wide_MulDiv.c6)
def g_wide_MulDiv.c8 : ACode :=
  .seq (.region [0, 1, 2, 3, 10, 11, 12] (some []) none
     [⟨some 48, .mv (.t 2), [], [], none, none⟩,
      ⟨some 49, .call 112 [(.t 48)], [], [], none, none⟩,
      ⟨some 12, .mv (.t 49), [], [], none, none⟩])
  (.seq (.seq (.region [0, 1, 2, 3, 10, 11, 12, 52] (some []) none
       [⟨some 50, .mv (.t 10), [], [], none, none⟩,
        ⟨some 51, .mv (.t 12), [], [], none, none⟩,
        ⟨some 52, .bin .geq (.t 50) (.t 51), [], [], none, none⟩])
    (.cond (.t 52) (.seq (.region [8, 9] (some []) none
         [⟨some 8, .mv (.c (.d (.int .i64 0))), [], [], none, none⟩,
          ⟨some 9, .mv (.c (.d (.int .i64 3))), [], [], none, none⟩])
      (.ret))
     (.skip)))
   (g_wide_MulDiv.c7))
def g_wide_MulDiv.c9 : ACode :=
  .seq (.region [0, 1, 2, 3, 10, 11] (some []) none
     [⟨some 41, .mv (.t 0), [], [], none, none⟩,
      ⟨some 42, .call 112 [(.t 41)], [], [], none, none⟩,
      ⟨some 43, .mv (.t 1), [], [], none, none⟩,
      ⟨some 44, .call 112 [(.t 43)], [], [], none, none⟩,
      ⟨some 45, .call 113 [(.t 42), (.t 44)], [], [], none, none⟩,
      ⟨some 40, .mv (.t 45), [], [], none, none⟩,
      ⟨some 46, .ext (.t 40) 0, [], [], none, none⟩,
      ⟨some 47, .ext (.t 40) 1, [], [], none, none⟩,
      ⟨some 10, .mv (.t 46), [], [], none, none⟩,
      ⟨some 11, .mv (.t 47), [], [], none, none⟩])
  (g_wide_MulDiv.c8)
def g_wide_MulDiv.code : ACode :=
  .seq (.region [0, 1, 2, 3] (some []) none
     [⟨some 8, .mv (.c (.d (.int .i64 0))), [], [], none, none⟩,
      ⟨some 9, .mv (.c (.d (.int .i64 0))), [], [], none, none⟩])
  (.seq (.block 0 [0, 1, 2, 3] (some []) (.seq (.region [0, 1, 2, 3, 16] (some []) none
        (⟨some 17, .mv (.t 3), [], [], none, none⟩ ::
         ⟨some 18, .bin .lss (.t 17) (.c (.d (.int .i64 0))), [], [], none, none⟩ ::
         ⟨some 19, .mv (.t 18), [], [], none, (some ([0, 1, 2, 3, 19], (some [])))⟩ ::
         g_wide_MulDiv.o0))
     (g_wide_MulDiv.c1)))
   (g_wide_MulDiv.c9))
def g_wide_MulDiv : AFn := { N := 86, res := [.slot 8, .slot 9], own := [], frz := [], code := g_wide_MulDiv.code }
def g_ref01_Right.code : ACode :=
  .seq (.region [0] (some []) none
     [⟨some 2, .mv (.c (.d (.bool false))), [], [], none, none⟩])
  (.seq (.region [2] (some []) none
      [⟨some 3, .mv (.t 0), [], [], none, none⟩,
       ⟨some 4, .bin .neq (.t 3) (.c (.d (.int .i64 (-9223372036854775808)))), [], [], none, none⟩,
       ⟨some 2, .mv (.t 4), [], [], none, none⟩])
   (.ret))
def g_ref01_Right : AFn := { N := 5, res := [.slot 2], own := [], frz := [], code := g_ref01_Right.code }
def g_ref02_MulDiv.c0 : ACode :=
  .region [3, 10, 11, 12, 13, 14, 16] (some [10, 11, 63]) none
    [⟨some 58, .mv (.t 16), [], [], none, none⟩,
     ⟨some 59, .bin .add (.t 58) (.c (.d (.int .i64 1))), [], [], none, none⟩,
     ⟨some 16, .mv (.t 59), [], [], none, none⟩]
def g_ref02_MulDiv.c1 : ACode :=
  .block 3 [3, 10, 11, 12, 13, 14, 16] (some [10, 11, 63]) (.seq (.region [3, 10, 11, 12, 13, 14, 16] (some [10, 11, 63]) none
      [⟨some 54, .mv (.t 12), [], [], none, none⟩,
       ⟨some 55, .faddr 1 (.t 11), [], [], none, none⟩,
       ⟨some 56, .load none (.t 55), [], [], none, none⟩,
       ⟨some 57, .call 120 [(.t 54), (.t 56)], [], [], none, none⟩,
       ⟨some 12, .mv (.t 57), [], [], none, none⟩])
   (g_ref02_MulDiv.c0))
def g_ref02_MulDiv.l1 : ACode :=
  .loop [3, 10, 11, 12, 13, 14, 16] (some [10, 11, 63]) (.seq (.seq (.region [3, 10, 11, 12, 13, 14, 16, 53] (some [10, 11, 63]) none
      [⟨some 49, .mv (.t 12), [], [], none, none⟩,
       ⟨some 50, .faddr 1 (.t 11), [], [], none, none⟩,
       ⟨some 51, .load none (.t 50), [], [], none, none⟩,
       ⟨some 52, .call 119 [(.t 49), (.t 51)], [], [], none, none⟩,
       ⟨some 53, .bin .geq (.t 52) (.c (.d (.int .i64 0))), [], [], none, none⟩])
   (.cond (.t 53) (.skip)
    (.exit 2)))
  (g_ref02_MulDiv.c1))
def g_ref02_MulDiv.c2 : ACode :=
  .region [3, 10, 11, 12, 13, 14] (some [10, 11, 63]) none
    [⟨some 60, .mv (.t 13), [], [], none, none⟩,
     ⟨some 61, .mv (.t 16), [], [], none, none⟩,
     ⟨some 62, .bsl none 1 [] 1 [(0, (.t 61))], [], [], none, none⟩,
     ⟨some 63, .app (some 63) 1 8 (.t 60) (.t 62), [], [], none, none⟩,
     ⟨some 13, .mv (.t 63), [], [], none, none⟩]
def g_ref02_MulDiv.c3 : ACode :=
  .seq (.region [3, 10, 11, 12, 13, 14, 16] (some [10, 11, 63]) none
     [⟨some 16, .mv (.c (.d (.int .i64 0))), [], [], none, none⟩])
  (.seq (.block 2 [3, 10, 11, 12, 13, 14, 16] (some [10, 11, 63]) (g_ref02_MulDiv.l1))
   (g_ref02_MulDiv.c2))
def g_ref02_MulDiv.c4 : ACode :=
  .seq (.region [3, 10, 11, 12, 13, 14] (some [10, 11, 63]) none
     [⟨some 45, .mv (.t 15), [], [], none, none⟩,
      ⟨some 46, .mv (.t 12), [], [], none, none⟩,
      ⟨some 47, .app none 1 8 (.t 45) (.t 46), [], [], none, none⟩,
      ⟨some 48, .call 118 [(.t 47)], [], [], none, none⟩,
      ⟨some 12, .mv (.t 48), [], [], none, none⟩])
  (g_ref02_MulDiv.c3)
def g_ref02_MulDiv.c5 : ACode :=
  .region [3, 10, 11, 12, 13, 14] (some [10, 11, 63]) none
    [⟨some 35, .mv (.t 14), [], [], none, none⟩,
     ⟨some 36, .bin .sub (.t 35) (.c (.d (.int .i64 1))), [], [], none, none⟩,
     ⟨some 14, .mv (.t 36), [], [], none, none⟩]
def g_ref02_MulDiv.l0 : ACode :=
  .loop [3, 10, 11, 12, 13, 14] (some [10, 11, 63]) (.seq (.seq (.region [3, 10, 11, 12, 13, 14, 34] (some [10, 11, 63]) none
      [⟨some 33, .mv (.t 14), [], [], none, none⟩,
       ⟨some 34, .bin .geq (.t 33) (.c (.d (.int .i64 0))), [], [], none, none⟩])
   (.cond (.t 34) (.skip)
    (.exit 0)))
  (.seq (.block 1 [3, 10, 11, 12, 13, 14] (some [10, 11, 63]) (.seq (.region [3, 10, 11, 12, 13, 14, 15] (some [10, 11, 44, 63]) none
        [⟨some 15, .mv (.c (.cap0)), [], [], none, none⟩])
     (.seq (.region [3, 10, 11, 12, 13, 14, 15] (some [10, 11, 44, 63]) none
         [⟨some 37, .mv (.t 15), [], [], none, none⟩,
          ⟨some 38, .faddr 1 (.t 10), [], [], none, none⟩,
          ⟨some 39, .load none (.t 38), [], [], none, none⟩,
          ⟨some 40, .mv (.t 14), [], [], none, none⟩,
          ⟨some 41, .iaddr 1 (.t 39) (.t 40), [], [], none, none⟩,
          ⟨some 42, .load none (.t 41), [], [], none, none⟩,
          ⟨some 43, .bsl none 1 [] 1 [(0, (.t 42))], [], [], none, none⟩,
          ⟨some 44, .app (some 44) 1 8 (.t 37) (.t 43), [], [], none, none⟩,
          ⟨some 15, .mv (.t 44), [], [], none, none⟩])
      (g_ref02_MulDiv.c4))))
   (g_ref02_MulDiv.c5)))
def g_ref02_MulDiv.c6 : ACode :=
  .block 0 [3, 10, 11, 12, 13] (some [10, 11, 63]) (g_ref02_MulDiv.l0)
def g_ref02_MulDiv.o1 : List AOper :=
  [⟨some 76, .pick (.t 67) (.t 75) (.c (.d (.bool false))), [], [], none, none⟩,
     ⟨some 17, .mv (.t 76), [], [], none, none⟩]
def g_ref02_MulDiv.o0 : List AOper :=
  (⟨some 68, .mv (.t 13), [], [], (some (3, 67, true)), none⟩ ::
     ⟨some 69, .mv (.t 13), [], [], (some (3, 67, true)), none⟩ ::
     ⟨some 70, .len (.t 69), [], [], (some (3, 67, true)), none⟩ ::
     ⟨some 71, .bin .sub (.t 70) (.c (.d (.int .i64 1))), [], [], (some (3, 67, true)), none⟩ ::
     ⟨some 72, .iaddr 1 (.t 68) (.t 71), [], [], (some (3, 67, true)), none⟩ ::
     ⟨some 73, .load none (.t 72), [], [], (some (3, 67, true)), none⟩ ::
     ⟨some 74, .bin .rem (.t 73) (.c (.d (.int .i64 2))), [], [], (some (3, 67, true)), none⟩ ::
     ⟨some 75, .bin .eql (.t 74) (.c (.d (.int .i64 1))), [], [], (some (3, 67, true)), (some ([3, 10, 11, 12, 13, 67, 75], (some [10, 11, 63])))⟩ ::
     g_ref02_MulDiv.o1)
def g_ref02_MulDiv.o15 : List AOper :=
  [⟨some 111, .pick (.t 97) (.c (.d (.bool true))) (.t 110), [], [], none, none⟩,
     ⟨some 19, .mv (.t 111), [], [], none, none⟩]
def g_ref02_MulDiv.o14 : List AOper :=
  (⟨some 110, .pick (.t 100) (.t 109) (.c (.d (.bool false))), [], [], (some (15, 97, false)), (some ([10, 11, 13, 97, 110], (some [10, 11, 63])))⟩ ::
     g_ref02_MulDiv.o15)
def g_ref02_MulDiv.o13 : List AOper :=
  (⟨some 109, .pick (.t 103) (.c (.d (.bool true))) (.t 108), [], [], (some (18, 100, true)), (some ([10, 11, 13, 97, 100, 109], (some [10, 11, 63])))⟩ ::
     g_ref02_MulDiv.o14)
def g_ref02_MulDiv.o12 : List AOper :=
  (⟨some 108, .pick (.t 106) (.t 107) (.c (.d (.bool false))), [], [], (some (21, 103, false)), (some ([10, 11, 13, 97, 100, 103, 108], (some [10, 11, 63])))⟩ ::
     g_ref02_MulDiv.o13)
def g_ref02_MulDiv.o11 : List AOper :=
  (⟨some 107, .mv (.t 17), [], [], (some (24, 106, true)), (some ([10, 11, 13, 97, 100, 103, 106, 107], (some [10, 11, 63])))⟩ ::
     g_ref02_MulDiv.o12)
def g_ref02_MulDiv.o10 : List AOper :=
  (⟨some 104, .mv (.t 3), [], [], (some (21, 103, false)), none⟩ ::
     ⟨some 105, .bin .eql (.t 104) (.c (.d (.int .i64 3))), [], [], (some (21, 103, false)), none⟩ ::
     ⟨some 106, .mv (.t 105), [], [], (some (21, 103, false)), (some ([10, 11, 13, 17, 97, 100, 103, 106], (some [10, 11, 63])))⟩ ::
     g_ref02_MulDiv.o11)
def g_ref02_MulDiv.o9 : List AOper :=
  (⟨some 101, .mv (.t 3), [], [], (some (18, 100, true)), none⟩ ::
     ⟨some 102, .bin .eql (.t 101) (.c (.d (.int .i64 2))), [], [], (some (18, 100, true)), none⟩ ::
     ⟨some 103, .mv (.t 102), [], [], (some (18, 100, true)), (some ([3, 10, 11, 13, 17, 97, 100, 103], (some [10, 11, 63])))⟩ ::
     g_ref02_MulDiv.o10)
def g_ref02_MulDiv.o8 : List AOper :=
  (⟨some 98, .mv (.t 18), [], [], (some (15, 97, false)), none⟩ ::
     ⟨some 99, .bin .eql (.t 98) (.c (.d (.int .i64 0))), [], [], (some (15, 97, false)), none⟩ ::
     ⟨some 100, .mv (.t 99), [], [], (some (15, 97, false)), (some ([3, 10, 11, 13, 17, 97, 100], (some [10, 11, 63])))⟩ ::
     g_ref02_MulDiv.o9)
def g_ref02_MulDiv.o7 : List AOper :=
  (⟨some 96, .pick (.t 89) (.c (.d (.bool true))) (.t 95), [], [], none, none⟩ ::
     ⟨some 97, .mv (.t 96), [], [], none, (some ([3, 10, 11, 13, 17, 18, 97], (some [10, 11, 63])))⟩ ::
     g_ref02_MulDiv.o8)
def g_ref02_MulDiv.o6 : List AOper :=
  (⟨some 95, .pick (.t 92) (.t 94) (.c (.d (.bool false))), [], [], (some (7, 89, false)), (some ([3, 10, 11, 13, 17, 18, 89, 95], (some [10, 11, 63])))⟩ ::
     g_ref02_MulDiv.o7)
def g_ref02_MulDiv.o5 : List AOper :=
  (⟨some 93, .mv (.t 18), [], [], (some (10, 92, true)), none⟩ ::
     ⟨some 94, .bin .gtr (.t 93) (.c (.d (.int .i64 0))), [], [], (some (10, 92, true)), (some ([3, 10, 11, 13, 17, 18, 89, 92, 94], (some [10, 11, 63])))⟩ ::
     g_ref02_MulDiv.o6)
def g_ref02_MulDiv.o4 : List AOper :=
  (⟨some 90, .mv (.t 3), [], [], (some (7, 89, false)), none⟩ ::
     ⟨some 91, .bin .gtr (.t 90) (.c (.d (.int .i64 1))), [], [], (some (7, 89, false)), none⟩ ::
     ⟨some 92, .mv (.t 91), [], [], (some (7, 89, false)), (some ([3, 10, 11, 13, 17, 18, 89, 92], (some [10, 11, 63])))⟩ ::
     g_ref02_MulDiv.o5)
def g_ref02_MulDiv.o3 : List AOper :=
  (⟨some 88, .pick (.t 84) (.t 87) (.c (.d (.bool false))), [], [], none, none⟩ ::
     ⟨some 89, .mv (.t 88), [], [], none, (some ([3, 10, 11, 13, 17, 18, 89], (some [10, 11, 63])))⟩ ::
     g_ref02_MulDiv.o4)
def g_ref02_MulDiv.o2 : List AOper :=
  (⟨some 85, .mv (.t 12), [], [], (some (2, 84, true)), none⟩ ::
     ⟨some 86, .len (.t 85), [], [], (some (2, 84, true)), none⟩ ::
     ⟨some 87, .bin .gtr (.t 86) (.c (.d (.int .i64 0))), [], [], (some (2, 84, true)), (some ([3, 10, 11, 13, 17, 18, 84, 87], (some [10, 11, 63])))⟩ ::
     g_ref02_MulDiv.o3)
def g_ref02_MulDiv.c7 : ACode :=
  .region [10, 11, 13, 19, 20, 21] (some [10, 11, 63]) none
    [⟨some 126, .mv (.t 20), [], [], none, none⟩,
     ⟨some 127, .bin .mul (.c (.d (.int .i64 10))) (.t 126), [], [], none, none⟩,
     ⟨some 128, .mv (.t 13), [], [], none, none⟩,
     ⟨some 129, .mv (.t 21), [], [], none, none⟩,
     ⟨some 130, .iaddr 1 (.t 128) (.t 129), [], [], none, none⟩,
     ⟨some 131, .load none (.t 130), [], [], none, none⟩,
     ⟨some 132, .bin .add (.t 127) (.t 131), [], [], none, none⟩,
     ⟨some 20, .mv (.t 132), [], [], none, none⟩]
def g_ref02_MulDiv.c8 : ACode :=
  .region [10, 11, 13, 19, 20, 21] (some [10, 11, 63]) none
    [⟨some 116, .mv (.t 21), [], [], none, none⟩,
     ⟨some 117, .bin .add (.t 116) (.c (.d (.int .i64 1))), [], [], none, none⟩,
     ⟨some 21, .mv (.t 117), [], [], none, none⟩]
def g_ref02_MulDiv.c9 : ACode :=
  .seq (.block 5 [10, 11, 13, 19, 20, 21] (some [10, 11, 63]) (.seq (.seq (.region [10, 11, 13, 19, 20, 21, 125] (some [10, 11, 63]) none
        [⟨some 118, .mv (.t 20), [], [], none, none⟩,
         ⟨some 119, .mv (.t 13), [], [], none, none⟩,
         ⟨some 120, .mv (.t 21), [], [], none, none⟩,
         ⟨some 121, .iaddr 1 (.t 119) (.t 120), [], [], none, none⟩,
         ⟨some 122, .load none (.t 121), [], [], none, none⟩,
         ⟨some 123, .bin .sub (.c (.d (.int .i64 9223372036854775807))) (.t 122), [], [], none, none⟩,
         ⟨some 124, .bin .quo (.t 123) (.c (.d (.int .i64 10))), [], [], none, none⟩,
         ⟨some 125, .bin .gtr (.t 118) (.t 124), [], [], none, none⟩])
     (.cond (.t 125) (.seq (.region [8, 9] (some []) none
          [⟨some 8, .mv (.c (.d (.int .i64 0))), [], [], none, none⟩,
           ⟨some 9, .mv (.c (.d (.bool false))), [], [], none, none⟩])
       (.ret))
      (.skip)))
    (g_ref02_MulDiv.c7)))
  (g_ref02_MulDiv.c8)
def g_ref02_MulDiv.l2 : ACode :=
  .loop [10, 11, 13, 19, 20, 21] (some [10, 11, 63]) (.seq (.seq (.region [10, 11, 13, 19, 20, 21, 115] (some [10, 11, 63]) none
      [⟨some 112, .mv (.t 21), [], [], none, none⟩,
       ⟨some 113, .mv (.t 13), [], [], none, none⟩,
       ⟨some 114, .len (.t 113), [], [], none, none⟩,
       ⟨some 115, .bin .lss (.t 112) (.t 114), [], [], none, none⟩])
   (.cond (.t 115) (.skip)
    (.exit 4)))
  (g_ref02_MulDiv.c9))
def g_ref02_MulDiv.c10 : ACode :=
  .region [10, 11, 20] (some [10, 11]) none
    [⟨some 136, .mv (.t 20), [], [], none, none⟩,
     ⟨some 137, .bin .add (.t 136) (.c (.d (.int .i64 1))), [], [], none, none⟩,
     ⟨some 20, .mv (.t 137), [], [], none, none⟩]
def g_ref02_MulDiv.c11 : ACode :=
  .seq (.region [8, 9] (some []) none
     [⟨some 145, .mv (.t 20), [], [], none, none⟩,
      ⟨some 8, .mv (.t 145), [], [], none, none⟩,
      ⟨some 9, .mv (.c (.d (.bool true))), [], [], none, none⟩])
  (.ret)
def g_ref02_MulDiv.c12 : ACode :=
  .seq (.seq (.region [20, 142] (some []) none
      [⟨some 138, .faddr 0 (.t 10), [], [], none, none⟩,
       ⟨some 139, .load none (.t 138), [], [], none, none⟩,
       ⟨some 140, .faddr 0 (.t 11), [], [], none, none⟩,
       ⟨some 141, .load none (.t 140), [], [], none, none⟩,
       ⟨some 142, .beq true (.t 139) (.t 141), [], [], none, none⟩])
   (.cond (.t 142) (.region [20] (some []) none
       [⟨some 143, .mv (.t 20), [], [], none, none⟩,
        ⟨some 144, .un .neg (.t 143), [], [], none, none⟩,
        ⟨some 20, .mv (.t 144), [], [], none, none⟩])
    (.skip)))
  (g_ref02_MulDiv.c11)
def g_ref02_MulDiv.c13 : ACode :=
  .seq (.seq (.region [10, 11, 20, 133] (some [10, 11]) none
      [⟨some 133, .mv (.t 19), [], [], none, none⟩])
   (.cond (.t 133) (.seq (.seq (.region [10, 11, 20, 135] (some [10, 11]) none
         [⟨some 134, .mv (.t 20), [], [], none, none⟩,
          ⟨some 135, .bin .eql (.t 134) (.c (.d (.int .i64 9223372036854775807))), [], [], none, none⟩])
      (.cond (.t 135) (.seq (.region [8, 9] (some []) none
           [⟨some 8, .mv (.c (.d (.int .i64 0))), [], [], none, none⟩,
            ⟨some 9, .mv (.c (.d (.bool false))), [], [], none, none⟩])
        (.ret))
       (.skip)))
     (g_ref02_MulDiv.c10))
    (.skip)))
  (g_ref02_MulDiv.c12)
def g_ref02_MulDiv.c14 : ACode :=
  .seq (.region [10, 11, 13, 19, 20] (some [10, 11, 63]) none
     [⟨some 20, .mv (.c (.d (.int .i64 0))), [], [], none, none⟩])
  (.seq (.seq (.region [10, 11, 13, 19, 20, 21] (some [10, 11, 63]) none
       [⟨some 21, .mv (.c (.d (.int .i64 0))), [], [], none, none⟩])
    (.block 4 [10, 11, 19, 20] (some [10, 11]) (g_ref02_MulDiv.l2)))
   (g_ref02_MulDiv.c13))
def g_ref02_MulDiv.c15 : ACode :=
  .seq (.region [10, 11, 13, 19] (some [10, 11, 63]) none
     (⟨some 82, .mv (.t 3), [], [], none, none⟩ ::
      ⟨some 83, .bin .eql (.t 82) (.c (.d (.int .i64 1))), [], [], none, none⟩ ::
      ⟨some 84, .mv (.t 83), [], [], none, (some ([3, 10, 11, 12, 13, 17, 18, 84], (some [10, 11, 63])))⟩ ::
      g_ref02_MulDiv.o2))
  (g_ref02_MulDiv.c14)
def g_ref02_MulDiv.c16 : ACode :=
  .seq (.region [3, 10, 11, 12, 13, 17, 18] (some [10, 11, 63]) (some ([0, 1, 2, 3, 4, 5], .done))
     [⟨some 77, .mv (.t 12), [], [], none, none⟩,
      ⟨some 78, .call 121 [(.t 77)], [], [0], none, none⟩,
      ⟨some 79, .faddr 1 (.t 11), [], [], none, none⟩,
      ⟨some 80, .load none (.t 79), [], [2], none, none⟩,
      ⟨some 81, .call 119 [(.t 78), (.t 80)], [], [1, 3, 1], none, none⟩,
      ⟨some 18, .mv (.t 81), [], [4, 4, 0, 1, 2, 3, 4], none, none⟩])
  (g_ref02_MulDiv.c15)
def g_ref02_MulDiv.c17 : ACode :=
  .seq (.region [3, 10, 11, 12, 13, 17] (some [10, 11, 63]) none
     (⟨some 64, .mv (.t 13), [], [], none, none⟩ ::
      ⟨some 65, .len (.t 64), [], [], none, none⟩ ::
      ⟨some 66, .bin .gtr (.t 65) (.c (.d (.int .i64 0))), [], [], none, none⟩ ::
      ⟨some 67, .mv (.t 66), [], [], none, (some ([3, 10, 11, 12, 13, 67], (some [10, 11, 63])))⟩ ::
      g_ref02_MulDiv.o0))
  (g_ref02_MulDiv.c16)
def g_ref02_MulDiv.c18 : ACode :=
  .seq (.region [3, 10, 11, 12, 13] (some [10, 11, 63]) none
     [⟨some 12, .mv (.c (.cap0)), [], [], none, none⟩,
      ⟨some 13, .mv (.c (.cap0)), [], [], none, none⟩])
  (.seq (.seq (.region [3, 10, 11, 12, 13, 14] (some [10, 11, 63]) none
       [⟨some 29, .faddr 1 (.t 10), [], [], none, none⟩,
        ⟨some 30, .load none (.t 29), [], [], none, none⟩,
        ⟨some 31, .len (.t 30), [], [], none, none⟩,
        ⟨some 32, .bin .sub (.t 31) (.c (.d (.int .i64 1))), [], [], none, none⟩,
        ⟨some 14, .mv (.t 32), [], [], none, none⟩])
    (g_ref02_MulDiv.c6))
   (g_ref02_MulDiv.c17))
def g_ref02_MulDiv.code : ACode :=
  .seq (.region [0, 1, 2, 3] (some []) none
     [⟨some 8, .mv (.c (.d (.int .i64 0))), [], [], none, none⟩,
      ⟨some 9, .mv (.c (.d (.bool false))), [], [], none, none⟩])
  (.seq (.region [3, 10, 11] (some [10, 11]) none
      [⟨some 22, .mv (.t 0), [], [], none, none⟩,
       ⟨some 23, .call 116 [(.t 22)], [], [], none, none⟩,
       ⟨some 24, .mv (.t 1), [], [], none, none⟩,
       ⟨some 25, .call 116 [(.t 24)], [], [], none, none⟩,
       ⟨some 26, .call 117 [(.t 23), (.t 25)], [], [], none, none⟩,
       ⟨some 27, .mv (.t 2), [], [], none, none⟩,
       ⟨some 28, .call 116 [(.t 27)], [], [], none, none⟩,
       ⟨some 10, .alloc 10 [.d (.bool false), .cap0], [], [], none, none⟩,
       ⟨some 11, .alloc 11 [.d (.bool false), .cap0], [], [], none, none⟩,
       ⟨none, .store 2 (.t 10) (.t 26), [], [], none, none⟩,
       ⟨none, .store 2 (.t 11) (.t 28), [], [], none, none⟩])
   (g_ref02_MulDiv.c18))
def g_ref02_MulDiv : AFn := { N := 146, res := [.slot 8, .slot 9], own := [], frz := [], code := g_ref02_MulDiv.code }
def g_money_Text.c0 : ACode :=
  .seq (.region [2, 3] (some []) (some ([0, 1, 2, 3, 4, 5, 6, 7, 8, 9, 10], .done))
     [⟨some 17, .mv (.t 4), [], [], none, none⟩,
      ⟨some 18, .mv (.t 0), [], [], none, none⟩,
      ⟨some 19, .bin .quo (.t 18) (.c (.d (.int .i64 100))), [], [1], none, none⟩,
      ⟨some 20, .call 68 [(.t 19)], [], [2], none, none⟩,
      ⟨some 21, .bin .add (.t 17) (.t 20), [], [0, 3], none, none⟩,
      ⟨some 22, .bin .add (.t 21) (.c (.d (.str [46]))), [], [4], none, none⟩,
      ⟨some 23, .mv (.t 5), [], [], none, none⟩,
      ⟨some 24, .slcS (.t 23) (some (.c (.d (.int .i64 1)))) none, [], [6], none, none⟩,
      ⟨some 25, .bin .add (.t 22) (.t 24), [], [5, 7], none, none⟩,
      ⟨some 2, .mv (.t 25), [], [8, 3, 0, 1, 2, 3, 4, 5, 6, 7, 8], none, none⟩,
      ⟨some 3, .mv (.c (.d (.int .i64 0))), [], [9, 0, 1, 2, 3, 4, 5, 6, 7, 8, 9], none, none⟩])
  (.ret)
def g_money_Text.c1 : ACode :=
  .seq (.region [0, 4, 5] (some []) none
     [⟨some 13, .mv (.t 0), [], [], none, none⟩,
      ⟨some 14, .bin .rem (.t 13) (.c (.d (.int .i64 100))), [], [], none, none⟩,
      ⟨some 15, .bin .add (.c (.d (.int .i64 100))) (.t 14), [], [], none, none⟩,
      ⟨some 16, .call 68 [(.t 15)], [], [], none, none⟩,
      ⟨some 5, .mv (.t 16), [], [], none, none⟩])
  (g_money_Text.c0)
def g_money_Text.c2 : ACode :=
  .seq (.region [0, 4] (some []) none
     [⟨some 4, .mv (.c (.d (.str []))), [], [], none, none⟩])
  (.seq (.seq (.region [0, 4, 10] (some []) none
       [⟨some 9, .mv (.t 0), [], [], none, none⟩,
        ⟨some 10, .bin .lss (.t 9) (.c (.d (.int .i64 0))), [], [], none, none⟩])
    (.cond (.t 10) (.region [0, 4] (some []) none
        [⟨some 11, .mv (.t 0), [], [], none, none⟩,
         ⟨some 12, .un .neg (.t 11), [], [], none, none⟩,
         ⟨some 4, .mv (.c (.d (.str [45]))), [], [], none, none⟩,
         ⟨some 0, .mv (.t 12), [], [], none, none⟩])
     (.skip)))
   (g_money_Text.c1))
def g_money_Text.code : ACode :=
  .seq (.region [0] (some []) none
     [⟨some 2, .mv (.c (.d (.str []))), [], [], none, none⟩,
      ⟨some 3, .mv (.c (.d (.int .i64 0))), [], [], none, none⟩])
  (.seq (.seq (.region [0, 8] (some []) none
       [⟨some 6, .mv (.t 0), [], [], none, none⟩,
        ⟨some 7, .call 58 [(.t 6)], [], [], none, none⟩,
        ⟨some 8, .un .not (.t 7), [], [], none, none⟩])
    (.cond (.t 8) (.seq (.region [2, 3] (some []) none
         [⟨some 2, .mv (.c (.d (.str []))), [], [], none, none⟩,
          ⟨some 3, .mv (.c (.d (.int .i64 3))), [], [], none, none⟩])
      (.ret))
     (.skip)))
   (g_money_Text.c2))
def g_money_Text : AFn := { N := 26, res := [.slot 2, .slot 3], own := [], frz := [], code := g_money_Text.code }
def g_strings_CutSuffix.code : ACode :=
  .seq (.region [0, 1] (some []) none
     [⟨some 4, .mv (.c (.d (.str []))), [], [], none, none⟩,
      ⟨some 5, .mv (.c (.d (.bool false))), [], [], none, none⟩])
  (.seq (.region [4, 5] (some []) none
      [⟨some 6, .mv (.t 0), [], [], none, none⟩,
       ⟨some 7, .mv (.t 1), [], [], none, none⟩,
       ⟨some 8, .call 122 [(.t 6), (.t 7)], [], [], none, none⟩,
       ⟨some 9, .ext (.t 8) 0, [], [], none, none⟩,
       ⟨some 10, .ext (.t 8) 1, [], [], none, none⟩,
       ⟨some 4, .mv (.t 9), [], [], none, none⟩,
       ⟨some 5, .mv (.t 10), [], [], none, none⟩])
   (.ret))
def g_strings_CutSuffix : AFn := { N := 11, res := [.slot 4, .slot 5], own := [], frz := [], code := g_strings_CutSuffix.code }
def g_money_Parse.o1 : List AOper :=
  [⟨some 20, .pick (.t 16) (.c (.d (.bool true))) (.t 19), [], [], none, none⟩]
def g_money_Parse.o0 : List AOper :=
  (⟨some 17, .mv (.t 4), [], [], (some (2, 16, false)), none⟩ ::
     ⟨some 18, .call 58 [(.t 17)], [], [], (some (2, 16, false)), none⟩ ::
     ⟨some 19, .un .not (.t 18), [], [], (some (2, 16, false)), (some ([0, 4, 16, 19], (some [])))⟩ ::
     g_money_Parse.o1)
def g_money_Parse.c0 : ACode :=
  .cond (.t 20) (.seq (.region [2, 3] (some []) none
      [⟨some 2, .mv (.c (.d (.int .i64 0))), [], [], none, none⟩,
       ⟨some 3, .mv (.c (.d (.bool false))), [], [], none, none⟩])
   (.ret))
  (.skip)
def g_money_Parse.c1 : ACode :=
  .seq (.region [4, 28] (some []) none
     [⟨some 26, .mv (.t 6), [], [], none, none⟩,
      ⟨some 27, .mv (.t 0), [], [], none, none⟩,
      ⟨some 28, .bin .neq (.t 26) (.t 27), [], [], none, none⟩])
  (.cond (.t 28) (.seq (.region [2, 3] (some []) none
       [⟨some 2, .mv (.c (.d (.int .i64 0))), [], [], none, none⟩,
        ⟨some 3, .mv (.c (.d (.bool false))), [], [], none, none⟩])
    (.ret))
   (.skip))
def g_money_Parse.c2 : ACode :=
  .seq (.region [2, 3] (some []) none
     [⟨some 29, .mv (.t 4), [], [], none, none⟩,
      ⟨some 2, .mv (.t 29), [], [], none, none⟩,
      ⟨some 3, .mv (.c (.d (.bool true))), [], [], none, none⟩])
  (.ret)
def g_money_Parse.c3 : ACode :=
  .seq (.seq (.region [0, 4, 6] (some []) none
      [⟨some 22, .mv (.t 4), [], [], none, none⟩,
       ⟨some 23, .call 50 [(.t 22)], [], [], none, none⟩,
       ⟨some 21, .mv (.t 23), [], [], none, none⟩,
       ⟨some 24, .ext (.t 21) 0, [], [], none, none⟩,
       ⟨some 25, .ext (.t 21) 1, [], [], none, none⟩,
       ⟨some 6, .mv (.t 24), [], [], none, none⟩,
       ⟨some 7, .mv (.t 25), [], [], none, none⟩])
   (g_money_Parse.c1))
  (g_money_Parse.c2)
def g_money_Parse.c4 : ACode :=
  .seq (.seq (.region [0, 4, 20] (some []) none
      (⟨some 14, .mv (.t 5), [], [], none, none⟩ ::
       ⟨some 15, .nilE true (.t 14), [], [], none, none⟩ ::
       ⟨some 16, .mv (.t 15), [], [], none, (some ([0, 4, 16], (some [])))⟩ ::
       g_money_Parse.o0))
   (g_money_Parse.c0))
  (g_money_Parse.c3)
def g_money_Parse.code : ACode :=
  .seq (.region [0] (some []) none
     [⟨some 2, .mv (.c (.d (.int .i64 0))), [], [], none, none⟩,
      ⟨some 3, .mv (.c (.d (.bool false))), [], [], none, none⟩])
  (.seq (.region [0, 4, 5] (some []) none
      [⟨some 9, .mv (.t 0), [], [], none, none⟩,
       ⟨some 10, .call 69 [(.t 9), (.c (.d (.str [46]))), (.c (.d (.str []))), (.c (.d (.int .i64 1)))], [], [], none, none⟩,
       ⟨some 11, .call 70 [(.t 10)], [], [], none, none⟩,
       ⟨some 8, .mv (.t 11), [], [], none, none⟩,
       ⟨some 12, .ext (.t 8) 0, [], [], none, none⟩,
       ⟨some 13, .ext (.t 8) 1, [], [], none, none⟩,
       ⟨some 4, .mv (.t 12), [], [], none, none⟩,
       ⟨some 5, .mv (.t 13), [], [], none, none⟩])
   (g_money_Parse.c4))
def g_money_Parse : AFn := { N := 30, res := [.slot 2, .slot 3], own := [], frz := [], code := g_money_Parse.code }
def g_ref01_Text.c0 : ACode :=
  .seq (.region [2] (some []) none
     [⟨some 9, .mv (.t 0), [], [], none, none⟩,
      ⟨some 10, .bin .quo (.t 9) (.c (.d (.int .i64 100))), [], [], none, none⟩,
      ⟨some 11, .call 71 [(.t 10)], [], [], none, none⟩,
      ⟨some 12, .bin .add (.t 11) (.c (.d (.str [46]))), [], [], none, none⟩,
      ⟨some 13, .mv (.t 0), [], [], none, none⟩,
      ⟨some 14, .bin .rem (.t 13) (.c (.d (.int .i64 100))), [], [], none, none⟩,
      ⟨some 15, .bin .quo (.t 14) (.c (.d (.int .i64 10))), [], [], none, none⟩,
      ⟨some 16, .call 71 [(.t 15)], [], [], none, none⟩,
      ⟨some 17, .bin .add (.t 12) (.t 16), [], [], none, none⟩,
      ⟨some 18, .mv (.t 0), [], [], none, none⟩,
      ⟨some 19, .bin .rem (.t 18) (.c (.d (.int .i64 10))), [], [], none, none⟩,
      ⟨some 20, .call 71 [(.t 19)], [], [], none, none⟩,
      ⟨some 21, .bin .add (.t 17) (.t 20), [], [], none, none⟩,
      ⟨some 2, .mv (.t 21), [], [], none, none⟩])
  (.ret)
def g_ref01_Text.code : ACode :=
  .seq (.region [0] (some []) none
     [⟨some 2, .mv (.c (.d (.str []))), [], [], none, none⟩])
  (.seq (.seq (.region [0, 4] (some []) none
       [⟨some 3, .mv (.t 0), [], [], none, none⟩,
        ⟨some 4, .bin .lss (.t 3) (.c (.d (.int .i64 0))), [], [], none, none⟩])
    (.cond (.t 4) (.seq (.region [2] (some []) none
         [⟨some 5, .mv (.t 0), [], [], none, none⟩,
          ⟨some 6, .un .neg (.t 5), [], [], none, none⟩,
          ⟨some 7, .call 54 [(.t 6)], [], [], none, none⟩,
          ⟨some 8, .bin .add (.c (.d (.str [45]))) (.t 7), [], [], none, none⟩,
          ⟨some 2, .mv (.t 8), [], [], none, none⟩])
      (.ret))
     (.skip)))
   (g_ref01_Text.c0))
def g_ref01_Text : AFn := { N := 22, res := [.slot 2], own := [], frz := [], code := g_ref01_Text.code }
def g_money_Right.code : ACode :=
  .seq (.region [0] (some []) none
     [⟨some 2, .mv (.c (.d (.bool false))), [], [], none, none⟩])
  (.seq (.region [2] (some []) none
      [⟨some 3, .mv (.t 0), [], [], none, none⟩,
       ⟨some 4, .bin .geq (.t 3) (.c (.d (.int .i64 (-9223372036854775807)))), [], [], none, none⟩,
       ⟨some 2, .mv (.t 4), [], [], none, none⟩])
   (.ret))
def g_money_Right : AFn := { N := 5, res := [.slot 2], own := [], frz := [], code := g_money_Right.code }
def g_wide_size.c0 : ACode :=
  .seq (.region [2] (some []) none
     [⟨some 8, .mv (.t 0), [], [], none, none⟩,
      ⟨some 9, .conv .u64 (.t 8), [], [], none, none⟩,
      ⟨some 2, .mv (.t 9), [], [], none, none⟩])
  (.ret)
def g_wide_size.code : ACode :=
  .seq (.region [0] (some []) none
     [⟨some 2, .mv (.c (.d (.int .u64 0))), [], [], none, none⟩])
  (.seq (.seq (.region [0, 4] (some []) none
       [⟨some 3, .mv (.t 0), [], [], none, none⟩,
        ⟨some 4, .bin .lss (.t 3) (.c (.d (.int .i64 0))), [], [], none, none⟩])
    (.cond (.t 4) (.seq (.region [2] (some []) none
         [⟨some 5, .mv (.t 0), [], [], none, none⟩,
          ⟨some 6, .conv .u64 (.t 5), [], [], none, none⟩,
          ⟨some 7, .un .neg (.t 6), [], [], none, none⟩,
          ⟨some 2, .mv (.t 7), [], [], none, none⟩])
      (.ret))
     (.skip)))
   (g_wide_size.c0))
def g_wide_size : AFn := { N := 10, res := [.slot 2], own := [], frz := [], code := g_wide_size.code }
def g_math_bits_Div64.o1 : List AOper :=
  [⟨some 78, .pick (.t 69) (.c (.d (.bool true))) (.t 77), [], [], none, none⟩]
def g_math_bits_Div64.o0 : List AOper :=
  (⟨some 70, .mv (.t 15), [], [], (some (2, 69, false)), none⟩ ::
     ⟨some 71, .mv (.t 10), [], [], (some (2, 69, false)), none⟩ ::
     ⟨some 72, .bin .mul (.t 70) (.t 71), [], [], (some (2, 69, false)), none⟩ ::
     ⟨some 73, .mv (.t 16), [], [], (some (2, 69, false)), none⟩ ::
     ⟨some 74, .bin .mul (.c (.d (.int .u64 4294967296))) (.t 73), [], [], (some (2, 69, false)), none⟩ ::
     ⟨some 75, .mv (.t 13), [], [], (some (2, 69, false)), none⟩ ::
     ⟨some 76, .bin .add (.t 74) (.t 75), [], [], (some (2, 69, false)), none⟩ ::
     ⟨some 77, .bin .gtr (.t 72) (.t 76), [], [], (some (2, 69, false)), (some ([2, 8, 9, 10, 11, 13, 14, 15, 16, 69, 77], (some [])))⟩ ::
     g_math_bits_Div64.o1)
def g_math_bits_Div64.c0 : ACode :=
  .cond (.t 78) (.skip)
  (.exit 0)
def g_math_bits_Div64.c1 : ACode :=
  .seq (.region [2, 8, 9, 10, 11, 13, 14, 15, 16, 85] (some []) none
     [⟨some 84, .mv (.t 16), [], [], none, none⟩,
      ⟨some 85, .bin .geq (.t 84) (.c (.d (.int .u64 4294967296))), [], [], none, none⟩])
  (.cond (.t 85) (.exit 0)
   (.skip))
def g_math_bits_Div64.c2 : ACode :=
  .block 1 [2, 8, 9, 10, 11, 13, 14, 15, 16] (some []) (.seq (.region [2, 8, 9, 10, 11, 13, 14, 15, 16] (some []) none
      [⟨some 79, .mv (.t 15), [], [], none, none⟩,
       ⟨some 80, .bin .sub (.t 79) (.c (.d (.int .u64 1))), [], [], none, none⟩,
       ⟨some 15, .mv (.t 80), [], [], none, none⟩])
   (.seq (.region [2, 8, 9, 10, 11, 13, 14, 15, 16] (some []) none
       [⟨some 81, .mv (.t 16), [], [], none, none⟩,
        ⟨some 82, .mv (.t 9), [], [], none, none⟩,
        ⟨some 83, .bin .add (.t 81) (.t 82), [], [], none, none⟩,
        ⟨some 16, .mv (.t 83), [], [], none, none⟩])
    (g_math_bits_Div64.c1)))
def g_math_bits_Div64.l0 : ACode :=
  .loop [2, 8, 9, 10, 11, 13, 14, 15, 16] (some []) (.seq (.seq (.region [2, 8, 9, 10, 11, 13, 14, 15, 16, 78] (some []) none
      (⟨some 67, .mv (.t 15), [], [], none, none⟩ ::
       ⟨some 68, .bin .geq (.t 67) (.c (.d (.int .u64 4294967296))), [], [], none, none⟩ ::
       ⟨some 69, .mv (.t 68), [], [], none, (some ([2, 8, 9, 10, 11, 13, 14, 15, 16, 69], (some [])))⟩ ::
       g_math_bits_Div64.o0))
   (g_math_bits_Div64.c0))
  (g_math_bits_Div64.c2))
def g_math_bits_Div64.o3 : List AOper :=
  [⟨some 113, .pick (.t 104) (.c (.d (.bool true))) (.t 112), [], [], none, none⟩]
def g_math_bits_Div64.o2 : List AOper :=
  (⟨some 105, .mv (.t 18), [], [], (some (2, 104, false)), none⟩ ::
     ⟨some 106, .mv (.t 10), [], [], (some (2, 104, false)), none⟩ ::
     ⟨some 107, .bin .mul (.t 105) (.t 106), [], [], (some (2, 104, false)), none⟩ ::
     ⟨some 108, .mv (.t 16), [], [], (some (2, 104, false)), none⟩ ::
     ⟨some 109, .bin .mul (.c (.d (.int .u64 4294967296))) (.t 108), [], [], (some (2, 104, false)), none⟩ ::
     ⟨some 110, .mv (.t 14), [], [], (some (2, 104, false)), none⟩ ::
     ⟨some 111, .bin .add (.t 109) (.t 110), [], [], (some (2, 104, false)), none⟩ ::
     ⟨some 112, .bin .gtr (.t 107) (.t 111), [], [], (some (2, 104, false)), (some ([2, 8, 9, 10, 14, 15, 16, 17, 18, 104, 112], (some [])))⟩ ::
     g_math_bits_Div64.o3)
def g_math_bits_Div64.c3 : ACode :=
  .cond (.t 113) (.skip)
  (.exit 2)
def g_math_bits_Div64.c4 : ACode :=
  .seq (.region [2, 8, 9, 10, 14, 15, 16, 17, 18, 120] (some []) none
     [⟨some 119, .mv (.t 16), [], [], none, none⟩,
      ⟨some 120, .bin .geq (.t 119) (.c (.d (.int .u64 4294967296))), [], [], none, none⟩])
  (.cond (.t 120) (.exit 2)
   (.skip))
def g_math_bits_Div64.c5 : ACode :=
  .block 3 [2, 8, 9, 10, 14, 15, 16, 17, 18] (some []) (.seq (.region [2, 8, 9, 10, 14, 15, 16, 17, 18] (some []) none
      [⟨some 114, .mv (.t 18), [], [], none, none⟩,
       ⟨some 115, .bin .sub (.t 114) (.c (.d (.int .u64 1))), [], [], none, none⟩,
       ⟨some 18, .mv (.t 115), [], [], none, none⟩])
   (.seq (.region [2, 8, 9, 10, 14, 15, 16, 17, 18] (some []) none
       [⟨some 116, .mv (.t 16), [], [], none, none⟩,
        ⟨some 117, .mv (.t 9), [], [], none, none⟩,
        ⟨some 118, .bin .add (.t 116) (.t 117), [], [], none, none⟩,
        ⟨some 16, .mv (.t 118), [], [], none, none⟩])
    (g_math_bits_Div64.c4)))
def g_math_bits_Div64.l1 : ACode :=
  .loop [2, 8, 9, 10, 14, 15, 16, 17, 18] (some []) (.seq (.seq (.region [2, 8, 9, 10, 14, 15, 16, 17, 18, 113] (some []) none
      (⟨some 102, .mv (.t 18), [], [], none, none⟩ ::
       ⟨some 103, .bin .geq (.t 102) (.c (.d (.int .u64 4294967296))), [], [], none, none⟩ ::
       ⟨some 104, .mv (.t 103), [], [], none, (some ([2, 8, 9, 10, 14, 15, 16, 17, 18, 104], (some [])))⟩ ::
       g_math_bits_Div64.o2))
   (g_math_bits_Div64.c3))
  (g_math_bits_Div64.c5))
def g_math_bits_Div64.c6 : ACode :=
  .seq (.region [6, 7] (some []) none
     [⟨some 121, .mv (.t 15), [], [], none, none⟩,
      ⟨some 122, .bin .mul (.t 121) (.c (.d (.int .u64 4294967296))), [], [], none, none⟩,
      ⟨some 123, .mv (.t 18), [], [], none, none⟩,
      ⟨some 124, .bin .add (.t 122) (.t 123), [], [], none, none⟩,
      ⟨some 125, .mv (.t 17), [], [], none, none⟩,
      ⟨some 126, .bin .mul (.t 125) (.c (.d (.int .u64 4294967296))), [], [], none, none⟩,
      ⟨some 127, .mv (.t 14), [], [], none, none⟩,
      ⟨some 128, .bin .add (.t 126) (.t 127), [], [], none, none⟩,
      ⟨some 129, .mv (.t 18), [], [], none, none⟩,
      ⟨some 130, .mv (.t 2), [], [], none, none⟩,
      ⟨some 131, .bin .mul (.t 129) (.t 130), [], [], none, none⟩,
      ⟨some 132, .bin .sub (.t 128) (.t 131), [], [], none, none⟩,
      ⟨some 133, .mv (.t 8), [], [], none, none⟩,
      ⟨some 134, .bin .shr (.t 132) (.t 133), [], [], none, none⟩,
      ⟨some 6, .mv (.t 124), [], [], none, none⟩,
      ⟨some 7, .mv (.t 134), [], [], none, none⟩])
  (.ret)
def g_math_bits_Div64.c7 : ACode :=
  .seq (.block 2 [2, 8, 14, 15, 17, 18] (some []) (g_math_bits_Div64.l1))
  (g_math_bits_Div64.c6)
def g_math_bits_Div64.c8 : ACode :=
  .seq (.region [2, 8, 9, 10, 14, 15, 16, 17, 18] (some []) none
     [⟨some 97, .mv (.t 17), [], [], none, none⟩,
      ⟨some 98, .mv (.t 18), [], [], none, none⟩,
      ⟨some 99, .mv (.t 9), [], [], none, none⟩,
      ⟨some 100, .bin .mul (.t 98) (.t 99), [], [], none, none⟩,
      ⟨some 101, .bin .sub (.t 97) (.t 100), [], [], none, none⟩,
      ⟨some 16, .mv (.t 101), [], [], none, none⟩])
  (g_math_bits_Div64.c7)
def g_math_bits_Div64.c9 : ACode :=
  .seq (.region [2, 8, 9, 10, 14, 15, 17, 18] (some []) none
     [⟨some 94, .mv (.t 17), [], [], none, none⟩,
      ⟨some 95, .mv (.t 9), [], [], none, none⟩,
      ⟨some 96, .bin .quo (.t 94) (.t 95), [], [], none, none⟩,
      ⟨some 18, .mv (.t 96), [], [], none, none⟩])
  (g_math_bits_Div64.c8)
def g_math_bits_Div64.c10 : ACode :=
  .seq (.region [2, 8, 9, 10, 14, 15, 17] (some []) none
     [⟨some 86, .mv (.t 11), [], [], none, none⟩,
      ⟨some 87, .bin .mul (.t 86) (.c (.d (.int .u64 4294967296))), [], [], none, none⟩,
      ⟨some 88, .mv (.t 13), [], [], none, none⟩,
      ⟨some 89, .bin .add (.t 87) (.t 88), [], [], none, none⟩,
      ⟨some 90, .mv (.t 15), [], [], none, none⟩,
      ⟨some 91, .mv (.t 2), [], [], none, none⟩,
      ⟨some 92, .bin .mul (.t 90) (.t 91), [], [], none, none⟩,
      ⟨some 93, .bin .sub (.t 89) (.t 92), [], [], none, none⟩,
      ⟨some 17, .mv (.t 93), [], [], none, none⟩])
  (g_math_bits_Div64.c9)
def g_math_bits_Div64.c11 : ACode :=
  .seq (.block 0 [2, 8, 9, 10, 11, 13, 14, 15] (some []) (g_math_bits_Div64.l0))
  (g_math_bits_Div64.c10)
def g_math_bits_Div64.c12 : ACode :=
  .seq (.region [2, 8, 9, 10, 11, 13, 14, 15, 16] (some []) none
     [⟨some 62, .mv (.t 11), [], [], none, none⟩,
      ⟨some 63, .mv (.t 15), [], [], none, none⟩,
      ⟨some 64, .mv (.t 9), [], [], none, none⟩,
      ⟨some 65, .bin .mul (.t 63) (.t 64), [], [], none, none⟩,
      ⟨some 66, .bin .sub (.t 62) (.t 65), [], [], none, none⟩,
      ⟨some 16, .mv (.t 66), [], [], none, none⟩])
  (g_math_bits_Div64.c11)
def g_math_bits_Div64.c13 : ACode :=
  .seq (.region [2, 8, 9, 10, 11, 12, 13] (some []) none
     [⟨some 55, .mv (.t 12), [], [], none, none⟩,
      ⟨some 56, .bin .shr (.t 55) (.c (.d (.int .u64 32))), [], [], none, none⟩,
      ⟨some 13, .mv (.t 56), [], [], none, none⟩])
  (.seq (.region [2, 8, 9, 10, 11, 13, 14] (some []) none
      [⟨some 57, .mv (.t 12), [], [], none, none⟩,
       ⟨some 58, .bin .and (.t 57) (.c (.d (.int .u64 4294967295))), [], [], none, none⟩,
       ⟨some 14, .mv (.t 58), [], [], none, none⟩])
   (.seq (.region [2, 8, 9, 10, 11, 13, 14, 15] (some []) none
       [⟨some 59, .mv (.t 11), [], [], none, none⟩,
        ⟨some 60, .mv (.t 9), [], [], none, none⟩,
        ⟨some 61, .bin .quo (.t 59) (.t 60), [], [], none, none⟩,
        ⟨some 15, .mv (.t 61), [], [], none, none⟩])
    (g_math_bits_Div64.c12)))
def g_math_bits_Div64.c14 : ACode :=
  .seq (.region [2, 8, 9, 10, 11, 12] (some []) none
     [⟨some 52, .mv (.t 1), [], [], none, none⟩,
      ⟨some 53, .mv (.t 8), [], [], none, none⟩,
      ⟨some 54, .bin .shl (.t 52) (.t 53), [], [], none, none⟩,
      ⟨some 12, .mv (.t 54), [], [], none, none⟩])
  (g_math_bits_Div64.c13)
def g_math_bits_Div64.c15 : ACode :=
  .seq (.region [0, 1, 2, 8, 9] (some []) none
     [⟨some 40, .mv (.t 2), [], [], none, none⟩,
      ⟨some 41, .bin .shr (.t 40) (.c (.d (.int .u64 32))), [], [], none, none⟩,
      ⟨some 9, .mv (.t 41), [], [], none, none⟩])
  (.seq (.region [0, 1, 2, 8, 9, 10] (some []) none
      [⟨some 42, .mv (.t 2), [], [], none, none⟩,
       ⟨some 43, .bin .and (.t 42) (.c (.d (.int .u64 4294967295))), [], [], none, none⟩,
       ⟨some 10, .mv (.t 43), [], [], none, none⟩])
   (.seq (.region [1, 2, 8, 9, 10, 11] (some []) none
       [⟨some 44, .mv (.t 0), [], [], none, none⟩,
        ⟨some 45, .mv (.t 8), [], [], none, none⟩,
        ⟨some 46, .bin .shl (.t 44) (.t 45), [], [], none, none⟩,
        ⟨some 47, .mv (.t 1), [], [], none, none⟩,
        ⟨some 48, .mv (.t 8), [], [], none, none⟩,
        ⟨some 49, .bin .sub (.c (.d (.int .u64 64))) (.t 48), [], [], none, none⟩,
        ⟨some 50, .bin .shr (.t 47) (.t 49), [], [], none, none⟩,
        ⟨some 51, .bin .or (.t 46) (.t 50), [], [], none, none⟩,
        ⟨some 11, .mv (.t 51), [], [], none, none⟩])
    (g_math_bits_Div64.c14)))
def g_math_bits_Div64.c16 : ACode :=
  .seq (.region [0, 1, 2, 8] (some []) none
     [⟨some 37, .mv (.t 2), [], [], none, none⟩,
      ⟨some 38, .mv (.t 8), [], [], none, none⟩,
      ⟨some 39, .bin .shl (.t 37) (.t 38), [], [], none, none⟩,
      ⟨some 2, .mv (.t 39), [], [], none, none⟩])
  (g_math_bits_Div64.c15)
def g_math_bits_Div64.c17 : ACode :=
  .seq (.region [0, 1, 2, 8] (some []) none
     [⟨some 34, .mv (.t 2), [], [], none, none⟩,
      ⟨some 35, .call 133 [(.t 34)], [], [], none, none⟩,
      ⟨some 36, .conv .u64 (.t 35), [], [], none, none⟩,
      ⟨some 8, .mv (.t 36), [], [], none, none⟩])
  (g_math_bits_Div64.c16)
def g_math_bits_Div64.c18 : ACode :=
  .seq (.seq (.region [0, 1, 2, 27] (some []) none
      [⟨some 26, .mv (.t 0), [], [], none, none⟩,
       ⟨some 27, .bin .eql (.t 26) (.c (.d (.int .u64 0))), [], [], none, none⟩])
   (.cond (.t 27) (.seq (.region [6, 7] (some []) (some ([0, 1, 2, 3, 4, 5, 6, 7], .done))
        [⟨some 28, .mv (.t 1), [], [], none, none⟩,
         ⟨some 29, .mv (.t 2), [], [], none, none⟩,
         ⟨some 30, .bin .quo (.t 28) (.t 29), [], [0, 1], none, none⟩,
         ⟨some 31, .mv (.t 1), [], [], none, none⟩,
         ⟨some 32, .mv (.t 2), [], [], none, none⟩,
         ⟨some 33, .bin .rem (.t 31) (.t 32), [], [3, 4], none, none⟩,
         ⟨some 6, .mv (.t 30), [], [2, 0, 1, 2], none, none⟩,
         ⟨some 7, .mv (.t 33), [], [5, 6, 0, 1, 2, 3, 4, 5, 6], none, none⟩])
     (.ret))
    (.skip)))
  (g_math_bits_Div64.c17)
def g_math_bits_Div64.c19 : ACode :=
  .seq (.seq (.region [0, 1, 2, 24] (some []) none
      [⟨some 22, .mv (.t 2), [], [], none, none⟩,
       ⟨some 23, .mv (.t 0), [], [], none, none⟩,
       ⟨some 24, .bin .leq (.t 22) (.t 23), [], [], none, none⟩])
   (.cond (.t 24) (.region [0, 1, 2] (some []) none
       [⟨some 25, .never, [], [], none, none⟩,
        ⟨none, .never, [], [], none, none⟩])
    (.skip)))
  (g_math_bits_Div64.c18)
def g_math_bits_Div64.code : ACode :=
  .seq (.region [0, 1, 2] (some []) none
     [⟨some 6, .mv (.c (.d (.int .u64 0))), [], [], none, none⟩,
      ⟨some 7, .mv (.c (.d (.int .u64 0))), [], [], none, none⟩])
  (.seq (.seq (.region [0, 1, 2, 20] (some []) none
       [⟨some 19, .mv (.t 2), [], [], none, none⟩,
        ⟨some 20, .bin .eql (.t 19) (.c (.d (.int .u64 0))), [], [], none, none⟩])
    (.cond (.t 20) (.region [0, 1, 2] (some []) none
        [⟨some 21, .never, [], [], none, none⟩,
         ⟨none, .never, [], [], none, none⟩])
     (.skip)))
   (g_math_bits_Div64.c19))
def g_math_bits_Div64 : AFn := { N := 135, res := [.slot 6, .slot 7], own := [], frz := [], code := g_math_bits_Div64.code }
def g_wide_up.o1 : List AOper :=
  [⟨some 31, .pick (.t 28) (.c (.d (.bool true))) (.t 30), [], [], none, none⟩,
     ⟨some 24, .mv (.t 31), [], [], none, none⟩]
def g_wide_up.o0 : List AOper :=
  (⟨some 29, .mv (.t 2), [], [], (some (3, 28, false)), none⟩ ::
     ⟨some 30, .bin .eql (.t 29) (.c (.d (.int .u64 0))), [], [], (some (3, 28, false)), (some ([0, 1, 28, 30], (some [])))⟩ ::
     g_wide_up.o1)
def g_wide_up.c0 : ACode :=
  .cond (.t 24) (.seq (.region [8] (some []) none
      [⟨some 8, .mv (.c (.d (.bool false))), [], [], none, none⟩])
   (.ret))
  (.skip)
def g_wide_up.o3 : List AOper :=
  [⟨some 38, .pick (.t 34) (.c (.d (.bool true))) (.t 37), [], [], none, none⟩,
     ⟨some 8, .mv (.t 38), [], [], none, none⟩]
def g_wide_up.o2 : List AOper :=
  (⟨some 35, .mv (.t 1), [], [], (some (2, 34, false)), none⟩ ::
     ⟨some 36, .bin .rem (.t 35) (.c (.d (.int .u64 2))), [], [], (some (2, 34, false)), none⟩ ::
     ⟨some 37, .bin .eql (.t 36) (.c (.d (.int .u64 1))), [], [], (some (2, 34, false)), (some ([34, 37], (some [])))⟩ ::
     g_wide_up.o3)
def g_wide_up.c1 : ACode :=
  .ret
def g_wide_up.c2 : ACode :=
  .seq (.region [8] (some []) none
     (⟨some 32, .mv (.t 0), [], [], none, none⟩ ::
      ⟨some 33, .bin .eql (.t 32) (.c (.d (.int .i64 2))), [], [], none, none⟩ ::
      ⟨some 34, .mv (.t 33), [], [], none, (some ([1, 34], (some [])))⟩ ::
      g_wide_up.o2))
  (g_wide_up.c1)
def g_wide_up.c3 : ACode :=
  .seq (.block 1 [0, 1] (some []) (.seq (.region [0, 1, 2, 9, 20] (some []) none
       [⟨some 21, .mv (.t 2), [], [], none, none⟩,
        ⟨some 22, .mv (.t 9), [], [], none, none⟩,
        ⟨some 23, .bin .gtr (.t 21) (.t 22), [], [], none, none⟩,
        ⟨some 20, .mv (.t 23), [], [], none, none⟩])
    (.cond (.t 20) (.seq (.region [8] (some []) none
         [⟨some 8, .mv (.c (.d (.bool true))), [], [], none, none⟩])
      (.ret))
     (.seq (.region [0, 1, 24] (some []) none
         (⟨some 25, .mv (.t 2), [], [], none, none⟩ ::
          ⟨some 26, .mv (.t 9), [], [], none, none⟩ ::
          ⟨some 27, .bin .lss (.t 25) (.t 26), [], [], none, none⟩ ::
          ⟨some 28, .mv (.t 27), [], [], none, (some ([0, 1, 2, 28], (some [])))⟩ ::
          g_wide_up.o0))
      (g_wide_up.c0)))))
  (g_wide_up.c2)
def g_wide_up.c4 : ACode :=
  .seq (.region [0, 1, 2, 9] (some []) none
     [⟨some 17, .mv (.t 3), [], [], none, none⟩,
      ⟨some 18, .mv (.t 2), [], [], none, none⟩,
      ⟨some 19, .bin .sub (.t 17) (.t 18), [], [], none, none⟩,
      ⟨some 9, .mv (.t 19), [], [], none, none⟩])
  (g_wide_up.c3)
def g_wide_up.code : ACode :=
  .seq (.region [0, 1, 2, 3] (some []) none
     [⟨some 8, .mv (.c (.d (.bool false))), [], [], none, none⟩])
  (.seq (.seq (.region [0, 1, 2, 3, 10] (some []) none
       [⟨some 10, .mv (.t 0), [], [], none, none⟩])
    (.block 0 [0, 1, 2, 3] (some []) (.seq (.region [0, 1, 2, 3, 10, 11] (some []) none
         [⟨some 12, .bin .eql (.t 10) (.c (.d (.int .i64 0))), [], [], none, none⟩,
          ⟨some 11, .mv (.t 12), [], [], none, none⟩])
      (.cond (.t 11) (.seq (.region [8] (some []) none
           [⟨some 8, .mv (.c (.d (.bool false))), [], [], none, none⟩])
        (.ret))
       (.seq (.region [0, 1, 2, 3, 13] (some []) none
           [⟨some 14, .bin .eql (.t 10) (.c (.d (.int .i64 1))), [], [], none, none⟩,
            ⟨some 13, .mv (.t 14), [], [], none, none⟩])
        (.cond (.t 13) (.seq (.region [8] (some []) none
             [⟨some 15, .mv (.t 2), [], [], none, none⟩,
              ⟨some 16, .bin .gtr (.t 15) (.c (.d (.int .u64 0))), [], [], none, none⟩,
              ⟨some 8, .mv (.t 16), [], [], none, none⟩])
          (.ret))
         (.skip)))))))
   (g_wide_up.c4))
def g_wide_up : AFn := { N := 39, res := [.slot 8], own := [], frz := [], code := g_wide_up.code }
def g_ref02_Mul.c0 : ACode :=
  .region [2, 3, 4, 5, 6, 7] (some [2, 3, 4, 17]) none
    [⟨some 30, .mv (.t 7), [], [], none, none⟩,
     ⟨some 31, .bin .add (.t 30) (.c (.d (.int .i64 1))), [], [], none, none⟩,
     ⟨some 7, .mv (.t 31), [], [], none, none⟩]
def g_ref02_Mul.c1 : ACode :=
  .seq (.block 3 [2, 3, 4, 5, 6, 7] (some [2, 3, 4, 17]) (.region [2, 3, 4, 5, 6, 7] (some [2, 3, 4, 17]) (some ([1, 2, 3, 6, 7, 8, 9, 10, 11, 12, 13, 14, 15, 16], .one 0 (.one 4 (.one 5 (.one 17 (.one 18 (.one 19 (.done))))))))
      [⟨some 32, .mv (.t 5), [], [], none, none⟩,
       ⟨some 33, .mv (.t 6), [], [], none, none⟩,
       ⟨some 34, .mv (.t 7), [], [], none, none⟩,
       ⟨some 35, .bin .add (.t 33) (.t 34), [], [1, 2], none, none⟩,
       ⟨some 36, .iaddr 1 (.t 32) (.t 35), [], [0, 3], none, none⟩,
       ⟨some 37, .load none (.t 36), [], [4], none, none⟩,
       ⟨some 38, .faddr 1 (.t 2), [], [], none, none⟩,
       ⟨some 39, .load none (.t 38), [], [6], none, none⟩,
       ⟨some 40, .mv (.t 6), [], [], none, none⟩,
       ⟨some 41, .iaddr 1 (.t 39) (.t 40), [], [7, 8], none, none⟩,
       ⟨some 42, .load none (.t 41), [], [9], none, none⟩,
       ⟨some 43, .faddr 1 (.t 3), [], [], none, none⟩,
       ⟨some 44, .load none (.t 43), [], [11], none, none⟩,
       ⟨some 45, .mv (.t 7), [], [], none, none⟩,
       ⟨some 46, .iaddr 1 (.t 44) (.t 45), [], [12, 13], none, none⟩,
       ⟨some 47, .load none (.t 46), [], [14], none, none⟩,
       ⟨some 48, .bin .mul (.t 42) (.t 47), [], [10, 15], none, none⟩,
       ⟨some 49, .bin .add (.t 37) (.t 48), [], [5, 16], none, none⟩,
       ⟨some 50, .iaddr 1 (.t 32) (.t 35), [], [0, 3, 0, 1, 2, 3, 4, 5, 6, 7, 8, 9, 10, 11, 12, 13, 14, 15, 16, 17], none, none⟩,
       ⟨none, .store 1 (.t 50) (.t 49), [], [18, 17, 0, 1, 2, 3, 4, 5, 6, 7, 8, 9, 10, 11, 12, 13, 14, 15, 16, 17], none, none⟩]))
  (g_ref02_Mul.c0)
def g_ref02_Mul.l1 : ACode :=
  .loop [2, 3, 4, 5, 6, 7] (some [2, 3, 4, 17]) (.seq (.seq (.region [2, 3, 4, 5, 6, 7, 29] (some [2, 3, 4, 17]) none
      [⟨some 25, .mv (.t 7), [], [], none, none⟩,
       ⟨some 26, .faddr 1 (.t 3), [], [], none, none⟩,
       ⟨some 27, .load none (.t 26), [], [], none, none⟩,
       ⟨some 28, .len (.t 27), [], [], none, none⟩,
       ⟨some 29, .bin .lss (.t 25) (.t 28), [], [], none, none⟩])
   (.cond (.t 29) (.skip)
    (.exit 2)))
  (g_ref02_Mul.c1))
def g_ref02_Mul.c2 : ACode :=
  .region [2, 3, 4, 5, 6] (some [2, 3, 4, 17]) none
    [⟨some 23, .mv (.t 6), [], [], none, none⟩,
     ⟨some 24, .bin .add (.t 23) (.c (.d (.int .i64 1))), [], [], none, none⟩,
     ⟨some 6, .mv (.t 24), [], [], none, none⟩]
def g_ref02_Mul.c3 : ACode :=
  .seq (.block 1 [2, 3, 4, 5, 6] (some [2, 3, 4, 17]) (.seq (.region [2, 3, 4, 5, 6, 7] (some [2, 3, 4, 17]) none
       [⟨some 7, .mv (.c (.d (.int .i64 0))), [], [], none, none⟩])
    (.block 2 [2, 3, 4, 5, 6] (some [2, 3, 4, 17]) (g_ref02_Mul.l1))))
  (g_ref02_Mul.c2)
def g_ref02_Mul.l0 : ACode :=
  .loop [2, 3, 4, 5, 6] (some [2, 3, 4, 17]) (.seq (.seq (.region [2, 3, 4, 5, 6, 22] (some [2, 3, 4, 17]) none
      [⟨some 18, .mv (.t 6), [], [], none, none⟩,
       ⟨some 19, .faddr 1 (.t 2), [], [], none, none⟩,
       ⟨some 20, .load none (.t 19), [], [], none, none⟩,
       ⟨some 21, .len (.t 20), [], [], none, none⟩,
       ⟨some 22, .bin .lss (.t 18) (.t 21), [], [], none, none⟩])
   (.cond (.t 22) (.skip)
    (.exit 0)))
  (g_ref02_Mul.c3))
def g_ref02_Mul.a0 : List AOper :=
  [⟨some 58, .mv (.t 5), [], [], none, none⟩,
     ⟨some 59, .mv (.t 8), [], [], none, none⟩,
     ⟨some 60, .bin .add (.t 59) (.c (.d (.int .i64 1))), [], [1], none, none⟩,
     ⟨some 61, .iaddr 1 (.t 58) (.t 60), [], [0, 2], none, none⟩,
     ⟨some 62, .load none (.t 61), [], [3], none, none⟩,
     ⟨some 63, .mv (.t 5), [], [], none, none⟩,
     ⟨some 64, .mv (.t 8), [], [], none, none⟩,
     ⟨some 65, .iaddr 1 (.t 63) (.t 64), [], [5, 6], none, none⟩,
     ⟨some 66, .load none (.t 65), [], [7], none, none⟩,
     ⟨some 67, .bin .quo (.t 66) (.c (.d (.int .i64 10))), [], [8], none, none⟩,
     ⟨some 68, .bin .add (.t 62) (.t 67), [], [4, 9], none, none⟩,
     ⟨some 69, .iaddr 1 (.t 58) (.t 60), [], [0, 2, 0, 1, 2, 3, 4, 5, 6, 7, 8, 9, 10], none, none⟩,
     ⟨none, .store 1 (.t 69) (.t 68), [], [11, 10, 0, 1, 2, 3, 4, 5, 6, 7, 8, 9, 10], none, none⟩]
def g_ref02_Mul.t3 : Tr := .one 12 .done
def g_ref02_Mul.t4 : Tr := .one 11 g_ref02_Mul.t3
def g_ref02_Mul.t5 : Tr := .one 10 g_ref02_Mul.t4
def g_ref02_Mul.t6 : Tr := .one 9 g_ref02_Mul.t5
def g_ref02_Mul.t7 : Tr := .one 8 g_ref02_Mul.t6
def g_ref02_Mul.t8 : Tr := .one 7 g_ref02_Mul.t7
def g_ref02_Mul.t9 : Tr := .one 5 g_ref02_Mul.t8
def g_ref02_Mul.t10 : Tr := .one 4 g_ref02_Mul.t5
def g_ref02_Mul.t11 : Tr := .one 9 g_ref02_Mul.t10
def g_ref02_Mul.t12 : Tr := .two 4 g_ref02_Mul.t6 g_ref02_Mul.t11
def g_ref02_Mul.t13 : Tr := .one 8 g_ref02_Mul.t12
def g_ref02_Mul.t14 : Tr := .two 4 g_ref02_Mul.t7 g_ref02_Mul.t13
def g_ref02_Mul.t15 : Tr := .one 7 g_ref02_Mul.t14
def g_ref02_Mul.t16 : Tr := .two 4 g_ref02_Mul.t8 g_ref02_Mul.t15
def g_ref02_Mul.t17 : Tr := .one 5 g_ref02_Mul.t16
def g_ref02_Mul.t18 : Tr := .two 4 g_ref02_Mul.t9 g_ref02_Mul.t17
def g_ref02_Mul.t19 : Tr := .one 3 g_ref02_Mul.t10
def g_ref02_Mul.t20 : Tr := .one 9 g_ref02_Mul.t19
def g_ref02_Mul.t21 : Tr := .two 3 g_ref02_Mul.t12 g_ref02_Mul.t20
def g_ref02_Mul.t22 : Tr := .one 8 g_ref02_Mul.t21
def g_ref02_Mul.t23 : Tr := .two 3 g_ref02_Mul.t14 g_ref02_Mul.t22
def g_ref02_Mul.t24 : Tr := .one 7 g_ref02_Mul.t23
def g_ref02_Mul.t25 : Tr := .two 3 g_ref02_Mul.t16 g_ref02_Mul.t24
def g_ref02_Mul.t26 : Tr := .one 5 g_ref02_Mul.t25
def g_ref02_Mul.t27 : Tr := .two 3 g_ref02_Mul.t18 g_ref02_Mul.t26
def g_ref02_Mul.t28 : Tr := .one 0 g_ref02_Mul.t19
def g_ref02_Mul.t29 : Tr := .one 9 g_ref02_Mul.t28
def g_ref02_Mul.t30 : Tr := .two 0 g_ref02_Mul.t21 g_ref02_Mul.t29
def g_ref02_Mul.t31 : Tr := .one 8 g_ref02_Mul.t30
def g_ref02_Mul.t32 : Tr := .two 0 g_ref02_Mul.t23 g_ref02_Mul.t31
def g_ref02_Mul.t33 : Tr := .one 7 g_ref02_Mul.t32
def g_ref02_Mul.t34 : Tr := .two 0 g_ref02_Mul.t25 g_ref02_Mul.t33
def g_ref02_Mul.t35 : Tr := .one 5 g_ref02_Mul.t34
def g_ref02_Mul.t36 : Tr := .two 0 g_ref02_Mul.t27 g_ref02_Mul.t35
def g_ref02_Mul.i2 : List Nat := 6 :: []
def g_ref02_Mul.i1 : List Nat := 2 :: g_ref02_Mul.i2
def g_ref02_Mul.c4 : ACode :=
  .region [2, 3, 4, 5, 8] (some [2, 3, 4, 17]) none
    [⟨some 70, .mv (.t 5), [], [], none, none⟩,
     ⟨some 71, .mv (.t 8), [], [], none, none⟩,
     ⟨some 72, .mv (.t 5), [], [], none, none⟩,
     ⟨some 73, .mv (.t 8), [], [], none, none⟩,
     ⟨some 74, .iaddr 1 (.t 72) (.t 73), [], [], none, none⟩,
     ⟨some 75, .load none (.t 74), [], [], none, none⟩,
     ⟨some 76, .bin .rem (.t 75) (.c (.d (.int .i64 10))), [], [], none, none⟩,
     ⟨some 77, .iaddr 1 (.t 70) (.t 71), [], [], none, none⟩,
     ⟨none, .store 1 (.t 77) (.t 76), [], [], none, none⟩]
def g_ref02_Mul.c5 : ACode :=
  .region [2, 3, 4, 5, 8] (some [2, 3, 4, 17]) none
    [⟨some 56, .mv (.t 8), [], [], none, none⟩,
     ⟨some 57, .bin .add (.t 56) (.c (.d (.int .i64 1))), [], [], none, none⟩,
     ⟨some 8, .mv (.t 57), [], [], none, none⟩]
def g_ref02_Mul.c6 : ACode :=
  .seq (.block 5 [2, 3, 4, 5, 8] (some [2, 3, 4, 17]) (.seq (.region [2, 3, 4, 5, 8] (some [2, 3, 4, 17]) (some (1 :: g_ref02_Mul.i1, g_ref02_Mul.t36)) g_ref02_Mul.a0)
    (g_ref02_Mul.c4)))
  (g_ref02_Mul.c5)
def g_ref02_Mul.l2 : ACode :=
  .loop [2, 3, 4, 5, 8] (some [2, 3, 4, 17]) (.seq (.seq (.region [2, 3, 4, 5, 8, 55] (some [2, 3, 4, 17]) none
      [⟨some 51, .mv (.t 8), [], [], none, none⟩,
       ⟨some 52, .bin .add (.t 51) (.c (.d (.int .i64 1))), [], [], none, none⟩,
       ⟨some 53, .mv (.t 5), [], [], none, none⟩,
       ⟨some 54, .len (.t 53), [], [], none, none⟩,
       ⟨some 55, .bin .lss (.t 52) (.t 54), [], [], none, none⟩])
   (.cond (.t 55) (.skip)
    (.exit 4)))
  (g_ref02_Mul.c6))
def g_ref02_Mul.o38 : List AOper :=
  [⟨some 89, .pick (.t 85) (.t 88) (.c (.d (.bool false))), [], [], none, none⟩,
     ⟨some 90, .mv (.t 5), [], [], none, none⟩,
     ⟨some 91, .build [.d (.bool false), .cap0] [(0, 1, (.t 89)), (1, 1, (.t 90))], [90], [], none, none⟩,
     ⟨none, .store 2 (.t 4) (.t 91), [], [], none, none⟩]
def g_ref02_Mul.o37 : List AOper :=
  (⟨some 86, .mv (.t 5), [], [], (some (5, 85, true)), none⟩ ::
     ⟨some 87, .len (.t 86), [], [], (some (5, 85, true)), none⟩ ::
     ⟨some 88, .bin .gtr (.t 87) (.c (.d (.int .i64 0))), [], [], (some (5, 85, true)), (some ([4, 5, 85, 88], (some [4, 17])))⟩ ::
     g_ref02_Mul.o38)
def g_ref02_Mul.c7 : ACode :=
  .ret
def g_ref02_Mul.c8 : ACode :=
  .seq (.region [2, 3, 4, 5] (some [2, 3, 4, 17]) none
     [⟨some 78, .mv (.t 5), [], [], none, none⟩,
      ⟨some 79, .call 118 [(.t 78)], [78], [], none, none⟩,
      ⟨some 5, .mv (.t 79), [], [], none, none⟩])
  (.seq (.region [4] (some [4, 17]) none
      (⟨some 80, .faddr 0 (.t 2), [], [], none, none⟩ ::
       ⟨some 81, .load none (.t 80), [], [], none, none⟩ ::
       ⟨some 82, .faddr 0 (.t 3), [], [], none, none⟩ ::
       ⟨some 83, .load none (.t 82), [], [], none, none⟩ ::
       ⟨some 84, .beq true (.t 81) (.t 83), [], [], none, none⟩ ::
       ⟨some 85, .mv (.t 84), [], [], none, (some ([4, 5, 85], (some [4, 17])))⟩ ::
       g_ref02_Mul.o37))
   (g_ref02_Mul.c7))
def g_ref02_Mul.c9 : ACode :=
  .seq (.seq (.region [2, 3, 4, 5, 8] (some [2, 3, 4, 17]) none
      [⟨some 8, .mv (.c (.d (.int .i64 0))), [], [], none, none⟩])
   (.block 4 [2, 3, 4, 5] (some [2, 3, 4, 17]) (g_ref02_Mul.l2)))
  (g_ref02_Mul.c8)
def g_ref02_Mul.c10 : ACode :=
  .seq (.seq (.region [2, 3, 4, 5, 6] (some [2, 3, 4, 17]) none
      [⟨some 6, .mv (.c (.d (.int .i64 0))), [], [], none, none⟩])
   (.block 0 [2, 3, 4, 5] (some [2, 3, 4, 17]) (g_ref02_Mul.l0)))
  (g_ref02_Mul.c9)
def g_ref02_Mul.code : ACode :=
  .seq (.region [2, 3, 4] (some [2, 3, 4, 17]) none
     [⟨some 2, .box 2 2 (.t 0), [], [], none, none⟩,
      ⟨some 3, .box 3 2 (.t 1), [], [], none, none⟩,
      ⟨some 4, .alloc 4 [.d (.bool false), .cap0], [], [], none, none⟩])
  (.seq (.region [2, 3, 4, 5] (some [2, 3, 4, 17]) none
      [⟨some 9, .faddr 1 (.t 2), [], [], none, none⟩,
       ⟨some 10, .load none (.t 9), [], [], none, none⟩,
       ⟨some 11, .len (.t 10), [], [], none, none⟩,
       ⟨some 12, .faddr 1 (.t 3), [], [], none, none⟩,
       ⟨some 13, .load none (.t 12), [], [], none, none⟩,
       ⟨some 14, .len (.t 13), [], [], none, none⟩,
       ⟨some 15, .bin .add (.t 11) (.t 14), [], [], none, none⟩,
       ⟨some 16, .bin .add (.t 15) (.c (.d (.int .i64 1))), [], [], none, none⟩,
       ⟨some 17, .mks (some 17) 1 8 [(.int .i64 0)] (.t 16), [], [], none, none⟩,
       ⟨some 5, .mv (.t 17), [], [], none, none⟩])
   (g_ref02_Mul.c10))
def g_ref02_Mul : AFn := { N := 92, res := [.cell 4 (some 2)], own := [], frz := [4], code := g_ref02_Mul.code }
def g_ref02_Of.c0 : ACode :=
  .region [0, 2, 3] (some [2, 3, 20]) none
    [⟨some 22, .mv (.t 0), [], [], none, none⟩,
     ⟨some 23, .bin .quo (.t 22) (.c (.d (.int .i64 10))), [], [], none, none⟩,
     ⟨some 0, .mv (.t 23), [], [], none, none⟩]
def g_ref02_Of.c1 : ACode :=
  .seq (.region [0, 2, 3] (some [2, 3, 20]) none
     [⟨some 16, .faddr 1 (.t 3), [], [], none, none⟩,
      ⟨some 17, .load none (.t 16), [], [], none, none⟩,
      ⟨some 18, .mv (.t 4), [], [], none, none⟩,
      ⟨some 19, .bsl none 1 [] 1 [(0, (.t 18))], [], [], none, none⟩,
      ⟨some 20, .app (some 20) 1 8 (.t 17) (.t 19), [], [], none, none⟩,
      ⟨some 21, .faddr 1 (.t 3), [], [], none, none⟩,
      ⟨none, .store 1 (.t 21) (.t 20), [], [], none, none⟩])
  (g_ref02_Of.c0)
def g_ref02_Of.l0 : ACode :=
  .loop [0, 2, 3] (some [2, 3, 20]) (.seq (.seq (.region [0, 2, 3, 9] (some [2, 3, 20]) none
      [⟨some 8, .mv (.t 0), [], [], none, none⟩,
       ⟨some 9, .bin .neq (.t 8) (.c (.d (.int .i64 0))), [], [], none, none⟩])
   (.cond (.t 9) (.skip)
    (.exit 0)))
  (.block 1 [0, 2, 3] (some [2, 3, 20]) (.seq (.region [0, 2, 3, 4] (some [2, 3, 20]) none
       [⟨some 10, .mv (.t 0), [], [], none, none⟩,
        ⟨some 11, .bin .rem (.t 10) (.c (.d (.int .i64 10))), [], [], none, none⟩,
        ⟨some 4, .mv (.t 11), [], [], none, none⟩])
    (.seq (.seq (.region [0, 2, 3, 4, 13] (some [2, 3, 20]) none
         [⟨some 12, .mv (.t 4), [], [], none, none⟩,
          ⟨some 13, .bin .lss (.t 12) (.c (.d (.int .i64 0))), [], [], none, none⟩])
      (.cond (.t 13) (.region [0, 2, 3, 4] (some [2, 3, 20]) none
          [⟨some 14, .mv (.t 4), [], [], none, none⟩,
           ⟨some 15, .un .neg (.t 14), [], [], none, none⟩,
           ⟨some 4, .mv (.t 15), [], [], none, none⟩])
       (.skip)))
     (g_ref02_Of.c1)))))
def g_ref02_Of.c2 : ACode :=
  .seq (.region [2] (some [2, 20]) none
     [⟨some 24, .load (some 2) (.t 3), [], [], none, none⟩,
      ⟨none, .store 2 (.t 2) (.t 24), [], [], none, none⟩])
  (.ret)
def g_ref02_Of.c3 : ACode :=
  .seq (.block 0 [2, 3] (some [2, 3, 20]) (g_ref02_Of.l0))
  (g_ref02_Of.c2)
def g_ref02_Of.code : ACode :=
  .seq (.region [0, 2] (some [2, 20]) none
     [⟨some 2, .alloc 2 [.d (.bool false), .cap0], [], [], none, none⟩])
  (.seq (.region [0, 2, 3] (some [2, 3, 20]) none
      [⟨some 5, .mv (.t 0), [], [], none, none⟩,
       ⟨some 6, .bin .lss (.t 5) (.c (.d (.int .i64 0))), [], [], none, none⟩,
       ⟨some 7, .build [.d (.bool false), .cap0] [(0, 1, (.t 6))], [], [], none, none⟩,
       ⟨some 3, .alloc 3 [.d (.bool false), .cap0], [], [], none, none⟩,
       ⟨none, .store 2 (.t 3) (.t 7), [], [], none, none⟩])
   (g_ref02_Of.c3))
def g_ref02_Of : AFn := { N := 25, res := [.cell 2 (some 2)], own := [], frz := [2], code := g_ref02_Of.code }
def g_ref02_trim.o1 : List AOper :=
  [⟨some 14, .pick (.t 6) (.t 13) (.c (.d (.bool false))), [], [], none, none⟩]
def g_ref02_trim.o0 : List AOper :=
  (⟨some 7, .mv (.t 0), [], [], (some (3, 6, true)), none⟩ ::
     ⟨some 8, .mv (.t 0), [], [], (some (3, 6, true)), none⟩ ::
     ⟨some 9, .len (.t 8), [], [], (some (3, 6, true)), none⟩ ::
     ⟨some 10, .bin .sub (.t 9) (.c (.d (.int .i64 1))), [], [], (some (3, 6, true)), none⟩ ::
     ⟨some 11, .iaddr 1 (.t 7) (.t 10), [], [], (some (3, 6, true)), none⟩ ::
     ⟨some 12, .load none (.t 11), [], [], (some (3, 6, true)), none⟩ ::
     ⟨some 13, .bin .eql (.t 12) (.c (.d (.int .i64 0))), [], [], (some (3, 6, true)), (some ([0, 6, 13], (some [])))⟩ ::
     g_ref02_trim.o1)
def g_ref02_trim.c0 : ACode :=
  .cond (.t 14) (.skip)
  (.exit 0)
def g_ref02_trim.c1 : ACode :=
  .block 1 [0] (some []) (.region [0] (some []) none
     [⟨some 15, .mv (.t 0), [], [], none, none⟩,
      ⟨some 16, .mv (.t 0), [], [], none, none⟩,
      ⟨some 17, .len (.t 16), [], [], none, none⟩,
      ⟨some 18, .bin .sub (.t 17) (.c (.d (.int .i64 1))), [], [], none, none⟩,
      ⟨some 19, .slc 1 (.t 15) none (some (.t 18)), [], [], none, none⟩,
      ⟨some 0, .mv (.t 19), [], [], none, none⟩])
def g_ref02_trim.l0 : ACode :=
  .loop [0] (some []) (.seq (.seq (.region [0, 14] (some []) none
      (⟨some 3, .mv (.t 0), [], [], none, none⟩ ::
       ⟨some 4, .len (.t 3), [], [], none, none⟩ ::
       ⟨some 5, .bin .gtr (.t 4) (.c (.d (.int .i64 0))), [], [], none, none⟩ ::
       ⟨some 6, .mv (.t 5), [], [], none, (some ([0, 6], (some [])))⟩ ::
       g_ref02_trim.o0))
   (g_ref02_trim.c0))
  (g_ref02_trim.c1))
def g_ref02_trim.c2 : ACode :=
  .seq (.region [2] (some []) none
     [⟨some 20, .mv (.t 0), [], [], none, none⟩,
      ⟨some 2, .mv (.t 20), [], [], none, none⟩])
  (.ret)
def g_ref02_trim.code : ACode :=
  .seq (.region [0] (some []) none
     [⟨some 2, .mv (.c (.cap0)), [], [], none, none⟩])
  (.seq (.block 0 [0] (some []) (g_ref02_trim.l0))
   (g_ref02_trim.c2))
def g_ref02_trim : AFn := { N := 21, res := [.slot 2], own := [], frz := [], code := g_ref02_trim.code }
def g_ref02_size.c0 : ACode :=
  .seq (.region [4] (some []) none
     [⟨some 4, .mv (.c (.d (.int .i64 1))), [], [], none, none⟩])
  (.ret)
def g_ref02_size.c1 : ACode :=
  .seq (.region [0, 1, 5, 40] (some []) (some ([0, 1, 2, 3, 4, 5, 6, 7, 8], .done))
     [⟨some 32, .mv (.t 0), [], [], none, none⟩,
      ⟨some 33, .mv (.t 5), [], [], none, none⟩,
      ⟨some 34, .iaddr 1 (.t 32) (.t 33), [], [0, 1], none, none⟩,
      ⟨some 35, .load none (.t 34), [], [2], none, none⟩,
      ⟨some 36, .mv (.t 1), [], [], none, none⟩,
      ⟨some 37, .mv (.t 5), [], [], none, none⟩,
      ⟨some 38, .iaddr 1 (.t 36) (.t 37), [], [4, 5], none, none⟩,
      ⟨some 39, .load none (.t 38), [], [6], none, none⟩,
      ⟨some 40, .bin .gtr (.t 35) (.t 39), [], [3, 7], none, none⟩])
  (.cond (.t 40) (.seq (.region [4] (some []) none
       [⟨some 4, .mv (.c (.d (.int .i64 1))), [], [], none, none⟩])
    (.ret))
   (.skip))
def g_ref02_size.c2 : ACode :=
  .region [0, 1, 5] (some []) none
    [⟨some 21, .mv (.t 5), [], [], none, none⟩,
     ⟨some 22, .bin .sub (.t 21) (.c (.d (.int .i64 1))), [], [], none, none⟩,
     ⟨some 5, .mv (.t 22), [], [], none, none⟩]
def g_ref02_size.l0 : ACode :=
  .loop [0, 1, 5] (some []) (.seq (.seq (.region [0, 1, 5, 20] (some []) none
      [⟨some 19, .mv (.t 5), [], [], none, none⟩,
       ⟨some 20, .bin .geq (.t 19) (.c (.d (.int .i64 0))), [], [], none, none⟩])
   (.cond (.t 20) (.skip)
    (.exit 0)))
  (.seq (.block 1 [0, 1, 5] (some []) (.seq (.seq (.region [0, 1, 5, 31] (some []) (some ([0, 1, 2, 3, 4, 5, 6, 7, 8], .done))
         [⟨some 23, .mv (.t 0), [], [], none, none⟩,
          ⟨some 24, .mv (.t 5), [], [], none, none⟩,
          ⟨some 25, .iaddr 1 (.t 23) (.t 24), [], [0, 1], none, none⟩,
          ⟨some 26, .load none (.t 25), [], [2], none, none⟩,
          ⟨some 27, .mv (.t 1), [], [], none, none⟩,
          ⟨some 28, .mv (.t 5), [], [], none, none⟩,
          ⟨some 29, .iaddr 1 (.t 27) (.t 28), [], [4, 5], none, none⟩,
          ⟨some 30, .load none (.t 29), [], [6], none, none⟩,
          ⟨some 31, .bin .lss (.t 26) (.t 30), [], [3, 7], none, none⟩])
      (.cond (.t 31) (.seq (.region [4] (some []) none
           [⟨some 4, .mv (.c (.d (.int .i64 (-1)))), [], [], none, none⟩])
        (.ret))
       (.skip)))
     (g_ref02_size.c1)))
   (g_ref02_size.c2)))
def g_ref02_size.c3 : ACode :=
  .block 0 [] (some []) (g_ref02_size.l0)
def g_ref02_size.c4 : ACode :=
  .seq (.region [4] (some []) none
     [⟨some 4, .mv (.c (.d (.int .i64 0))), [], [], none, none⟩])
  (.ret)
def g_ref02_size.c5 : ACode :=
  .seq (.seq (.region [0, 1, 5] (some []) none
      [⟨some 16, .mv (.t 0), [], [], none, none⟩,
       ⟨some 17, .len (.t 16), [], [], none, none⟩,
       ⟨some 18, .bin .sub (.t 17) (.c (.d (.int .i64 1))), [], [], none, none⟩,
       ⟨some 5, .mv (.t 18), [], [], none, none⟩])
   (g_ref02_size.c3))
  (g_ref02_size.c4)
def g_ref02_size.code : ACode :=
  .seq (.region [0, 1] (some []) none
     [⟨some 4, .mv (.c (.d (.int .i64 0))), [], [], none, none⟩])
  (.seq (.seq (.region [0, 1, 10] (some []) none
       [⟨some 6, .mv (.t 0), [], [], none, none⟩,
        ⟨some 7, .len (.t 6), [], [], none, none⟩,
        ⟨some 8, .mv (.t 1), [], [], none, none⟩,
        ⟨some 9, .len (.t 8), [], [], none, none⟩,
        ⟨some 10, .bin .neq (.t 7) (.t 9), [], [], none, none⟩])
    (.cond (.t 10) (.seq (.seq (.region [15] (some []) none
          [⟨some 11, .mv (.t 0), [], [], none, none⟩,
           ⟨some 12, .len (.t 11), [], [], none, none⟩,
           ⟨some 13, .mv (.t 1), [], [], none, none⟩,
           ⟨some 14, .len (.t 13), [], [], none, none⟩,
           ⟨some 15, .bin .lss (.t 12) (.t 14), [], [], none, none⟩])
       (.cond (.t 15) (.seq (.region [4] (some []) none
            [⟨some 4, .mv (.c (.d (.int .i64 (-1)))), [], [], none, none⟩])
         (.ret))
        (.skip)))
      (g_ref02_size.c0))
     (.skip)))
   (g_ref02_size.c5))
def g_ref02_size : AFn := { N := 41, res := [.slot 4], own := [], frz := [], code := g_ref02_size.code }
def g_ref02_less.c0 : ACode :=
  .region [0, 1, 5, 6, 7] (some [38]) none
    [⟨some 35, .mv (.t 5), [], [], none, none⟩,
     ⟨some 36, .mv (.t 8), [], [], none, none⟩,
     ⟨some 37, .bsl none 1 [] 1 [(0, (.t 36))], [], [], none, none⟩,
     ⟨some 38, .app (some 38) 1 8 (.t 35) (.t 37), [], [], none, none⟩,
     ⟨some 5, .mv (.t 38), [], [], none, none⟩]
def g_ref02_less.c1 : ACode :=
  .seq (.region [0, 1, 5, 6, 7, 8] (some [38]) none
     [⟨some 6, .mv (.c (.d (.int .i64 0))), [], [], none, none⟩])
  (.seq (.seq (.region [0, 1, 5, 6, 7, 8, 32] (some [38]) none
       [⟨some 31, .mv (.t 8), [], [], none, none⟩,
        ⟨some 32, .bin .lss (.t 31) (.c (.d (.int .i64 0))), [], [], none, none⟩])
    (.cond (.t 32) (.seq (.region [0, 1, 5, 7, 8] (some [38]) none
         [⟨some 33, .mv (.t 8), [], [], none, none⟩,
          ⟨some 34, .bin .add (.t 33) (.c (.d (.int .i64 10))), [], [], none, none⟩,
          ⟨some 8, .mv (.t 34), [], [], none, none⟩])
      (.region [0, 1, 5, 6, 7, 8] (some [38]) none
         [⟨some 6, .mv (.c (.d (.int .i64 1))), [], [], none, none⟩]))
     (.skip)))
   (g_ref02_less.c0))
def g_ref02_less.c2 : ACode :=
  .seq (.seq (.region [0, 1, 5, 7, 8, 24] (some [38]) none
      [⟨some 21, .mv (.t 7), [], [], none, none⟩,
       ⟨some 22, .mv (.t 1), [], [], none, none⟩,
       ⟨some 23, .len (.t 22), [], [], none, none⟩,
       ⟨some 24, .bin .lss (.t 21) (.t 23), [], [], none, none⟩])
   (.cond (.t 24) (.region [0, 1, 5, 7, 8] (some [38]) none
       [⟨some 25, .mv (.t 8), [], [], none, none⟩,
        ⟨some 26, .mv (.t 1), [], [], none, none⟩,
        ⟨some 27, .mv (.t 7), [], [], none, none⟩,
        ⟨some 28, .iaddr 1 (.t 26) (.t 27), [], [], none, none⟩,
        ⟨some 29, .load none (.t 28), [], [], none, none⟩,
        ⟨some 30, .bin .sub (.t 25) (.t 29), [], [], none, none⟩,
        ⟨some 8, .mv (.t 30), [], [], none, none⟩])
    (.skip)))
  (g_ref02_less.c1)
def g_ref02_less.c3 : ACode :=
  .region [0, 1, 5, 6, 7] (some [38]) none
    [⟨some 13, .mv (.t 7), [], [], none, none⟩,
     ⟨some 14, .bin .add (.t 13) (.c (.d (.int .i64 1))), [], [], none, none⟩,
     ⟨some 7, .mv (.t 14), [], [], none, none⟩]
def g_ref02_less.c4 : ACode :=
  .seq (.block 1 [0, 1, 5, 6, 7] (some [38]) (.seq (.region [0, 1, 5, 7, 8] (some [38]) none
       [⟨some 15, .mv (.t 0), [], [], none, none⟩,
        ⟨some 16, .mv (.t 7), [], [], none, none⟩,
        ⟨some 17, .iaddr 1 (.t 15) (.t 16), [], [], none, none⟩,
        ⟨some 18, .load none (.t 17), [], [], none, none⟩,
        ⟨some 19, .mv (.t 6), [], [], none, none⟩,
        ⟨some 20, .bin .sub (.t 18) (.t 19), [], [], none, none⟩,
        ⟨some 8, .mv (.t 20), [], [], none, none⟩])
    (g_ref02_less.c2)))
  (g_ref02_less.c3)
def g_ref02_less.l0 : ACode :=
  .loop [0, 1, 5, 6, 7] (some [38]) (.seq (.seq (.region [0, 1, 5, 6, 7, 12] (some [38]) none
      [⟨some 9, .mv (.t 7), [], [], none, none⟩,
       ⟨some 10, .mv (.t 0), [], [], none, none⟩,
       ⟨some 11, .len (.t 10), [], [], none, none⟩,
       ⟨some 12, .bin .lss (.t 9) (.t 11), [], [], none, none⟩])
   (.cond (.t 12) (.skip)
    (.exit 0)))
  (g_ref02_less.c4))
def g_ref02_less.c5 : ACode :=
  .seq (.region [4] (some []) none
     [⟨some 39, .mv (.t 5), [], [], none, none⟩,
      ⟨some 40, .call 118 [(.t 39)], [39], [], none, none⟩,
      ⟨some 4, .mv (.t 40), [], [], none, none⟩])
  (.ret)
def g_ref02_less.code : ACode :=
  .seq (.region [0, 1] (some []) none
     [⟨some 4, .mv (.c (.cap0)), [], [], none, none⟩])
  (.seq (.region [0, 1, 5] (some [38]) none
      [⟨some 5, .mv (.c (.cap0)), [], [], none, none⟩])
   (.seq (.region [0, 1, 5, 6] (some [38]) none
       [⟨some 6, .mv (.c (.d (.int .i64 0))), [], [], none, none⟩])
    (.seq (.seq (.region [0, 1, 5, 6, 7] (some [38]) none
         [⟨some 7, .mv (.c (.d (.int .i64 0))), [], [], none, none⟩])
      (.block 0 [5] (some [38]) (g_ref02_less.l0)))
     (g_ref02_less.c5))))
def g_ref02_less : AFn := { N := 41, res := [.slot 4], own := [], frz := [], code := g_ref02_less.code }
def g_ref02_double.code : ACode :=
  .seq (.region [0] (some []) none
     [⟨some 2, .mv (.c (.cap0)), [], [], none, none⟩])
  (.seq (.region [2] (some []) none
      [⟨some 3, .mv (.t 0), [], [], none, none⟩,
       ⟨some 4, .build [.d (.bool false), .cap0] [(1, 1, (.t 3))], [], [], none, none⟩,
       ⟨some 5, .call 116 [(.c (.d (.int .i64 2)))], [], [], none, none⟩,
       ⟨some 6, .call 117 [(.t 4), (.t 5)], [], [], none, none⟩,
       ⟨some 7, .fld 1 none (.t 6), [], [], none, none⟩,
       ⟨some 2, .mv (.t 7), [], [], none, none⟩])
   (.ret))
def g_ref02_double : AFn := { N := 8, res := [.slot 2], own := [], frz := [], code := g_ref02_double.code }
def g_internal_stringslite_CutSuffix.c0 : ACode :=
  .seq (.region [4, 5] (some []) none
     [⟨some 11, .mv (.t 0), [], [], none, none⟩,
      ⟨some 12, .mv (.t 0), [], [], none, none⟩,
      ⟨some 13, .lenS (.t 12), [], [], none, none⟩,
      ⟨some 14, .mv (.t 1), [], [], none, none⟩,
      ⟨some 15, .lenS (.t 14), [], [], none, none⟩,
      ⟨some 16, .bin .sub (.t 13) (.t 15), [], [], none, none⟩,
      ⟨some 17, .slcS (.t 11) none (some (.t 16)), [], [], none, none⟩,
      ⟨some 4, .mv (.t 17), [], [], none, none⟩,
      ⟨some 5, .mv (.c (.d (.bool true))), [], [], none, none⟩])
  (.ret)
def g_internal_stringslite_CutSuffix.code : ACode :=
  .seq (.region [0, 1] (some []) none
     [⟨some 4, .mv (.c (.d (.str []))), [], [], none, none⟩,
      ⟨some 5, .mv (.c (.d (.bool false))), [], [], none, none⟩])
  (.seq (.seq (.region [0, 1, 9] (some []) none
       [⟨some 6, .mv (.t 0), [], [], none, none⟩,
        ⟨some 7, .mv (.t 1), [], [], none, none⟩,
        ⟨some 8, .call 141 [(.t 6), (.t 7)], [], [], none, none⟩,
        ⟨some 9, .un .not (.t 8), [], [], none, none⟩])
    (.cond (.t 9) (.seq (.region [4, 5] (some []) none
         [⟨some 10, .mv (.t 0), [], [], none, none⟩,
          ⟨some 4, .mv (.t 10), [], [], none, none⟩,
          ⟨some 5, .mv (.c (.d (.bool false))), [], [], none, none⟩])
      (.ret))
     (.skip)))
   (g_internal_stringslite_CutSuffix.c0))
def g_internal_stringslite_CutSuffix : AFn := { N := 18, res := [.slot 4, .slot 5], own := [], frz := [], code := g_internal_stringslite_CutSuffix.code }
def g_ref01_Digits.l0 : ACode :=
  .loop [0, 3] (some []) (.seq (.seq (.region [0, 3, 11] (some []) none
      [⟨some 10, .mv (.t 0), [], [], none, none⟩,
       ⟨some 11, .bin .gtr (.t 10) (.c (.d (.int .i64 9))), [], [], none, none⟩])
   (.cond (.t 11) (.skip)
    (.exit 0)))
  (.block 1 [0, 3] (some []) (.seq (.region [0, 3] (some []) none
       [⟨some 12, .mv (.t 0), [], [], none, none⟩,
        ⟨some 13, .bin .quo (.t 12) (.c (.d (.int .i64 10))), [], [], none, none⟩,
        ⟨some 0, .mv (.t 13), [], [], none, none⟩])
    (.region [0, 3] (some []) none
       [⟨some 14, .mv (.t 0), [], [], none, none⟩,
        ⟨some 15, .bin .rem (.t 14) (.c (.d (.int .i64 10))), [], [], none, none⟩,
        ⟨some 16, .bin .add (.c (.d (.int .i64 48))) (.t 15), [], [], none, none⟩,
        ⟨some 17, .conv .u8 (.t 16), [], [], none, none⟩,
        ⟨some 18, .bsl none 1 [] 1 [(0, (.t 17))], [], [], none, none⟩,
        ⟨some 19, .bstr (.t 18), [], [], none, none⟩,
        ⟨some 20, .mv (.t 3), [], [], none, none⟩,
        ⟨some 21, .bin .add (.t 19) (.t 20), [], [], none, none⟩,
        ⟨some 3, .mv (.t 21), [], [], none, none⟩]))))
def g_ref01_Digits.c0 : ACode :=
  .seq (.region [2] (some []) none
     [⟨some 22, .mv (.t 3), [], [], none, none⟩,
      ⟨some 2, .mv (.t 22), [], [], none, none⟩])
  (.ret)
def g_ref01_Digits.c1 : ACode :=
  .seq (.block 0 [3] (some []) (g_ref01_Digits.l0))
  (g_ref01_Digits.c0)
def g_ref01_Digits.code : ACode :=
  .seq (.region [0] (some []) none
     [⟨some 2, .mv (.c (.d (.str []))), [], [], none, none⟩])
  (.seq (.region [0, 3] (some []) none
      [⟨some 4, .mv (.t 0), [], [], none, none⟩,
       ⟨some 5, .bin .rem (.t 4) (.c (.d (.int .i64 10))), [], [], none, none⟩,
       ⟨some 6, .bin .add (.c (.d (.int .i64 48))) (.t 5), [], [], none, none⟩,
       ⟨some 7, .conv .u8 (.t 6), [], [], none, none⟩,
       ⟨some 8, .bsl none 1 [] 1 [(0, (.t 7))], [], [], none, none⟩,
       ⟨some 9, .bstr (.t 8), [], [], none, none⟩,
       ⟨some 3, .mv (.t 9), [], [], none, none⟩])
   (g_ref01_Digits.c1))
def g_ref01_Digits : AFn := { N := 23, res := [.slot 2], own := [], frz := [], code := g_ref01_Digits.code }
def g_internal_stringslite_HasSuffix.o1 : List AOper :=
  [⟨some 20, .pick (.t 10) (.t 19) (.c (.d (.bool false))), [], [], none, none⟩,
     ⟨some 4, .mv (.t 20), [], [], none, none⟩]
def g_internal_stringslite_HasSuffix.o0 : List AOper :=
  (⟨some 11, .mv (.t 0), [], [], (some (5, 10, true)), none⟩ ::
     ⟨some 12, .mv (.t 0), [], [], (some (5, 10, true)), none⟩ ::
     ⟨some 13, .lenS (.t 12), [], [], (some (5, 10, true)), none⟩ ::
     ⟨some 14, .mv (.t 1), [], [], (some (5, 10, true)), none⟩ ::
     ⟨some 15, .lenS (.t 14), [], [], (some (5, 10, true)), none⟩ ::
     ⟨some 16, .bin .sub (.t 13) (.t 15), [], [], (some (5, 10, true)), none⟩ ::
     ⟨some 17, .slcS (.t 11) (some (.t 16)) none, [], [], (some (5, 10, true)), none⟩ ::
     ⟨some 18, .mv (.t 1), [], [], (some (5, 10, true)), none⟩ ::
     ⟨some 19, .bin .eql (.t 17) (.t 18), [], [], (some (5, 10, true)), (some ([10, 19], (some [])))⟩ ::
     g_internal_stringslite_HasSuffix.o1)
def g_internal_stringslite_HasSuffix.c0 : ACode :=
  .ret
def g_internal_stringslite_HasSuffix.code : ACode :=
  .seq (.region [0, 1] (some []) none
     [⟨some 4, .mv (.c (.d (.bool false))), [], [], none, none⟩])
  (.seq (.region [4] (some []) none
      (⟨some 5, .mv (.t 0), [], [], none, none⟩ ::
       ⟨some 6, .lenS (.t 5), [], [], none, none⟩ ::
       ⟨some 7, .mv (.t 1), [], [], none, none⟩ ::
       ⟨some 8, .lenS (.t 7), [], [], none, none⟩ ::
       ⟨some 9, .bin .geq (.t 6) (.t 8), [], [], none, none⟩ ::
       ⟨some 10, .mv (.t 9), [], [], none, (some ([0, 1, 10], (some [])))⟩ ::
       g_internal_stringslite_HasSuffix.o0))
   (g_internal_stringslite_HasSuffix.c0))
def g_internal_stringslite_HasSuffix : AFn := { N := 21, res := [.slot 4], own := [], frz := [], code := g_internal_stringslite_HasSuffix.code }

end Pay
