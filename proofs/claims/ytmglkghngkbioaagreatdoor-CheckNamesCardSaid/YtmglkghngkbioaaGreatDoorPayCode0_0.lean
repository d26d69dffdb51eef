/- The program's functions as abstract code. -/
import Derived.Test.YtmglkghngkbioaaGreatDoorPayBa1
set_option maxRecDepth 20000
namespace Pay
def g_law10_CheckNames.o1 : List AOper :=
  [⟨some 17, .pick (.t 13) (.c (.d (.bool true))) (.t 16), [], [], none, none⟩]
def g_law10_CheckNames.o0 : List AOper :=
  (⟨some 14, .mv (.t 0), [], [], (some (3, 13, false)), none⟩ ::
     ⟨some 15, .lenS (.t 14), [], [], (some (3, 13, false)), none⟩ ::
     ⟨some 16, .bin .gtr (.t 15) (.c (.d (.int .i64 30))), [], [], (some (3, 13, false)), (some ([0, 1, 13, 16], (some [])))⟩ ::
     g_law10_CheckNames.o1)
def g_law10_CheckNames.c0 : ACode :=
  .cond (.t 17) (.seq (.region [4] (some []) none
      [⟨some 18, .call 162 [], [], [], none, none⟩,
       ⟨some 4, .mv (.t 18), [], [], none, none⟩])
   (.ret))
  (.skip)
def g_law10_CheckNames.o3 : List AOper :=
  [⟨some 46, .pick (.t 42) (.c (.d (.bool true))) (.t 45), [], [], none, none⟩]
def g_law10_CheckNames.o2 : List AOper :=
  (⟨some 43, .faddr 1 (.t 9), [], [], (some (3, 42, false)), none⟩ ::
     ⟨some 44, .load none (.t 43), [], [], (some (3, 42, false)), none⟩ ::
     ⟨some 45, .bin .gtr (.t 44) (.c (.d (.int .i64 4))), [], [], (some (3, 42, false)), (some ([5, 6, 7, 9, 42, 45], (some [9])))⟩ ::
     g_law10_CheckNames.o3)
def g_law10_CheckNames.o9 : List AOper :=
  [⟨some 59, .pick (.t 57) (.t 58) (.c (.d (.bool false))), [], [], none, none⟩,
     ⟨some 4, .mv (.t 59), [], [], none, none⟩]
def g_law10_CheckNames.o8 : List AOper :=
  (⟨some 58, .call 162 [], [], [], (some (10, 57, true)), (some ([57, 58], (some [])))⟩ ::
     g_law10_CheckNames.o9)
def g_law10_CheckNames.o7 : List AOper :=
  (⟨some 56, .pick (.t 53) (.t 55) (.c (.d (.bool false))), [], [], none, none⟩ ::
     ⟨some 57, .mv (.t 56), [], [], none, (some ([57], (some [])))⟩ ::
     g_law10_CheckNames.o8)
def g_law10_CheckNames.o6 : List AOper :=
  (⟨some 54, .mv (.t 7), [], [], (some (6, 53, true)), none⟩ ::
     ⟨some 55, .bin .eql (.t 54) (.c (.d (.int .i64 7))), [], [], (some (6, 53, true)), (some ([53, 55], (some [])))⟩ ::
     g_law10_CheckNames.o7)
def g_law10_CheckNames.o5 : List AOper :=
  (⟨some 52, .pick (.t 49) (.t 51) (.c (.d (.bool false))), [], [], none, none⟩ ::
     ⟨some 53, .mv (.t 52), [], [], none, (some ([7, 53], (some [])))⟩ ::
     g_law10_CheckNames.o6)
def g_law10_CheckNames.o4 : List AOper :=
  (⟨some 50, .mv (.t 6), [], [], (some (2, 49, true)), none⟩ ::
     ⟨some 51, .bin .eql (.t 50) (.c (.d (.int .i64 0))), [], [], (some (2, 49, true)), (some ([7, 49, 51], (some [])))⟩ ::
     g_law10_CheckNames.o5)
def g_law10_CheckNames.c1 : ACode :=
  .ret
def g_law10_CheckNames.c2 : ACode :=
  .cond (.t 46) (.seq (.region [4] (some []) none
      (⟨some 47, .mv (.t 5), [], [], none, none⟩ ::
       ⟨some 48, .bin .eql (.t 47) (.c (.d (.int .i64 0))), [], [], none, none⟩ ::
       ⟨some 49, .mv (.t 48), [], [], none, (some ([6, 7, 49], (some [])))⟩ ::
       g_law10_CheckNames.o4))
   (g_law10_CheckNames.c1))
  (.skip)
def g_law10_CheckNames.o15 : List AOper :=
  [⟨some 74, .pick (.t 72) (.t 73) (.c (.d (.bool false))), [], [], none, none⟩,
     ⟨some 4, .mv (.t 74), [], [], none, none⟩]
def g_law10_CheckNames.o14 : List AOper :=
  (⟨some 73, .call 162 [], [], [], (some (12, 72, true)), (some ([72, 73], (some [])))⟩ ::
     g_law10_CheckNames.o15)
def g_law10_CheckNames.o13 : List AOper :=
  (⟨some 71, .pick (.t 68) (.t 70) (.c (.d (.bool false))), [], [], none, none⟩ ::
     ⟨some 72, .mv (.t 71), [], [], none, (some ([72], (some [])))⟩ ::
     g_law10_CheckNames.o14)
def g_law10_CheckNames.o12 : List AOper :=
  (⟨some 69, .mv (.t 7), [], [], (some (8, 68, true)), none⟩ ::
     ⟨some 70, .bin .eql (.t 69) (.c (.d (.int .i64 0))), [], [], (some (8, 68, true)), (some ([68, 70], (some [])))⟩ ::
     g_law10_CheckNames.o13)
def g_law10_CheckNames.o11 : List AOper :=
  (⟨some 67, .pick (.t 64) (.t 66) (.c (.d (.bool false))), [], [], none, none⟩ ::
     ⟨some 68, .mv (.t 67), [], [], none, (some ([7, 68], (some [])))⟩ ::
     g_law10_CheckNames.o12)
def g_law10_CheckNames.o10 : List AOper :=
  (⟨some 65, .mv (.t 6), [], [], (some (4, 64, true)), none⟩ ::
     ⟨some 66, .bin .eql (.t 65) (.c (.d (.int .i64 0))), [], [], (some (4, 64, true)), (some ([7, 64, 66], (some [])))⟩ ::
     g_law10_CheckNames.o11)
def g_law10_CheckNames.c3 : ACode :=
  .ret
def g_law10_CheckNames.c4 : ACode :=
  .seq (.region [4] (some []) none
     (⟨some 60, .mv (.t 5), [], [], none, none⟩ ::
      ⟨some 61, .faddr 1 (.t 9), [], [], none, none⟩ ::
      ⟨some 62, .load none (.t 61), [], [], none, none⟩ ::
      ⟨some 63, .bin .eql (.t 60) (.t 62), [], [], none, none⟩ ::
      ⟨some 64, .mv (.t 63), [], [], none, (some ([6, 7, 64], (some [])))⟩ ::
      g_law10_CheckNames.o10))
  (g_law10_CheckNames.c3)
def g_law10_CheckNames.c5 : ACode :=
  .seq (.seq (.region [5, 6, 7, 9, 46] (some [9]) none
      (⟨some 39, .faddr 1 (.t 9), [], [], none, none⟩ ::
       ⟨some 40, .load none (.t 39), [], [], none, none⟩ ::
       ⟨some 41, .bin .lss (.t 40) (.c (.d (.int .i64 1))), [], [], none, none⟩ ::
       ⟨some 42, .mv (.t 41), [], [], none, (some ([5, 6, 7, 9, 42], (some [9])))⟩ ::
       g_law10_CheckNames.o2))
   (g_law10_CheckNames.c2))
  (g_law10_CheckNames.c4)
def g_law10_CheckNames.c6 : ACode :=
  .seq (.seq (.region [0, 5, 6, 7, 9, 29, 30, 31, 38] (some [9]) none
      [⟨some 35, .faddr 0 (.t 9), [], [], none, none⟩,
       ⟨some 36, .load none (.t 35), [], [], none, none⟩,
       ⟨some 37, .mv (.t 0), [], [], none, none⟩,
       ⟨some 38, .bin .neq (.t 36) (.t 37), [], [], none, none⟩])
   (.cond (.t 38) (.exit 1)
    (.skip)))
  (g_law10_CheckNames.c5)
def g_law10_CheckNames.c7 : ACode :=
  .region [0, 5, 6, 7, 29, 30, 31] (some []) none
    [⟨some 75, .bin .add (.t 31) (.c (.d (.int .i64 1))), [], [], none, none⟩,
     ⟨some 31, .mv (.t 75), [], [], none, none⟩]
def g_law10_CheckNames.l0 : ACode :=
  .loop [0, 5, 6, 7, 29, 30, 31] (some []) (.seq (.region [0, 5, 6, 7, 29, 30, 31, 32] (some []) none
     [⟨some 32, .bin .lss (.t 31) (.t 30), [], [], none, none⟩])
  (.seq (.cond (.t 32) (.skip)
    (.exit 0))
   (.seq (.block 1 [0, 5, 6, 7, 29, 30, 31] (some []) (.seq (.region [0, 5, 6, 7, 9, 29, 30, 31] (some [9]) none
         [⟨some 33, .iaddr 2 (.t 29) (.t 31), [], [], none, none⟩,
          ⟨some 34, .load (some 2) (.t 33), [], [], none, none⟩,
          ⟨some 9, .alloc 9 [.d (.str []), .d (.int .i64 0)], [], [], none, none⟩,
          ⟨none, .store 2 (.t 9) (.t 34), [], [], none, none⟩])
      (g_law10_CheckNames.c6)))
    (g_law10_CheckNames.c7))))
def g_law10_CheckNames.o21 : List AOper :=
  [⟨some 88, .pick (.t 86) (.t 87) (.c (.d (.bool false))), [], [], none, none⟩,
     ⟨some 4, .mv (.t 88), [], [], none, none⟩]
def g_law10_CheckNames.o20 : List AOper :=
  (⟨some 87, .call 162 [], [], [], (some (10, 86, true)), (some ([86, 87], (some [])))⟩ ::
     g_law10_CheckNames.o21)
def g_law10_CheckNames.o19 : List AOper :=
  (⟨some 85, .pick (.t 82) (.t 84) (.c (.d (.bool false))), [], [], none, none⟩ ::
     ⟨some 86, .mv (.t 85), [], [], none, (some ([86], (some [])))⟩ ::
     g_law10_CheckNames.o20)
def g_law10_CheckNames.o18 : List AOper :=
  (⟨some 83, .mv (.t 7), [], [], (some (6, 82, true)), none⟩ ::
     ⟨some 84, .bin .eql (.t 83) (.c (.d (.int .i64 5))), [], [], (some (6, 82, true)), (some ([82, 84], (some [])))⟩ ::
     g_law10_CheckNames.o19)
def g_law10_CheckNames.o17 : List AOper :=
  (⟨some 81, .pick (.t 78) (.t 80) (.c (.d (.bool false))), [], [], none, none⟩ ::
     ⟨some 82, .mv (.t 81), [], [], none, (some ([7, 82], (some [])))⟩ ::
     g_law10_CheckNames.o18)
def g_law10_CheckNames.o16 : List AOper :=
  (⟨some 79, .mv (.t 6), [], [], (some (2, 78, true)), none⟩ ::
     ⟨some 80, .bin .eql (.t 79) (.c (.d (.int .i64 0))), [], [], (some (2, 78, true)), (some ([7, 78, 80], (some [])))⟩ ::
     g_law10_CheckNames.o17)
def g_law10_CheckNames.c8 : ACode :=
  .ret
def g_law10_CheckNames.c9 : ACode :=
  .seq (.region [4] (some []) none
     (⟨some 76, .mv (.t 5), [], [], none, none⟩ ::
      ⟨some 77, .bin .eql (.t 76) (.c (.d (.int .i64 0))), [], [], none, none⟩ ::
      ⟨some 78, .mv (.t 77), [], [], none, (some ([6, 7, 78], (some [])))⟩ ::
      g_law10_CheckNames.o16))
  (g_law10_CheckNames.c8)
def g_law10_CheckNames.c10 : ACode :=
  .seq (.seq (.region [0, 5, 6, 7, 29, 30, 31] (some []) none
      [⟨some 29, .mv (.t 1), [], [], none, none⟩,
       ⟨some 30, .len (.t 29), [], [], none, none⟩,
       ⟨some 31, .mv (.c (.d (.int .i64 0))), [], [], none, none⟩])
   (.block 0 [5, 6, 7] (some []) (g_law10_CheckNames.l0)))
  (g_law10_CheckNames.c9)
def g_law10_CheckNames.c11 : ACode :=
  .seq (.region [0, 1, 5, 6, 7] (some []) none
     [⟨some 20, .mv (.t 0), [], [], none, none⟩,
      ⟨some 21, .build [.d (.str []), .d (.str []), .d (.int .i64 0), .d (.int .i64 0), .d (.int .i64 0), .d (.int .i64 0)] [(0, 1, (.c (.d (.str [110, 97, 109, 101])))), (1, 1, (.t 20))], [], [], none, none⟩,
      ⟨some 22, .bsl none 6 [] 1 [(0, (.t 21))], [], [], none, none⟩,
      ⟨some 23, .build [.cap0, .cap0] [(1, 1, (.t 22))], [], [], none, none⟩,
      ⟨some 24, .mv (.t 1), [], [], none, none⟩,
      ⟨some 25, .call 163 [(.t 23), (.c (.d (.int .i64 0))), (.t 24)], [], [], none, none⟩,
      ⟨some 19, .mv (.t 25), [], [], none, none⟩,
      ⟨some 26, .ext (.t 19) 0, [], [], none, none⟩,
      ⟨some 27, .ext (.t 19) 1, [], [], none, none⟩,
      ⟨some 28, .ext (.t 19) 2, [], [], none, none⟩,
      ⟨some 5, .mv (.t 26), [], [], none, none⟩,
      ⟨some 6, .mv (.t 27), [], [], none, none⟩,
      ⟨some 7, .mv (.t 28), [], [], none, none⟩])
  (g_law10_CheckNames.c10)
def g_law10_CheckNames.code : ACode :=
  .seq (.region [0, 1] (some []) none
     [⟨some 4, .mv (.c (.d (.bool false))), [], [], none, none⟩])
  (.seq (.seq (.region [0, 1, 17] (some []) none
       (⟨some 10, .mv (.t 1), [], [], none, none⟩ ::
        ⟨some 11, .len (.t 10), [], [], none, none⟩ ::
        ⟨some 12, .bin .gtr (.t 11) (.c (.d (.int .i64 60))), [], [], none, none⟩ ::
        ⟨some 13, .mv (.t 12), [], [], none, (some ([0, 1, 13], (some [])))⟩ ::
        g_law10_CheckNames.o0))
    (g_law10_CheckNames.c0))
   (g_law10_CheckNames.c11))
def g_law10_CheckNames : AFn := { N := 89, res := [.slot 4], own := [], frz := [], code := g_law10_CheckNames.code }
def g_law10_awake.o5 : List AOper :=
  [⟨some 40, .pick (.t 37) (.t 39) (.c (.d (.bool false))), [], [], none, none⟩,
     ⟨some 0, .mv (.t 40), [], [], none, none⟩]
def g_law10_awake.o4 : List AOper :=
  (⟨some 38, .mv (.t 9), [], [], (some (10, 37, true)), none⟩ ::
     ⟨some 39, .bin .eql (.t 38) (.c (.d (.int .i64 7))), [], [], (some (10, 37, true)), (some ([37, 39], (some [])))⟩ ::
     g_law10_awake.o5)
def g_law10_awake.o3 : List AOper :=
  (⟨some 36, .pick (.t 33) (.t 35) (.c (.d (.bool false))), [], [], none, none⟩ ::
     ⟨some 37, .mv (.t 36), [], [], none, (some ([9, 37], (some [])))⟩ ::
     g_law10_awake.o4)
def g_law10_awake.o2 : List AOper :=
  (⟨some 34, .mv (.t 8), [], [], (some (6, 33, true)), none⟩ ::
     ⟨some 35, .bin .eql (.t 34) (.c (.d (.int .i64 5))), [], [], (some (6, 33, true)), (some ([9, 33, 35], (some [])))⟩ ::
     g_law10_awake.o3)
def g_law10_awake.o1 : List AOper :=
  (⟨some 32, .pick (.t 29) (.t 31) (.c (.d (.bool false))), [], [], none, none⟩ ::
     ⟨some 33, .mv (.t 32), [], [], none, (some ([8, 9, 33], (some [])))⟩ ::
     g_law10_awake.o2)
def g_law10_awake.o0 : List AOper :=
  (⟨some 30, .mv (.t 6), [], [], (some (2, 29, true)), none⟩ ::
     ⟨some 31, .bin .eql (.t 30) (.c (.d (.int .i64 0))), [], [], (some (2, 29, true)), (some ([8, 9, 29, 31], (some [])))⟩ ::
     g_law10_awake.o1)
def g_law10_awake.c0 : ACode :=
  .ret
def g_law10_awake.c1 : ACode :=
  .seq (.region [0] (some []) none
     (⟨some 27, .mv (.t 4), [], [], none, none⟩ ::
      ⟨some 28, .bin .eql (.t 27) (.c (.d (.int .i64 1))), [], [], none, none⟩ ::
      ⟨some 29, .mv (.t 28), [], [], none, (some ([6, 8, 9, 29], (some [])))⟩ ::
      g_law10_awake.o0))
  (g_law10_awake.c0)
def g_law10_awake.c2 : ACode :=
  .seq (.region [4, 6, 8, 9] (some []) none
     [⟨some 22, .load (some 2) (.t 1), [], [], none, none⟩,
      ⟨some 23, .call 163 [(.t 22), (.c (.d (.int .i64 5))), (.c (.cap0))], [], [], none, none⟩,
      ⟨some 21, .mv (.t 23), [], [], none, none⟩,
      ⟨some 24, .ext (.t 21) 0, [], [], none, none⟩,
      ⟨some 25, .ext (.t 21) 1, [], [], none, none⟩,
      ⟨some 26, .ext (.t 21) 2, [], [], none, none⟩,
      ⟨some 7, .mv (.t 24), [], [], none, none⟩,
      ⟨some 8, .mv (.t 25), [], [], none, none⟩,
      ⟨some 9, .mv (.t 26), [], [], none, none⟩])
  (g_law10_awake.c1)
def g_law10_awake.c3 : ACode :=
  .seq (.region [1, 4, 6] (some [1]) none
     [⟨some 16, .load (some 2) (.t 1), [], [], none, none⟩,
      ⟨some 17, .call 163 [(.t 16), (.c (.d (.int .i64 2))), (.c (.cap0))], [], [], none, none⟩,
      ⟨some 15, .mv (.t 17), [], [], none, none⟩,
      ⟨some 18, .ext (.t 15) 0, [], [], none, none⟩,
      ⟨some 19, .ext (.t 15) 1, [], [], none, none⟩,
      ⟨some 20, .ext (.t 15) 2, [], [], none, none⟩,
      ⟨some 4, .mv (.t 18), [], [], none, none⟩,
      ⟨some 5, .mv (.t 19), [], [], none, none⟩,
      ⟨some 6, .mv (.t 20), [], [], none, none⟩])
  (g_law10_awake.c2)
def g_law10_awake.code : ACode :=
  .seq (.region [] (some []) none
     [⟨some 0, .mv (.c (.d (.bool false))), [], [], none, none⟩])
  (.seq (.region [1] (some [1]) none
      [⟨some 11, .call 144 [(.c (.d (.str [108, 101, 116, 32, 97, 32, 61, 32, 49, 46, 53, 48, 32, 42, 32, 50, 59, 32, 108, 101, 116, 32, 98, 32, 61, 32, 49, 46, 53, 48, 32, 43, 32, 50, 59])))], [], [], none, none⟩,
       ⟨some 10, .mv (.t 11), [], [], none, none⟩,
       ⟨some 12, .ext (.t 10) 0, [], [], none, none⟩,
       ⟨some 13, .ext (.t 10) 1, [], [], none, none⟩,
       ⟨some 14, .ext (.t 10) 2, [], [], none, none⟩,
       ⟨some 1, .alloc 1 [.cap0, .cap0], [], [], none, none⟩,
       ⟨none, .store 2 (.t 1) (.t 12), [], [], none, none⟩,
       ⟨some 2, .mv (.t 13), [], [], none, none⟩,
       ⟨some 3, .mv (.t 14), [], [], none, none⟩])
   (g_law10_awake.c3))
def g_law10_awake : AFn := { N := 41, res := [.slot 0], own := [], frz := [], code := g_law10_awake.code }
def g_check_Kind.c0 : ACode :=
  .seq (.region [1, 2, 3, 11, 12, 14, 26, 27, 28, 51] (some [3, 14, 25]) none
     [⟨some 47, .mv (.t 11), [], [], none, none⟩,
      ⟨some 48, .mv (.t 12), [], [], none, none⟩,
      ⟨some 49, .iaddr 1 (.t 47) (.t 48), [], [], none, none⟩,
      ⟨some 50, .load none (.t 49), [], [], none, none⟩,
      ⟨some 51, .bin .neq (.t 50) (.c (.d (.int .i64 0))), [], [], none, none⟩])
  (.cond (.t 51) (.exit 1)
   (.skip))
def g_check_Kind.o1 : List AOper :=
  [⟨some 60, .pick (.t 55) (.t 59) (.c (.d (.bool false))), [], [], none, none⟩]
def g_check_Kind.o0 : List AOper :=
  (⟨some 56, .mv (.t 2), [], [], (some (3, 55, true)), none⟩ ::
     ⟨some 57, .fnv 186 [(.t 14)], [], [], (some (3, 55, true)), none⟩ ::
     ⟨some 58, .call 187 [(.t 56), (.t 57)], [], [], (some (3, 55, true)), none⟩ ::
     ⟨some 59, .un .not (.t 58), [], [], (some (3, 55, true)), (some ([12, 55, 59], (some [])))⟩ ::
     g_check_Kind.o1)
def g_check_Kind.c1 : ACode :=
  .cond (.t 60) (.seq (.region [6, 7, 8] (some []) none
      [⟨some 61, .mv (.t 12), [], [], none, none⟩,
       ⟨some 6, .mv (.c (.d (.int .i64 0))), [], [], none, none⟩,
       ⟨some 7, .mv (.t 61), [], [], none, none⟩,
       ⟨some 8, .mv (.c (.d (.int .i64 5))), [], [], none, none⟩])
   (.ret))
  (.skip)
def g_check_Kind.c2 : ACode :=
  .seq (.region [6, 7, 8] (some []) none
     [⟨some 62, .mv (.t 12), [], [], none, none⟩,
      ⟨some 6, .mv (.c (.d (.int .i64 0))), [], [], none, none⟩,
      ⟨some 7, .mv (.t 62), [], [], none, none⟩,
      ⟨some 8, .mv (.c (.d (.int .i64 7))), [], [], none, none⟩])
  (.ret)
def g_check_Kind.c3 : ACode :=
  .seq (.seq (.region [12, 60] (some []) none
      (⟨some 52, .faddr 0 (.t 14), [], [], none, none⟩ ::
       ⟨some 53, .load none (.t 52), [], [], none, none⟩ ::
       ⟨some 54, .bin .eql (.t 53) (.c (.d (.str [110, 97, 109, 101]))), [], [], none, none⟩ ::
       ⟨some 55, .mv (.t 54), [], [], none, (some ([2, 12, 14, 55], (some [14])))⟩ ::
       g_check_Kind.o0))
   (g_check_Kind.c1))
  (g_check_Kind.c2)
def g_check_Kind.c4 : ACode :=
  .seq (.seq (.region [1, 2, 3, 11, 12, 14, 26, 27, 28] (some [3, 14, 25]) none
      [⟨some 40, .mv (.t 11), [], [], none, none⟩,
       ⟨some 41, .mv (.t 12), [], [], none, none⟩,
       ⟨some 42, .load (some 6) (.t 14), [], [], none, none⟩,
       ⟨some 43, .mv (.t 11), [], [], none, none⟩,
       ⟨some 44, .mv (.t 2), [], [], none, none⟩,
       ⟨some 45, .call 185 [(.t 42), (.t 43), (.t 44)], [], [], none, none⟩,
       ⟨some 46, .iaddr 1 (.t 40) (.t 41), [], [], none, none⟩,
       ⟨none, .store 1 (.t 46) (.t 45), [], [], none, none⟩])
   (g_check_Kind.c0))
  (g_check_Kind.c3)
def g_check_Kind.c5 : ACode :=
  .seq (.seq (.region [1, 2, 3, 11, 12, 26, 27, 28, 34] (some [3, 25]) none
      [⟨some 33, .mv (.t 13), [], [], none, none⟩,
       ⟨some 34, .un .not (.t 33), [], [], none, none⟩])
   (.cond (.t 34) (.exit 1)
    (.skip)))
  (.seq (.region [1, 2, 3, 11, 12, 14, 26, 27, 28] (some [3, 14, 25]) none
      [⟨some 35, .faddr 1 (.t 3), [], [], none, none⟩,
       ⟨some 36, .load none (.t 35), [], [], none, none⟩,
       ⟨some 37, .mv (.t 12), [], [], none, none⟩,
       ⟨some 38, .iaddr 6 (.t 36) (.t 37), [], [], none, none⟩,
       ⟨some 39, .load (some 6) (.t 38), [], [], none, none⟩,
       ⟨some 14, .alloc 14 [.d (.str []), .d (.str []), .d (.int .i64 0), .d (.int .i64 0), .d (.int .i64 0), .d (.int .i64 0)], [], [], none, none⟩,
       ⟨none, .store 6 (.t 14) (.t 39), [], [], none, none⟩])
   (g_check_Kind.c4))
def g_check_Kind.c6 : ACode :=
  .region [1, 2, 3, 11, 26, 27, 28] (some [3, 25]) none
    [⟨some 63, .bin .add (.t 28) (.c (.d (.int .i64 1))), [], [], none, none⟩,
     ⟨some 28, .mv (.t 63), [], [], none, none⟩]
def g_check_Kind.l0 : ACode :=
  .loop [1, 2, 3, 11, 26, 27, 28] (some [3, 25]) (.seq (.region [1, 2, 3, 11, 26, 27, 28, 29] (some [3, 25]) none
     [⟨some 29, .bin .lss (.t 28) (.t 27), [], [], none, none⟩])
  (.seq (.cond (.t 29) (.skip)
    (.exit 0))
   (.seq (.block 1 [1, 2, 3, 11, 26, 27, 28] (some [3, 25]) (.seq (.region [1, 2, 3, 11, 12, 13, 26, 27, 28] (some [3, 25]) none
         [⟨some 30, .mv (.t 28), [], [], none, none⟩,
          ⟨some 31, .iaddr 1 (.t 26) (.t 28), [], [], none, none⟩,
          ⟨some 32, .load none (.t 31), [], [], none, none⟩,
          ⟨some 12, .mv (.t 30), [], [], none, none⟩,
          ⟨some 13, .mv (.t 32), [], [], none, none⟩])
      (g_check_Kind.c5)))
    (g_check_Kind.c6))))
def g_check_Kind.c7 : ACode :=
  .seq (.region [6, 7, 8] (some []) none
     [⟨some 64, .mv (.t 11), [], [], none, none⟩,
      ⟨some 65, .mv (.t 1), [], [], none, none⟩,
      ⟨some 66, .iaddr 1 (.t 64) (.t 65), [], [], none, none⟩,
      ⟨some 67, .load none (.t 66), [], [], none, none⟩,
      ⟨some 6, .mv (.t 67), [], [], none, none⟩,
      ⟨some 7, .mv (.c (.d (.int .i64 0))), [], [], none, none⟩,
      ⟨some 8, .mv (.c (.d (.int .i64 0))), [], [], none, none⟩])
  (.ret)
def g_check_Kind.c8 : ACode :=
  .seq (.seq (.region [1, 2, 3, 11, 26, 27, 28] (some [3, 25]) none
      [⟨some 26, .mv (.t 9), [], [], none, none⟩,
       ⟨some 27, .len (.t 26), [], [], none, none⟩,
       ⟨some 28, .mv (.c (.d (.int .i64 0))), [], [], none, none⟩])
   (.block 0 [1, 11] (some [25]) (g_check_Kind.l0)))
  (g_check_Kind.c7)
def g_check_Kind.c9 : ACode :=
  .seq (.region [1, 2, 3, 9, 11] (some [3, 25]) none
     [⟨some 23, .mv (.t 9), [], [], none, none⟩,
      ⟨some 24, .len (.t 23), [], [], none, none⟩,
      ⟨some 25, .mks (some 25) 1 8 [(.int .i64 0)] (.t 24), [], [], none, none⟩,
      ⟨some 11, .mv (.t 25), [], [], none, none⟩])
  (g_check_Kind.c8)
def g_check_Kind.c10 : ACode :=
  .seq (.seq (.region [1, 2, 3, 9, 22] (some [3]) none
      [⟨some 21, .mv (.t 10), [], [], none, none⟩,
       ⟨some 22, .un .not (.t 21), [], [], none, none⟩])
   (.cond (.t 22) (.seq (.region [6, 7, 8] (some []) none
        [⟨some 6, .mv (.c (.d (.int .i64 0))), [], [], none, none⟩,
         ⟨some 7, .mv (.c (.d (.int .i64 0))), [], [], none, none⟩,
         ⟨some 8, .mv (.c (.d (.int .i64 1))), [], [], none, none⟩])
     (.ret))
    (.skip)))
  (g_check_Kind.c9)
def g_check_Kind.c11 : ACode :=
  .seq (.region [1, 2, 3, 9, 10] (some [3]) none
     [⟨some 16, .load (some 2) (.t 3), [], [], none, none⟩,
      ⟨some 17, .mv (.t 1), [], [], none, none⟩,
      ⟨some 18, .call 184 [(.t 16), (.t 17)], [], [], none, none⟩,
      ⟨some 15, .mv (.t 18), [], [], none, none⟩,
      ⟨some 19, .ext (.t 15) 0, [], [], none, none⟩,
      ⟨some 20, .ext (.t 15) 1, [], [], none, none⟩,
      ⟨some 9, .mv (.t 19), [], [], none, none⟩,
      ⟨some 10, .mv (.t 20), [], [], none, none⟩])
  (g_check_Kind.c10)
def g_check_Kind.code : ACode :=
  .seq (.region [1, 2, 3] (some [3]) none
     [⟨some 3, .box 3 2 (.t 0), [], [], none, none⟩,
      ⟨some 6, .mv (.c (.d (.int .i64 0))), [], [], none, none⟩,
      ⟨some 7, .mv (.c (.d (.int .i64 0))), [], [], none, none⟩,
      ⟨some 8, .mv (.c (.d (.int .i64 0))), [], [], none, none⟩])
  (g_check_Kind.c11)
def g_check_Kind : AFn := { N := 68, res := [.slot 6, .slot 7, .slot 8], own := [], frz := [], code := g_check_Kind.code }
def g_tree_Parse.o1 : List AOper :=
  [⟨some 38, .pick (.t 32) (.t 37) (.c (.d (.bool false))), [], [], none, none⟩]
def g_tree_Parse.o0 : List AOper :=
  (⟨some 33, .mv (.t 8), [], [], (some (7, 32, true)), none⟩ ::
     ⟨some 34, .nilc (.t 33), [], [], (some (7, 32, true)), none⟩ ::
     ⟨some 35, .faddr 5 (.t 34), [], [], (some (7, 32, true)), none⟩ ::
     ⟨some 36, .load none (.t 35), [], [], (some (7, 32, true)), none⟩ ::
     ⟨some 37, .bin .eql (.t 36) (.c (.d (.int .i64 0))), [], [], (some (7, 32, true)), (some ([2, 5, 8, 32, 37], none))⟩ ::
     g_tree_Parse.o1)
def g_tree_Parse.c0 : ACode :=
  .cond (.t 38) (.skip)
  (.exit 0)
def g_tree_Parse.c1 : ACode :=
  .block 1 [2, 5, 8] none (.region [2, 5, 8] none none
     [⟨some 39, .mv (.t 8), [], [], none, none⟩,
      ⟨some 40, .call 153 [(.t 39)], [], [], none, none⟩])
def g_tree_Parse.l0 : ACode :=
  .loop [2, 5, 8] none (.seq (.seq (.region [2, 5, 8, 38] none none
      (⟨some 25, .mv (.t 8), [], [], none, none⟩ ::
       ⟨some 26, .nilc (.t 25), [], [], none, none⟩ ::
       ⟨some 27, .faddr 2 (.t 26), [], [], none, none⟩ ::
       ⟨some 28, .load none (.t 27), [], [], none, none⟩ ::
       ⟨some 29, .mv (.t 5), [], [], none, none⟩ ::
       ⟨some 30, .len (.t 29), [], [], none, none⟩ ::
       ⟨some 31, .bin .lss (.t 28) (.t 30), [], [], none, none⟩ ::
       ⟨some 32, .mv (.t 31), [], [], none, (some ([2, 5, 8, 32], none))⟩ ::
       g_tree_Parse.o0))
   (g_tree_Parse.c0))
  (g_tree_Parse.c1))
def g_tree_Parse.c2 : ACode :=
  .seq (.region [2, 3, 4] none none
     [⟨some 55, .mv (.t 8), [], [], none, none⟩,
      ⟨some 56, .nilc (.t 55), [], [], none, none⟩,
      ⟨some 57, .faddr 3 (.t 56), [], [], none, none⟩,
      ⟨some 58, .load (some 2) (.t 57), [], [], none, none⟩,
      ⟨none, .store 2 (.t 2) (.t 58), [], [], none, none⟩,
      ⟨some 3, .mv (.c (.d (.int .i64 0))), [], [], none, none⟩,
      ⟨some 4, .mv (.c (.d (.int .i64 0))), [], [], none, none⟩])
  (.ret)
def g_tree_Parse.c3 : ACode :=
  .seq (.seq (.region [2, 8, 45] none none
      [⟨some 41, .mv (.t 8), [], [], none, none⟩,
       ⟨some 42, .nilc (.t 41), [], [], none, none⟩,
       ⟨some 43, .faddr 5 (.t 42), [], [], none, none⟩,
       ⟨some 44, .load none (.t 43), [], [], none, none⟩,
       ⟨some 45, .bin .neq (.t 44) (.c (.d (.int .i64 0))), [], [], none, none⟩])
   (.cond (.t 45) (.seq (.region [2, 3, 4] none (some ([0, 1, 2, 3, 1004, 5, 6, 7, 1008], .one 9 (.one 10 (.one 11 (.done)))))
        [⟨some 46, .build [.cap0, .cap0] [], [], [], none, none⟩,
         ⟨some 47, .mv (.t 8), [], [], none, none⟩,
         ⟨some 48, .nilc (.t 47), [], [1], none, none⟩,
         ⟨some 49, .faddr 6 (.t 48), [], [2], none, none⟩,
         ⟨some 50, .load none (.t 49), [], [3], none, none⟩,
         ⟨some 51, .mv (.t 8), [], [], none, none⟩,
         ⟨some 52, .nilc (.t 51), [], [5], none, none⟩,
         ⟨some 53, .faddr 5 (.t 52), [], [6], none, none⟩,
         ⟨some 54, .load none (.t 53), [], [7], none, none⟩,
         ⟨none, .store 2 (.t 2) (.t 46), [], [0, 0], none, none⟩,
         ⟨some 3, .mv (.t 50), [], [4, 9, 0, 1, 2, 3, 4, 9], none, none⟩,
         ⟨some 4, .mv (.t 54), [], [8, 10, 0, 1, 2, 3, 4, 5, 6, 7, 8, 9, 10], none, none⟩])
     (.ret))
    (.skip)))
  (g_tree_Parse.c2)
def g_tree_Parse.c4 : ACode :=
  .seq (.block 0 [2, 8] none (g_tree_Parse.l0))
  (g_tree_Parse.c3)
def g_tree_Parse.c5 : ACode :=
  .seq (.region [2, 5, 8] none none
     [⟨some 20, .mv (.t 5), [], [], none, none⟩,
      ⟨some 21, .mv (.t 0), [], [], none, none⟩,
      ⟨some 22, .lenS (.t 21), [], [], none, none⟩,
      ⟨some 23, .build [.cap0, .d (.int .i64 0), .d (.int .i64 0), .cap0, .cap0, .d (.int .i64 0), .d (.int .i64 0)] [(0, 1, (.t 20)), (1, 1, (.t 22))], [], [], none, none⟩,
      ⟨some 24, .box 24 7 (.t 23), [], [], none, none⟩,
      ⟨some 8, .mv (.t 24), [], [], none, none⟩])
  (g_tree_Parse.c4)
def g_tree_Parse.c6 : ACode :=
  .seq (.seq (.region [0, 2, 5, 6, 7, 16] none none
      [⟨some 15, .mv (.t 7), [], [], none, none⟩,
       ⟨some 16, .bin .neq (.t 15) (.c (.d (.int .i64 0))), [], [], none, none⟩])
   (.cond (.t 16) (.seq (.region [2, 3, 4] none none
        [⟨some 17, .build [.cap0, .cap0] [], [], [], none, none⟩,
         ⟨some 18, .mv (.t 6), [], [], none, none⟩,
         ⟨some 19, .mv (.t 7), [], [], none, none⟩,
         ⟨none, .store 2 (.t 2) (.t 17), [], [], none, none⟩,
         ⟨some 3, .mv (.t 18), [], [], none, none⟩,
         ⟨some 4, .mv (.t 19), [], [], none, none⟩])
     (.ret))
    (.skip)))
  (g_tree_Parse.c5)
def g_tree_Parse.code : ACode :=
  .seq (.region [0, 2] none none
     [⟨some 2, .alloc 2 [.cap0, .cap0], [], [], none, none⟩,
      ⟨some 3, .mv (.c (.d (.int .i64 0))), [], [], none, none⟩,
      ⟨some 4, .mv (.c (.d (.int .i64 0))), [], [], none, none⟩])
  (.seq (.region [0, 2, 5, 6, 7] none none
      [⟨some 10, .mv (.t 0), [], [], none, none⟩,
       ⟨some 11, .call 74 [(.t 10)], [], [], none, none⟩,
       ⟨some 9, .mv (.t 11), [], [], none, none⟩,
       ⟨some 12, .ext (.t 9) 0, [], [], none, none⟩,
       ⟨some 13, .ext (.t 9) 1, [], [], none, none⟩,
       ⟨some 14, .ext (.t 9) 2, [], [], none, none⟩,
       ⟨some 5, .mv (.t 12), [], [], none, none⟩,
       ⟨some 6, .mv (.t 13), [], [], none, none⟩,
       ⟨some 7, .mv (.t 14), [], [], none, none⟩])
   (g_tree_Parse.c6))
def g_tree_Parse : AFn := { N := 59, res := [.cell 2 (some 2), .slot 3, .slot 4], own := [], frz := [2], code := g_tree_Parse.code }
def g_check_needed.o1 : List AOper :=
  [⟨some 18, .pick (.t 12) (.c (.d (.bool true))) (.t 17), [], [], none, none⟩]
def g_check_needed.o0 : List AOper :=
  (⟨some 13, .mv (.t 1), [], [], (some (2, 12, false)), none⟩ ::
     ⟨some 14, .faddr 1 (.t 2), [], [], (some (2, 12, false)), none⟩ ::
     ⟨some 15, .load none (.t 14), [], [], (some (2, 12, false)), none⟩ ::
     ⟨some 16, .len (.t 15), [], [], (some (2, 12, false)), none⟩ ::
     ⟨some 17, .bin .geq (.t 13) (.t 16), [], [], (some (2, 12, false)), (some ([1, 2, 12, 17], (some [2])))⟩ ::
     g_check_needed.o1)
def g_check_needed.c0 : ACode :=
  .cond (.t 18) (.seq (.region [4, 5] (some [21]) none
      [⟨some 4, .mv (.c (.cap0)), [], [], none, none⟩,
       ⟨some 5, .mv (.c (.d (.bool false))), [], [], none, none⟩])
   (.ret))
  (.skip)
def g_check_needed.o3 : List AOper :=
  [⟨some 52, .pick (.t 48) (.c (.d (.bool true))) (.t 51), [], [], none, none⟩]
def g_check_needed.o2 : List AOper :=
  (⟨some 49, .mv (.t 9), [], [], (some (2, 48, false)), none⟩ ::
     ⟨some 50, .mv (.t 7), [], [], (some (2, 48, false)), none⟩ ::
     ⟨some 51, .bin .geq (.t 49) (.t 50), [], [], (some (2, 48, false)), (some ([2, 6, 7, 9, 40, 41, 42, 48, 51], (some [2, 21])))⟩ ::
     g_check_needed.o3)
def g_check_needed.c1 : ACode :=
  .cond (.t 52) (.seq (.region [4, 5] (some [21]) none
      [⟨some 4, .mv (.c (.cap0)), [], [], none, none⟩,
       ⟨some 5, .mv (.c (.d (.bool false))), [], [], none, none⟩])
   (.ret))
  (.skip)
def g_check_needed.c2 : ACode :=
  .region [2, 6, 7, 40, 41, 42] (some [2, 21]) none
    [⟨some 53, .mv (.t 6), [], [], none, none⟩,
     ⟨some 54, .mv (.t 9), [], [], none, none⟩,
     ⟨some 55, .iaddr 1 (.t 53) (.t 54), [], [], none, none⟩,
     ⟨none, .store 1 (.t 55) (.c (.d (.bool true))), [], [], none, none⟩]
def g_check_needed.c3 : ACode :=
  .region [2, 6, 7, 40, 41, 42] (some [2, 21]) none
    [⟨some 56, .bin .add (.t 42) (.c (.d (.int .i64 1))), [], [], none, none⟩,
     ⟨some 42, .mv (.t 56), [], [], none, none⟩]
def g_check_needed.l1 : ACode :=
  .loop [2, 6, 7, 40, 41, 42] (some [2, 21]) (.seq (.region [2, 6, 7, 40, 41, 42, 43] (some [2, 21]) none
     [⟨some 43, .bin .lss (.t 42) (.t 41), [], [], none, none⟩])
  (.seq (.cond (.t 43) (.skip)
    (.exit 2))
   (.seq (.block 3 [2, 6, 7, 40, 41, 42] (some [2, 21]) (.seq (.region [2, 6, 7, 9, 40, 41, 42] (some [2, 21]) none
         [⟨some 44, .iaddr 1 (.t 40) (.t 42), [], [], none, none⟩,
          ⟨some 45, .load none (.t 44), [], [], none, none⟩,
          ⟨some 9, .mv (.t 45), [], [], none, none⟩])
      (.seq (.seq (.region [2, 6, 7, 9, 40, 41, 42, 52] (some [2, 21]) none
           (⟨some 46, .mv (.t 9), [], [], none, none⟩ ::
            ⟨some 47, .bin .lss (.t 46) (.c (.d (.int .i64 0))), [], [], none, none⟩ ::
            ⟨some 48, .mv (.t 47), [], [], none, (some ([2, 6, 7, 9, 40, 41, 42, 48], (some [2, 21])))⟩ ::
            g_check_needed.o2))
        (g_check_needed.c1))
       (g_check_needed.c2))))
    (g_check_needed.c3))))
def g_check_needed.c4 : ACode :=
  .block 2 [2, 6, 7] (some [2, 21]) (g_check_needed.l1)
def g_check_needed.c5 : ACode :=
  .seq (.region [2, 6, 7, 40, 41, 42] (some [2, 21]) none
     [⟨some 35, .faddr 1 (.t 2), [], [], none, none⟩,
      ⟨some 36, .load none (.t 35), [], [], none, none⟩,
      ⟨some 37, .mv (.t 7), [], [], none, none⟩,
      ⟨some 38, .iaddr 6 (.t 36) (.t 37), [], [], none, none⟩,
      ⟨some 39, .load (some 6) (.t 38), [], [], none, none⟩,
      ⟨some 40, .call 203 [(.t 39)], [], [], none, none⟩,
      ⟨some 41, .len (.t 40), [], [], none, none⟩,
      ⟨some 42, .mv (.c (.d (.int .i64 0))), [], [], none, none⟩])
  (g_check_needed.c4)
def g_check_needed.c6 : ACode :=
  .region [2, 6, 7] (some [2, 21]) none
    [⟨some 28, .mv (.t 7), [], [], none, none⟩,
     ⟨some 29, .bin .sub (.t 28) (.c (.d (.int .i64 1))), [], [], none, none⟩,
     ⟨some 7, .mv (.t 29), [], [], none, none⟩]
def g_check_needed.l0 : ACode :=
  .loop [2, 6, 7] (some [2, 21]) (.seq (.seq (.region [2, 6, 7, 27] (some [2, 21]) none
      [⟨some 26, .mv (.t 7), [], [], none, none⟩,
       ⟨some 27, .bin .geq (.t 26) (.c (.d (.int .i64 0))), [], [], none, none⟩])
   (.cond (.t 27) (.skip)
    (.exit 0)))
  (.seq (.block 1 [2, 6, 7] (some [2, 21]) (.seq (.seq (.region [2, 6, 7, 34] (some [2, 21]) none
         [⟨some 30, .mv (.t 6), [], [], none, none⟩,
          ⟨some 31, .mv (.t 7), [], [], none, none⟩,
          ⟨some 32, .iaddr 1 (.t 30) (.t 31), [], [], none, none⟩,
          ⟨some 33, .load none (.t 32), [], [], none, none⟩,
          ⟨some 34, .un .not (.t 33), [], [], none, none⟩])
      (.cond (.t 34) (.exit 1)
       (.skip)))
     (g_check_needed.c5)))
   (g_check_needed.c6)))
def g_check_needed.c7 : ACode :=
  .seq (.region [4, 5] (some [21]) none
     [⟨some 57, .mv (.t 6), [], [], none, none⟩,
      ⟨some 4, .mv (.t 57), [], [], none, none⟩,
      ⟨some 5, .mv (.c (.d (.bool true))), [], [], none, none⟩])
  (.ret)
def g_check_needed.c8 : ACode :=
  .seq (.seq (.region [2, 6, 7] (some [2, 21]) none
      [⟨some 25, .mv (.t 1), [], [], none, none⟩,
       ⟨some 7, .mv (.t 25), [], [], none, none⟩])
   (.block 0 [6] (some [21]) (g_check_needed.l0)))
  (g_check_needed.c7)
def g_check_needed.c9 : ACode :=
  .seq (.region [1, 2, 6] (some [2, 21]) none
     [⟨some 22, .mv (.t 6), [], [], none, none⟩,
      ⟨some 23, .mv (.t 1), [], [], none, none⟩,
      ⟨some 24, .iaddr 1 (.t 22) (.t 23), [], [], none, none⟩,
      ⟨none, .store 1 (.t 24) (.c (.d (.bool true))), [], [], none, none⟩])
  (g_check_needed.c8)
def g_check_needed.c10 : ACode :=
  .seq (.region [1, 2, 6] (some [2, 21]) none
     [⟨some 19, .mv (.t 1), [], [], none, none⟩,
      ⟨some 20, .bin .add (.t 19) (.c (.d (.int .i64 1))), [], [], none, none⟩,
      ⟨some 21, .mks (some 21) 1 1 [(.bool false)] (.t 20), [], [], none, none⟩,
      ⟨some 6, .mv (.t 21), [], [], none, none⟩])
  (g_check_needed.c9)
def g_check_needed.code : ACode :=
  .seq (.region [1, 2] (some [2]) none
     [⟨some 2, .box 2 2 (.t 0), [], [], none, none⟩,
      ⟨some 4, .mv (.c (.cap0)), [], [], none, none⟩,
      ⟨some 5, .mv (.c (.d (.bool false))), [], [], none, none⟩])
  (.seq (.seq (.region [1, 2, 18] (some [2]) none
       (⟨some 10, .mv (.t 1), [], [], none, none⟩ ::
        ⟨some 11, .bin .lss (.t 10) (.c (.d (.int .i64 0))), [], [], none, none⟩ ::
        ⟨some 12, .mv (.t 11), [], [], none, (some ([1, 2, 12], (some [2])))⟩ ::
        g_check_needed.o0))
    (g_check_needed.c0))
   (g_check_needed.c10))
def g_check_needed : AFn := { N := 58, res := [.slot 4, .slot 5], own := [], frz := [4], code := g_check_needed.code }
def g_check_kind.o3 : List AOper :=
  [⟨some 38, .pick (.t 31) (.t 37) (.c (.d (.bool false))), [], [], none, none⟩]
def g_check_kind.o2 : List AOper :=
  (⟨some 32, .mv (.t 2), [], [], (some (10, 31, true)), none⟩ ::
     ⟨some 33, .mv (.t 7), [], [], (some (10, 31, true)), none⟩ ::
     ⟨some 34, .iaddr 2 (.t 32) (.t 33), [], [], (some (10, 31, true)), none⟩ ::
     ⟨some 35, .faddr 1 (.t 34), [], [], (some (10, 31, true)), none⟩ ::
     ⟨some 36, .load none (.t 35), [], [], (some (10, 31, true)), none⟩ ::
     ⟨some 37, .bin .leq (.t 36) (.c (.d (.int .i64 4))), [], [], (some (10, 31, true)), (some ([2, 7, 31, 37], (some [])))⟩ ::
     g_check_kind.o3)
def g_check_kind.o1 : List AOper :=
  (⟨some 30, .pick (.t 23) (.t 29) (.c (.d (.bool false))), [], [], none, none⟩ ::
     ⟨some 31, .mv (.t 30), [], [], none, (some ([2, 7, 31], (some [])))⟩ ::
     g_check_kind.o2)
def g_check_kind.o0 : List AOper :=
  (⟨some 24, .mv (.t 2), [], [], (some (2, 23, true)), none⟩ ::
     ⟨some 25, .mv (.t 7), [], [], (some (2, 23, true)), none⟩ ::
     ⟨some 26, .iaddr 2 (.t 24) (.t 25), [], [], (some (2, 23, true)), none⟩ ::
     ⟨some 27, .faddr 1 (.t 26), [], [], (some (2, 23, true)), none⟩ ::
     ⟨some 28, .load none (.t 27), [], [], (some (2, 23, true)), none⟩ ::
     ⟨some 29, .bin .geq (.t 28) (.c (.d (.int .i64 1))), [], [], (some (2, 23, true)), (some ([2, 7, 23, 29], (some [])))⟩ ::
     g_check_kind.o1)
def g_check_kind.c0 : ACode :=
  .cond (.t 38) (.seq (.region [6] (some []) none
      [⟨some 39, .mv (.t 2), [], [], none, none⟩,
       ⟨some 40, .mv (.t 7), [], [], none, none⟩,
       ⟨some 41, .iaddr 2 (.t 39) (.t 40), [], [], none, none⟩,
       ⟨some 42, .faddr 1 (.t 41), [], [], none, none⟩,
       ⟨some 43, .load none (.t 42), [], [], none, none⟩,
       ⟨some 6, .mv (.t 43), [], [], none, none⟩])
   (.ret))
  (.skip)
def g_check_kind.c1 : ACode :=
  .seq (.region [6] (some []) none
     [⟨some 6, .mv (.c (.d (.int .i64 0))), [], [], none, none⟩])
  (.ret)
def g_check_kind.c2 : ACode :=
  .seq (.seq (.region [2, 7, 38] (some []) none
      (⟨some 21, .mv (.t 7), [], [], none, none⟩ ::
       ⟨some 22, .bin .geq (.t 21) (.c (.d (.int .i64 0))), [], [], none, none⟩ ::
       ⟨some 23, .mv (.t 22), [], [], none, (some ([2, 7, 23], (some [])))⟩ ::
       g_check_kind.o0))
   (g_check_kind.c0))
  (g_check_kind.c1)
def g_check_kind.o5 : List AOper :=
  [⟨some 59, .pick (.t 52) (.c (.d (.bool true))) (.t 58), [], [], none, none⟩]
def g_check_kind.o4 : List AOper :=
  (⟨some 53, .mv (.t 1), [], [], (some (6, 52, false)), none⟩ ::
     ⟨some 54, .faddr 3 (.t 3), [], [], (some (6, 52, false)), none⟩ ::
     ⟨some 55, .load none (.t 54), [], [], (some (6, 52, false)), none⟩ ::
     ⟨some 56, .iaddr 1 (.t 53) (.t 55), [], [], (some (6, 52, false)), none⟩ ::
     ⟨some 57, .load none (.t 56), [], [], (some (6, 52, false)), none⟩ ::
     ⟨some 58, .bin .eql (.t 57) (.c (.d (.int .i64 3))), [], [], (some (6, 52, false)), (some ([1, 3, 52, 58], (some [3])))⟩ ::
     g_check_kind.o5)
def g_check_kind.c3 : ACode :=
  .cond (.t 59) (.seq (.region [6] (some []) none
      [⟨some 60, .mv (.t 1), [], [], none, none⟩,
       ⟨some 61, .faddr 3 (.t 3), [], [], none, none⟩,
       ⟨some 62, .load none (.t 61), [], [], none, none⟩,
       ⟨some 63, .iaddr 1 (.t 60) (.t 62), [], [], none, none⟩,
       ⟨some 64, .load none (.t 63), [], [], none, none⟩,
       ⟨some 6, .mv (.t 64), [], [], none, none⟩])
   (.ret))
  (.skip)
def g_check_kind.c4 : ACode :=
  .seq (.region [6] (some []) none
     [⟨some 6, .mv (.c (.d (.int .i64 0))), [], [], none, none⟩])
  (.ret)
def g_check_kind.a6 : List AOper :=
  [⟨some 67, .mv (.t 1), [], [], none, none⟩,
     ⟨some 68, .faddr 3 (.t 3), [], [], none, none⟩,
     ⟨some 69, .load none (.t 68), [], [1], none, none⟩,
     ⟨some 70, .iaddr 1 (.t 67) (.t 69), [], [0, 2], none, none⟩,
     ⟨some 71, .load none (.t 70), [], [3], none, none⟩,
     ⟨some 72, .bin .eql (.t 71) (.c (.d (.int .i64 4))), [], [4], none, none⟩,
     ⟨some 73, .mv (.t 72), [], [5], none, none⟩,
     ⟨some 74, .mv (.t 1), [], [6], (some (6, 73, true)), none⟩,
     ⟨some 75, .faddr 4 (.t 3), [], [6], (some (6, 73, true)), none⟩,
     ⟨some 76, .load none (.t 75), [], [8, 6], (some (6, 73, true)), none⟩,
     ⟨some 77, .iaddr 1 (.t 74) (.t 76), [], [7, 9, 6], (some (6, 73, true)), none⟩,
     ⟨some 78, .load none (.t 77), [], [10, 6], (some (6, 73, true)), none⟩,
     ⟨some 79, .mv (.t 1), [], [6], (some (6, 73, true)), none⟩,
     ⟨some 80, .faddr 5 (.t 3), [], [6], (some (6, 73, true)), none⟩,
     ⟨some 81, .load none (.t 80), [], [13, 6], (some (6, 73, true)), none⟩,
     ⟨some 82, .iaddr 1 (.t 79) (.t 81), [], [12, 14, 6], (some (6, 73, true)), none⟩,
     ⟨some 83, .load none (.t 82), [], [15, 6], (some (6, 73, true)), none⟩,
     ⟨some 84, .bin .eql (.t 78) (.t 83), [], [11, 16, 6], (some (6, 73, true)), none⟩,
     ⟨some 85, .pick (.t 73) (.t 84) (.c (.d (.bool false))), [], [6, 17], none, none⟩]
def g_check_kind.i24 : List Nat := 18 :: []
def g_check_kind.i23 : List Nat := 17 :: g_check_kind.i24
def g_check_kind.i22 : List Nat := 16 :: g_check_kind.i23
def g_check_kind.i21 : List Nat := 15 :: g_check_kind.i22
def g_check_kind.i20 : List Nat := 14 :: g_check_kind.i21
def g_check_kind.i19 : List Nat := 13 :: g_check_kind.i20
def g_check_kind.i18 : List Nat := 12 :: g_check_kind.i19
def g_check_kind.i17 : List Nat := 11 :: g_check_kind.i18
def g_check_kind.i16 : List Nat := 10 :: g_check_kind.i17
def g_check_kind.i15 : List Nat := 9 :: g_check_kind.i16
def g_check_kind.i14 : List Nat := 8 :: g_check_kind.i15
def g_check_kind.i13 : List Nat := 7 :: g_check_kind.i14
def g_check_kind.i12 : List Nat := 6 :: g_check_kind.i13
def g_check_kind.i11 : List Nat := 5 :: g_check_kind.i12
def g_check_kind.i10 : List Nat := 4 :: g_check_kind.i11
def g_check_kind.i9 : List Nat := 3 :: g_check_kind.i10
def g_check_kind.i8 : List Nat := 2 :: g_check_kind.i9
def g_check_kind.i7 : List Nat := 1 :: g_check_kind.i8
def g_check_kind.c5 : ACode :=
  .cond (.t 85) (.seq (.region [6] (some []) none
      [⟨some 86, .mv (.t 1), [], [], none, none⟩,
       ⟨some 87, .faddr 4 (.t 3), [], [], none, none⟩,
       ⟨some 88, .load none (.t 87), [], [], none, none⟩,
       ⟨some 89, .iaddr 1 (.t 86) (.t 88), [], [], none, none⟩,
       ⟨some 90, .load none (.t 89), [], [], none, none⟩,
       ⟨some 6, .mv (.t 90), [], [], none, none⟩])
   (.ret))
  (.skip)
def g_check_kind.c6 : ACode :=
  .seq (.region [6] (some []) none
     [⟨some 6, .mv (.c (.d (.int .i64 0))), [], [], none, none⟩])
  (.ret)
def g_check_kind.c7 : ACode :=
  .seq (.region [6] (some []) (some ([0, 1, 2, 3, 4, 5, 6, 7, 8, 9, 10, 11, 12, 13], .done))
     [⟨some 91, .faddr 0 (.t 3), [], [], none, none⟩,
      ⟨some 92, .load none (.t 91), [], [0], none, none⟩,
      ⟨some 93, .mv (.t 1), [], [], none, none⟩,
      ⟨some 94, .faddr 3 (.t 3), [], [], none, none⟩,
      ⟨some 95, .load none (.t 94), [], [3], none, none⟩,
      ⟨some 96, .iaddr 1 (.t 93) (.t 95), [], [2, 4], none, none⟩,
      ⟨some 97, .load none (.t 96), [], [5], none, none⟩,
      ⟨some 98, .mv (.t 1), [], [], none, none⟩,
      ⟨some 99, .faddr 4 (.t 3), [], [], none, none⟩,
      ⟨some 100, .load none (.t 99), [], [8], none, none⟩,
      ⟨some 101, .iaddr 1 (.t 98) (.t 100), [], [7, 9], none, none⟩,
      ⟨some 102, .load none (.t 101), [], [10], none, none⟩,
      ⟨some 103, .call 206 [(.t 92), (.t 97), (.t 102)], [], [1, 6, 11], none, none⟩,
      ⟨some 6, .mv (.t 103), [], [12, 12, 0, 1, 2, 3, 4, 5, 6, 7, 8, 9, 10, 11, 12], none, none⟩])
  (.ret)
def g_check_kind.code : ACode :=
  .seq (.region [1, 2, 3] (some [3]) none
     [⟨some 3, .box 3 6 (.t 0), [], [], none, none⟩,
      ⟨some 6, .mv (.c (.d (.int .i64 0))), [], [], none, none⟩])
  (.seq (.seq (.region [1, 2, 3, 9] (some [3]) none
       [⟨some 8, .faddr 0 (.t 3), [], [], none, none⟩,
        ⟨some 9, .load none (.t 8), [], [], none, none⟩])
    (.block 0 [1, 3] (some [3]) (.seq (.region [1, 2, 3, 9, 10] (some [3]) none
         [⟨some 11, .bin .eql (.t 9) (.c (.d (.str [119, 104, 111, 108, 101]))), [], [], none, none⟩,
          ⟨some 10, .mv (.t 11), [], [], none, none⟩])
      (.cond (.t 10) (.seq (.region [6] (some []) none
           [⟨some 6, .mv (.c (.d (.int .i64 3))), [], [], none, none⟩])
        (.ret))
       (.seq (.region [1, 2, 3, 9, 12] (some [3]) none
           [⟨some 13, .bin .eql (.t 9) (.c (.d (.str [97, 109, 111, 117, 110, 116]))), [], [], none, none⟩,
            ⟨some 12, .mv (.t 13), [], [], none, none⟩])
        (.cond (.t 12) (.seq (.region [6] (some []) none
             [⟨some 6, .mv (.c (.d (.int .i64 1))), [], [], none, none⟩])
          (.ret))
         (.seq (.region [1, 2, 3, 9, 14] (some [3]) none
             [⟨some 15, .bin .eql (.t 9) (.c (.d (.str [114, 97, 116, 101]))), [], [], none, none⟩,
              ⟨some 14, .mv (.t 15), [], [], none, none⟩])
          (.cond (.t 14) (.seq (.region [6] (some []) none
               [⟨some 6, .mv (.c (.d (.int .i64 2))), [], [], none, none⟩])
            (.ret))
           (.seq (.region [1, 2, 3, 9, 16] (some [3]) none
               [⟨some 17, .bin .eql (.t 9) (.c (.d (.str [110, 97, 109, 101]))), [], [], none, none⟩,
                ⟨some 16, .mv (.t 17), [], [], none, none⟩])
            (.cond (.t 16) (.seq (.region [2, 7] (some []) none
                 [⟨some 18, .mv (.t 2), [], [], none, none⟩,
                  ⟨some 19, .fnv 204 [(.t 3)], [], [], none, none⟩,
                  ⟨some 20, .call 205 [(.t 18), (.t 19)], [], [], none, none⟩,
                  ⟨some 7, .mv (.t 20), [], [], none, none⟩])
              (g_check_kind.c2))
             (.seq (.region [1, 3, 9, 44] (some [3]) none
                 [⟨some 45, .bin .eql (.t 9) (.c (.d (.str [110, 101, 103]))), [], [], none, none⟩,
                  ⟨some 44, .mv (.t 45), [], [], none, none⟩])
              (.cond (.t 44) (.seq (.seq (.region [1, 3, 59] (some [3]) none
                    (⟨some 46, .mv (.t 1), [], [], none, none⟩ ::
                     ⟨some 47, .faddr 3 (.t 3), [], [], none, none⟩ ::
                     ⟨some 48, .load none (.t 47), [], [], none, none⟩ ::
                     ⟨some 49, .iaddr 1 (.t 46) (.t 48), [], [], none, none⟩ ::
                     ⟨some 50, .load none (.t 49), [], [], none, none⟩ ::
                     ⟨some 51, .bin .eql (.t 50) (.c (.d (.int .i64 1))), [], [], none, none⟩ ::
                     ⟨some 52, .mv (.t 51), [], [], none, (some ([1, 3, 52], (some [3])))⟩ ::
                     g_check_kind.o4))
                 (g_check_kind.c3))
                (g_check_kind.c4))
               (.seq (.region [1, 3, 65] (some [3]) none
                   [⟨some 66, .bin .eql (.t 9) (.c (.d (.str [105, 102]))), [], [], none, none⟩,
                    ⟨some 65, .mv (.t 66), [], [], none, none⟩])
                (.cond (.t 65) (.seq (.seq (.region [1, 3, 85] (some [3]) (some (0 :: g_check_kind.i7, .done)) g_check_kind.a6)
                   (g_check_kind.c5))
                  (g_check_kind.c6))
                 (.skip)))))))))))))))
   (g_check_kind.c7))
def g_check_kind : AFn := { N := 104, res := [.slot 6], own := [], frz := [], code := g_check_kind.code }
def g_slices_ContainsFunc_Bind.code : ACode :=
  .seq (.region [0, 1] none none
     [⟨some 4, .mv (.c (.d (.bool false))), [], [], none, none⟩])
  (.seq (.region [4] none none
      [⟨some 5, .mv (.t 0), [], [], none, none⟩,
       ⟨some 6, .mv (.t 1), [], [], none, none⟩,
       ⟨some 7, .call 205 [(.t 5), (.t 6)], [], [], none, none⟩,
       ⟨some 8, .bin .geq (.t 7) (.c (.d (.int .i64 0))), [], [], none, none⟩,
       ⟨some 4, .mv (.t 8), [], [], none, none⟩])
   (.ret))
def g_slices_ContainsFunc_Bind : AFn := { N := 9, res := [.slot 4], own := [], frz := [], code := g_slices_ContainsFunc_Bind.code }
def g_check_Kind_1.code : ACode :=
  .seq (.region [1, 2] none none
     [⟨some 2, .box 2 2 (.t 0), [], [], none, none⟩,
      ⟨some 3, .mv (.c (.d (.bool false))), [], [], none, none⟩])
  (.seq (.region [3] none none
      [⟨some 4, .faddr 0 (.t 2), [], [], none, none⟩,
       ⟨some 5, .load none (.t 4), [], [], none, none⟩,
       ⟨some 6, .faddr 1 (.t 1), [], [], none, none⟩,
       ⟨some 7, .load none (.t 6), [], [], none, none⟩,
       ⟨some 8, .bin .eql (.t 5) (.t 7), [], [], none, none⟩,
       ⟨some 3, .mv (.t 8), [], [], none, none⟩])
   (.ret))
def g_check_Kind_1 : AFn := { N := 9, res := [.slot 3], own := [], frz := [], code := g_check_Kind_1.code }
def g_lex_All.o1 : List AOper :=
  [⟨some 23, .pick (.t 18) (.c (.d (.bool true))) (.t 22), [], [], none, none⟩]
def g_lex_All.o0 : List AOper :=
  (⟨some 19, .mv (.t 0), [], [], (some (4, 18, false)), none⟩ ::
     ⟨some 20, .mv (.t 6), [], [], (some (4, 18, false)), none⟩ ::
     ⟨some 21, .idx (.t 19) (.t 20), [], [], (some (4, 18, false)), none⟩ ::
     ⟨some 22, .bin .eql (.t 21) (.c (.d (.int .u8 10))), [], [], (some (4, 18, false)), (some ([0, 5, 6, 18, 22], (some [55])))⟩ ::
     g_lex_All.o1)
def g_lex_All.c0 : ACode :=
  .cond (.t 23) (.seq (.region [0, 5, 6] (some [55]) none
      [⟨some 24, .mv (.t 6), [], [], none, none⟩,
       ⟨some 25, .bin .add (.t 24) (.c (.d (.int .i64 1))), [], [], none, none⟩,
       ⟨some 6, .mv (.t 25), [], [], none, none⟩])
   (.exit 1000000))
  (.skip)
def g_lex_All.c1 : ACode :=
  .seq (.region [0, 5, 6] (some [55]) none
     [⟨some 56, .mv (.t 6), [], [], none, none⟩,
      ⟨some 57, .mv (.t 8), [], [], none, none⟩,
      ⟨some 58, .bin .add (.t 56) (.t 57), [], [], none, none⟩,
      ⟨some 6, .mv (.t 58), [], [], none, none⟩])
  (.exit 1000000)
def g_lex_All.c2 : ACode :=
  .seq (.region [0, 5, 6, 8] (some [55]) none
     [⟨some 44, .mv (.t 5), [], [], none, none⟩,
      ⟨some 45, .mv (.t 7), [], [], none, none⟩,
      ⟨some 46, .mv (.t 0), [], [], none, none⟩,
      ⟨some 47, .mv (.t 6), [], [], none, none⟩,
      ⟨some 48, .mv (.t 6), [], [], none, none⟩,
      ⟨some 49, .mv (.t 8), [], [], none, none⟩,
      ⟨some 50, .bin .add (.t 48) (.t 49), [], [], none, none⟩,
      ⟨some 51, .slcS (.t 46) (some (.t 47)) (some (.t 50)), [], [], none, none⟩,
      ⟨some 52, .mv (.t 6), [], [], none, none⟩,
      ⟨some 53, .build [.d (.int .i64 0), .d (.str []), .d (.int .i64 0)] [(0, 1, (.t 45)), (1, 1, (.t 51)), (2, 1, (.t 52))], [], [], none, none⟩,
      ⟨some 54, .bsl none 3 [] 1 [(0, (.t 53))], [], [], none, none⟩,
      ⟨some 55, .app (some 55) 3 32 (.t 44) (.t 54), [], [], none, none⟩,
      ⟨some 5, .mv (.t 55), [], [], none, none⟩])
  (g_lex_All.c1)
def g_lex_All.c3 : ACode :=
  .seq (.seq (.region [0, 5, 6, 7, 8, 42] (some [55]) none
      [⟨some 41, .mv (.t 7), [], [], none, none⟩,
       ⟨some 42, .bin .eql (.t 41) (.c (.d (.int .i64 0))), [], [], none, none⟩])
   (.cond (.t 42) (.seq (.region [2, 3, 4] (some [55]) none
        [⟨some 43, .mv (.t 6), [], [], none, none⟩,
         ⟨some 2, .mv (.c (.cap0)), [], [], none, none⟩,
         ⟨some 3, .mv (.t 43), [], [], none, none⟩,
         ⟨some 4, .mv (.c (.d (.int .i64 2))), [], [], none, none⟩])
     (.ret))
    (.skip)))
  (g_lex_All.c2)
def g_lex_All.c4 : ACode :=
  .seq (.region [0, 5, 6, 7, 8] (some [55]) none
     [⟨some 36, .mv (.t 0), [], [], none, none⟩,
      ⟨some 37, .mv (.t 6), [], [], none, none⟩,
      ⟨some 38, .call 104 [(.t 36), (.t 37)], [], [], none, none⟩,
      ⟨some 35, .mv (.t 38), [], [], none, none⟩,
      ⟨some 39, .ext (.t 35) 0, [], [], none, none⟩,
      ⟨some 40, .ext (.t 35) 1, [], [], none, none⟩,
      ⟨some 7, .mv (.t 39), [], [], none, none⟩,
      ⟨some 8, .mv (.t 40), [], [], none, none⟩])
  (g_lex_All.c3)
def g_lex_All.c5 : ACode :=
  .seq (.seq (.region [0, 5, 6, 29] (some [55]) none
      [⟨some 26, .mv (.t 0), [], [], none, none⟩,
       ⟨some 27, .mv (.t 6), [], [], none, none⟩,
       ⟨some 28, .idx (.t 26) (.t 27), [], [], none, none⟩,
       ⟨some 29, .bin .eql (.t 28) (.c (.d (.int .u8 35))), [], [], none, none⟩])
   (.cond (.t 29) (.seq (.region [0, 5, 6] (some [55]) none
        [⟨some 30, .mv (.t 6), [], [], none, none⟩,
         ⟨some 31, .mv (.t 0), [], [], none, none⟩,
         ⟨some 32, .mv (.t 6), [], [], none, none⟩,
         ⟨some 33, .call 102 [(.t 31), (.t 32), (.f 103)], [], [], none, none⟩,
         ⟨some 34, .bin .add (.t 30) (.t 33), [], [], none, none⟩,
         ⟨some 6, .mv (.t 34), [], [], none, none⟩])
     (.exit 1000000))
    (.skip)))
  (g_lex_All.c4)
def g_lex_All.c6 : ACode :=
  .seq (.seq (.region [0, 5, 6, 23] (some [55]) none
      (⟨some 14, .mv (.t 0), [], [], none, none⟩ ::
       ⟨some 15, .mv (.t 6), [], [], none, none⟩ ::
       ⟨some 16, .idx (.t 14) (.t 15), [], [], none, none⟩ ::
       ⟨some 17, .bin .eql (.t 16) (.c (.d (.int .u8 32))), [], [], none, none⟩ ::
       ⟨some 18, .mv (.t 17), [], [], none, (some ([0, 5, 6, 18], (some [55])))⟩ ::
       g_lex_All.o0))
   (g_lex_All.c0))
  (g_lex_All.c5)
def g_lex_All.c7 : ACode :=
  .seq (.seq (.region [0, 5, 6, 12] (some [55]) none
      [⟨some 9, .mv (.t 6), [], [], none, none⟩,
       ⟨some 10, .mv (.t 0), [], [], none, none⟩,
       ⟨some 11, .lenS (.t 10), [], [], none, none⟩,
       ⟨some 12, .bin .geq (.t 9) (.t 11), [], [], none, none⟩])
   (.cond (.t 12) (.seq (.region [2, 3, 4] (some [55]) none
        [⟨some 13, .mv (.t 5), [], [], none, none⟩,
         ⟨some 2, .mv (.t 13), [], [], none, none⟩,
         ⟨some 3, .mv (.c (.d (.int .i64 0))), [], [], none, none⟩,
         ⟨some 4, .mv (.c (.d (.int .i64 0))), [], [], none, none⟩])
     (.ret))
    (.skip)))
  (g_lex_All.c6)
def g_lex_All.code : ACode :=
  .seq (.region [0] (some []) none
     [⟨some 2, .mv (.c (.cap0)), [], [], none, none⟩,
      ⟨some 3, .mv (.c (.d (.int .i64 0))), [], [], none, none⟩,
      ⟨some 4, .mv (.c (.d (.int .i64 0))), [], [], none, none⟩])
  (.scope 0 [0, 5, 6] (some [55]) (.seq (.region [0, 5] (some [55]) none
       [⟨some 5, .mv (.c (.cap0)), [], [], none, none⟩])
    (.seq (.region [0, 5, 6] (some [55]) none
        [⟨some 6, .mv (.c (.d (.int .i64 0))), [], [], none, none⟩,
         ⟨some 7, .mv (.c (.d (.int .i64 0))), [], [], none, none⟩,
         ⟨some 8, .mv (.c (.d (.int .i64 0))), [], [], none, none⟩])
     (.seq (.skip)
      (g_lex_All.c7))))
   (.seq .skip g_lex_All.c7))
def g_lex_All : AFn := { N := 59, res := [.slot 2, .slot 3, .slot 4], own := [], frz := [2], code := g_lex_All.code }
def g_tree_parser_rule.a0 : List AOper :=
  [⟨some 9, .mv (.t 0), [], [], none, none⟩,
     ⟨some 10, .nilc (.t 9), [], [0], none, none⟩,
     ⟨some 11, .faddr 3 (.t 10), [], [1], none, none⟩,
     ⟨some 12, .faddr 0 (.t 11), [], [2], none, none⟩,
     ⟨some 13, .load none (.t 12), [], [3], none, none⟩,
     ⟨some 14, .len (.t 13), [], [4], none, none⟩,
     ⟨some 15, .bin .geq (.t 14) (.c (.d (.int .i64 60))), [], [5], none, none⟩,
     ⟨some 16, .mv (.t 15), [], [6], none, none⟩,
     ⟨some 17, .faddr 0 (.t 2), [], [7], (some (7, 16, true)), none⟩,
     ⟨some 18, .load none (.t 17), [], [8, 7], (some (7, 16, true)), none⟩,
     ⟨some 19, .bin .eql (.t 18) (.c (.d (.int .i64 1))), [], [9, 7], (some (7, 16, true)), none⟩,
     ⟨some 20, .pick (.t 16) (.t 19) (.c (.d (.bool false))), [], [7, 10], none, none⟩,
     ⟨some 21, .mv (.t 20), [], [11, 7], none, none⟩,
     ⟨some 22, .call 157 [], [], [12, 12], (some (12, 21, true)), none⟩,
     ⟨some 23, .faddr 1 (.t 2), [], [12], (some (12, 21, true)), none⟩,
     ⟨some 24, .load none (.t 23), [], [14, 12], (some (12, 21, true)), none⟩,
     ⟨some 25, .call 155 [(.t 22), (.t 24)], [], [13, 15, 13, 12], (some (12, 21, true)), none⟩,
     ⟨some 26, .pick (.t 21) (.t 25) (.c (.d (.bool false))), [], [12, 16], none, none⟩]
def g_tree_parser_rule.t4 : Tr := .one 17 .done
def g_tree_parser_rule.t5 : Tr := .one 16 g_tree_parser_rule.t4
def g_tree_parser_rule.t6 : Tr := .one 15 g_tree_parser_rule.t5
def g_tree_parser_rule.t7 : Tr := .one 14 g_tree_parser_rule.t6
def g_tree_parser_rule.t8 : Tr := .one 13 g_tree_parser_rule.t5
def g_tree_parser_rule.t9 : Tr := .one 15 g_tree_parser_rule.t8
def g_tree_parser_rule.t10 : Tr := .two 13 g_tree_parser_rule.t6 g_tree_parser_rule.t9
def g_tree_parser_rule.t11 : Tr := .one 14 g_tree_parser_rule.t10
def g_tree_parser_rule.t12 : Tr := .two 13 g_tree_parser_rule.t7 g_tree_parser_rule.t11
def g_tree_parser_rule.t13 : Tr := .one 12 g_tree_parser_rule.t12
def g_tree_parser_rule.t14 : Tr := .one 11 g_tree_parser_rule.t13
def g_tree_parser_rule.t15 : Tr := .one 10 g_tree_parser_rule.t14
def g_tree_parser_rule.t16 : Tr := .one 9 g_tree_parser_rule.t15
def g_tree_parser_rule.t17 : Tr := .one 8 g_tree_parser_rule.t16
def g_tree_parser_rule.t18 : Tr := .one 7 g_tree_parser_rule.t17
def g_tree_parser_rule.t19 : Tr := .one 6 g_tree_parser_rule.t18
def g_tree_parser_rule.t20 : Tr := .one 5 g_tree_parser_rule.t19
def g_tree_parser_rule.t21 : Tr := .one 4 g_tree_parser_rule.t20
def g_tree_parser_rule.i3 : List Nat := 3 :: []
def g_tree_parser_rule.i2 : List Nat := 2 :: g_tree_parser_rule.i3
def g_tree_parser_rule.i1 : List Nat := 1 :: g_tree_parser_rule.i2
def g_tree_parser_rule.c0 : ACode :=
  .cond (.t 26) (.seq (.region [] none none
      [⟨some 27, .mv (.t 0), [], [], none, none⟩,
       ⟨some 28, .call 218 [(.t 27), (.c (.d (.int .i64 9)))], [], [], none, none⟩])
   (.ret))
  (.skip)
def g_tree_parser_rule.o23 : List AOper :=
  [⟨some 49, .pick (.t 44) (.c (.d (.bool true))) (.t 48), [], [], none, none⟩]
def g_tree_parser_rule.o22 : List AOper :=
  (⟨some 45, .faddr 1 (.t 5), [], [], (some (3, 44, false)), none⟩ ::
     ⟨some 46, .load none (.t 45), [], [], (some (3, 44, false)), none⟩ ::
     ⟨some 47, .call 158 [(.t 46)], [], [], (some (3, 44, false)), none⟩ ::
     ⟨some 48, .un .not (.t 47), [], [], (some (3, 44, false)), (some ([0, 3, 5, 44, 48], none))⟩ ::
     g_tree_parser_rule.o23)
def g_tree_parser_rule.c1 : ACode :=
  .cond (.t 49) (.seq (.region [] none none
      [⟨some 50, .mv (.t 0), [], [], none, none⟩,
       ⟨some 51, .call 218 [(.t 50), (.c (.d (.int .i64 2)))], [], [], none, none⟩])
   (.ret))
  (.skip)
def g_tree_parser_rule.a24 : List AOper :=
  [⟨some 65, .mv (.t 0), [], [], none, none⟩,
     ⟨some 66, .mv (.t 0), [], [], none, none⟩,
     ⟨some 67, .nilc (.t 66), [], [1], none, none⟩,
     ⟨some 68, .faddr 3 (.t 67), [], [2], none, none⟩,
     ⟨some 69, .faddr 0 (.t 68), [], [3], none, none⟩,
     ⟨some 70, .load none (.t 69), [], [4], none, none⟩,
     ⟨some 71, .mv (.t 3), [], [], none, none⟩,
     ⟨some 72, .faddr 1 (.t 5), [], [], none, none⟩,
     ⟨some 73, .load none (.t 72), [], [7], none, none⟩,
     ⟨some 74, .mv (.t 6), [], [], none, none⟩,
     ⟨some 75, .build [.d (.str []), .d (.str []), .d (.int .i64 0)] [(0, 1, (.t 71)), (1, 1, (.t 73)), (2, 1, (.t 74))], [], [6, 8, 9], none, none⟩,
     ⟨some 76, .bsl none 3 [] 1 [(0, (.t 75))], [], [10], none, none⟩,
     ⟨some 77, .app (some 77) 3 40 (.t 70) (.t 76), [], [5, 11], none, (some ([], none))⟩,
     ⟨some 78, .nilc (.t 65), [], [0, 0, 1, 2, 3, 4, 5, 6, 7, 8, 9, 10, 11, 12], none, none⟩,
     ⟨some 79, .faddr 3 (.t 78), [], [13, 0, 1, 2, 3, 4, 5, 6, 7, 8, 9, 10, 11, 12], none, none⟩,
     ⟨some 80, .faddr 0 (.t 79), [], [14, 0, 1, 2, 3, 4, 5, 6, 7, 8, 9, 10, 11, 12], none, none⟩,
     ⟨none, .store 1 (.t 80) (.t 77), [], [15, 12, 12, 0, 1, 2, 3, 4, 5, 6, 7, 8, 9, 10, 11, 12], none, none⟩]
def g_tree_parser_rule.t32 : Tr := .one 16 .done
def g_tree_parser_rule.t33 : Tr := .one 15 g_tree_parser_rule.t32
def g_tree_parser_rule.t34 : Tr := .one 14 g_tree_parser_rule.t33
def g_tree_parser_rule.t35 : Tr := .one 13 g_tree_parser_rule.t34
def g_tree_parser_rule.t36 : Tr := .one 12 g_tree_parser_rule.t35
def g_tree_parser_rule.t37 : Tr := .one 11 g_tree_parser_rule.t36
def g_tree_parser_rule.t38 : Tr := .one 10 g_tree_parser_rule.t37
def g_tree_parser_rule.t39 : Tr := .one 8 g_tree_parser_rule.t38
def g_tree_parser_rule.t40 : Tr := .one 5 g_tree_parser_rule.t36
def g_tree_parser_rule.t41 : Tr := .one 11 g_tree_parser_rule.t40
def g_tree_parser_rule.t42 : Tr := .two 5 g_tree_parser_rule.t37 g_tree_parser_rule.t41
def g_tree_parser_rule.t43 : Tr := .one 10 g_tree_parser_rule.t42
def g_tree_parser_rule.t44 : Tr := .two 5 g_tree_parser_rule.t38 g_tree_parser_rule.t43
def g_tree_parser_rule.t45 : Tr := .one 8 g_tree_parser_rule.t44
def g_tree_parser_rule.t46 : Tr := .two 5 g_tree_parser_rule.t39 g_tree_parser_rule.t45
def g_tree_parser_rule.i31 : List Nat := 9 :: []
def g_tree_parser_rule.i30 : List Nat := 7 :: g_tree_parser_rule.i31
def g_tree_parser_rule.i29 : List Nat := 6 :: g_tree_parser_rule.i30
def g_tree_parser_rule.i28 : List Nat := 4 :: g_tree_parser_rule.i29
def g_tree_parser_rule.i27 : List Nat := 3 :: g_tree_parser_rule.i28
def g_tree_parser_rule.i26 : List Nat := 2 :: g_tree_parser_rule.i27
def g_tree_parser_rule.i25 : List Nat := 1 :: g_tree_parser_rule.i26
def g_tree_parser_rule.c2 : ACode :=
  .seq (.region [0, 3, 5] none none
     [⟨some 59, .mv (.t 0), [], [], none, none⟩,
      ⟨some 60, .call 220 [(.t 59), (.c (.d (.str [61])))], [], [], none, none⟩])
  (.seq (.region [0, 3, 5, 6] none none
      [⟨some 61, .mv (.t 0), [], [], none, none⟩,
       ⟨some 62, .call 221 [(.t 61), (.c (.d (.int .i64 1)))], [], [], none, none⟩,
       ⟨some 6, .mv (.t 62), [], [], none, none⟩])
   (.seq (.region [0, 3, 5, 6] none none
       [⟨some 63, .mv (.t 0), [], [], none, none⟩,
        ⟨some 64, .call 220 [(.t 63), (.c (.d (.str [59])))], [], [], none, none⟩])
    (.region [] none (some (0 :: g_tree_parser_rule.i25, g_tree_parser_rule.t46)) g_tree_parser_rule.a24)))
def g_tree_parser_rule.c3 : ACode :=
  .seq (.region [0, 3, 5] none none
     [⟨some 52, .mv (.t 0), [], [], none, none⟩,
      ⟨some 53, .nilc (.t 52), [], [], none, none⟩,
      ⟨some 54, .faddr 2 (.t 53), [], [], none, none⟩,
      ⟨some 55, .load none (.t 54), [], [], none, none⟩,
      ⟨some 56, .bin .add (.t 55) (.c (.d (.int .i64 1))), [], [], none, none⟩,
      ⟨some 57, .nilc (.t 52), [], [], none, none⟩,
      ⟨some 58, .faddr 2 (.t 57), [], [], none, none⟩,
      ⟨none, .store 1 (.t 58) (.t 56), [], [], none, none⟩])
  (g_tree_parser_rule.c2)
def g_tree_parser_rule.c4 : ACode :=
  .seq (.seq (.region [0, 3, 5, 49] none none
      (⟨some 41, .faddr 0 (.t 5), [], [], none, none⟩ ::
       ⟨some 42, .load none (.t 41), [], [], none, none⟩ ::
       ⟨some 43, .bin .neq (.t 42) (.c (.d (.int .i64 1))), [], [], none, none⟩ ::
       ⟨some 44, .mv (.t 43), [], [], none, (some ([0, 3, 5, 44], none))⟩ ::
       g_tree_parser_rule.o22))
   (g_tree_parser_rule.c1))
  (g_tree_parser_rule.c3)
def g_tree_parser_rule.c5 : ACode :=
  .seq (.region [0, 3, 5] none none
     [⟨some 39, .mv (.t 0), [], [], none, none⟩,
      ⟨some 40, .call 217 [(.t 39)], [], [], none, none⟩,
      ⟨some 5, .alloc 5 [.d (.int .i64 0), .d (.str []), .d (.int .i64 0)], [], [], none, none⟩,
      ⟨none, .store 3 (.t 5) (.t 40), [], [], none, none⟩])
  (g_tree_parser_rule.c4)
def g_tree_parser_rule.c6 : ACode :=
  .seq (.seq (.region [0, 3, 36] none none
      [⟨some 35, .mv (.t 4), [], [], none, none⟩,
       ⟨some 36, .un .not (.t 35), [], [], none, none⟩])
   (.cond (.t 36) (.seq (.region [] none none
        [⟨some 37, .mv (.t 0), [], [], none, none⟩,
         ⟨some 38, .call 218 [(.t 37), (.c (.d (.int .i64 2)))], [], [], none, none⟩])
     (.ret))
    (.skip)))
  (g_tree_parser_rule.c5)
def g_tree_parser_rule.c7 : ACode :=
  .seq (.region [0, 3, 4] none none
     [⟨some 30, .mv (.t 0), [], [], none, none⟩,
      ⟨some 31, .call 157 [], [], [], none, none⟩,
      ⟨some 32, .call 219 [(.t 30), (.t 31)], [], [], none, none⟩,
      ⟨some 29, .mv (.t 32), [], [], none, none⟩,
      ⟨some 33, .ext (.t 29) 0, [], [], none, none⟩,
      ⟨some 34, .ext (.t 29) 1, [], [], none, none⟩,
      ⟨some 3, .mv (.t 33), [], [], none, none⟩,
      ⟨some 4, .mv (.t 34), [], [], none, none⟩])
  (g_tree_parser_rule.c6)
def g_tree_parser_rule.c8 : ACode :=
  .seq (.seq (.region [0, 26] none (some (0 :: g_tree_parser_rule.i1, g_tree_parser_rule.t21)) g_tree_parser_rule.a0)
   (g_tree_parser_rule.c0))
  (g_tree_parser_rule.c7)
def g_tree_parser_rule.code : ACode :=
  .seq (.region [0, 2] none none
     [⟨some 7, .mv (.t 0), [], [], none, none⟩,
      ⟨some 8, .call 217 [(.t 7)], [], [], none, none⟩,
      ⟨some 2, .alloc 2 [.d (.int .i64 0), .d (.str []), .d (.int .i64 0)], [], [], none, none⟩,
      ⟨none, .store 3 (.t 2) (.t 8), [], [], none, none⟩])
  (g_tree_parser_rule.c8)
def g_tree_parser_rule : AFn := { N := 81, res := [], own := [], frz := [], code := g_tree_parser_rule.code }
def g_check_parts.c0 : ACode :=
  .cond (.t 5) (.seq (.region [2] (some []) none
      [⟨some 2, .mv (.c (.cap0)), [], [], none, none⟩])
   (.ret))
  (.seq (.region [1, 4, 10] (some [1]) none
      [⟨some 11, .bin .eql (.t 4) (.c (.d (.str [110, 101, 103]))), [], [], none, none⟩,
       ⟨some 10, .mv (.t 11), [], [], none, none⟩])
   (.cond (.t 10) (.seq (.region [2] (some []) none
        [⟨some 12, .faddr 3 (.t 1), [], [], none, none⟩,
         ⟨some 13, .load none (.t 12), [], [], none, none⟩,
         ⟨some 14, .bsl none 1 [] 1 [(0, (.t 13))], [], [], none, none⟩,
         ⟨some 2, .mv (.t 14), [], [], none, none⟩])
     (.ret))
    (.seq (.region [1, 15] (some [1]) none
        [⟨some 16, .bin .eql (.t 4) (.c (.d (.str [105, 102]))), [], [], none, none⟩,
         ⟨some 15, .mv (.t 16), [], [], none, none⟩])
     (.cond (.t 15) (.seq (.region [2] (some []) none
          [⟨some 17, .faddr 3 (.t 1), [], [], none, none⟩,
           ⟨some 18, .load none (.t 17), [], [], none, none⟩,
           ⟨some 19, .faddr 4 (.t 1), [], [], none, none⟩,
           ⟨some 20, .load none (.t 19), [], [], none, none⟩,
           ⟨some 21, .faddr 5 (.t 1), [], [], none, none⟩,
           ⟨some 22, .load none (.t 21), [], [], none, none⟩,
           ⟨some 23, .bsl none 1 [] 3 [(0, (.t 18)), (1, (.t 20)), (2, (.t 22))], [], [], none, none⟩,
           ⟨some 2, .mv (.t 23), [], [], none, none⟩])
       (.ret))
      (.skip)))))
def g_check_parts.c1 : ACode :=
  .seq (.region [2] (some []) none
     [⟨some 24, .faddr 3 (.t 1), [], [], none, none⟩,
      ⟨some 25, .load none (.t 24), [], [], none, none⟩,
      ⟨some 26, .faddr 4 (.t 1), [], [], none, none⟩,
      ⟨some 27, .load none (.t 26), [], [], none, none⟩,
      ⟨some 28, .bsl none 1 [] 2 [(0, (.t 25)), (1, (.t 27))], [], [], none, none⟩,
      ⟨some 2, .mv (.t 28), [], [], none, none⟩])
  (.ret)
def g_check_parts.code : ACode :=
  .seq (.region [1] (some [1]) none
     [⟨some 1, .box 1 6 (.t 0), [], [], none, none⟩,
      ⟨some 2, .mv (.c (.cap0)), [], [], none, none⟩])
  (.seq (.seq (.region [1, 4] (some [1]) none
       [⟨some 3, .faddr 0 (.t 1), [], [], none, none⟩,
        ⟨some 4, .load none (.t 3), [], [], none, none⟩])
    (.block 0 [1] (some [1]) (.seq (.seq (.region [1, 4, 5] (some [1]) none
          [⟨some 6, .bin .eql (.t 4) (.c (.d (.str [119, 104, 111, 108, 101]))), [], [], none, none⟩,
           ⟨some 5, .mv (.t 6), [], [], none, none⟩])
       (.cond (.t 5) (.skip)
        (.seq (.region [1, 4, 5] (some [1]) none
            [⟨some 7, .bin .eql (.t 4) (.c (.d (.str [97, 109, 111, 117, 110, 116]))), [], [], none, none⟩,
             ⟨some 5, .mv (.t 7), [], [], none, none⟩])
         (.cond (.t 5) (.skip)
          (.seq (.region [1, 4, 5] (some [1]) none
              [⟨some 8, .bin .eql (.t 4) (.c (.d (.str [114, 97, 116, 101]))), [], [], none, none⟩,
               ⟨some 5, .mv (.t 8), [], [], none, none⟩])
           (.cond (.t 5) (.skip)
            (.region [1, 4, 5] (some [1]) none
               [⟨some 9, .bin .eql (.t 4) (.c (.d (.str [110, 97, 109, 101]))), [], [], none, none⟩,
                ⟨some 5, .mv (.t 9), [], [], none, none⟩])))))))
      (g_check_parts.c0))))
   (g_check_parts.c1))
def g_check_parts : AFn := { N := 29, res := [.slot 2], own := [], frz := [], code := g_check_parts.code }
def g_slices_IndexFunc_Bind.c0 : ACode :=
  .region [0, 1, 7, 8] none none
    [⟨some 18, .bin .add (.t 8) (.c (.d (.int .i64 1))), [], [], none, none⟩,
     ⟨some 8, .mv (.t 18), [], [], none, none⟩]
def g_slices_IndexFunc_Bind.l0 : ACode :=
  .loop [0, 1, 7, 8] none (.seq (.region [0, 1, 7, 8, 9] none none
     [⟨some 9, .bin .lss (.t 8) (.t 7), [], [], none, none⟩])
  (.seq (.cond (.t 9) (.skip)
    (.exit 0))
   (.seq (.block 1 [0, 1, 7, 8] none (.seq (.region [0, 1, 5, 7, 8] none none
         [⟨some 10, .mv (.t 8), [], [], none, none⟩,
          ⟨some 5, .mv (.t 10), [], [], none, none⟩])
      (.seq (.region [0, 1, 5, 7, 8, 16] none none
          [⟨some 11, .mv (.t 1), [], [], none, none⟩,
           ⟨some 12, .mv (.t 0), [], [], none, none⟩,
           ⟨some 13, .mv (.t 5), [], [], none, none⟩,
           ⟨some 14, .iaddr 2 (.t 12) (.t 13), [], [], none, none⟩,
           ⟨some 15, .load (some 2) (.t 14), [], [], none, none⟩,
           ⟨some 16, .callv (.t 11) [(.t 15)], [], [], none, none⟩])
       (.cond (.t 16) (.seq (.region [4] none none
            [⟨some 17, .mv (.t 5), [], [], none, none⟩,
             ⟨some 4, .mv (.t 17), [], [], none, none⟩])
         (.ret))
        (.skip)))))
    (g_slices_IndexFunc_Bind.c0))))
def g_slices_IndexFunc_Bind.c1 : ACode :=
  .seq (.region [4] none none
     [⟨some 4, .mv (.c (.d (.int .i64 (-1)))), [], [], none, none⟩])
  (.ret)
def g_slices_IndexFunc_Bind.code : ACode :=
  .seq (.region [0, 1] none none
     [⟨some 4, .mv (.c (.d (.int .i64 0))), [], [], none, none⟩])
  (.seq (.seq (.region [0, 1, 7, 8] none none
       [⟨some 6, .mv (.t 0), [], [], none, none⟩,
        ⟨some 7, .len (.t 6), [], [], none, none⟩,
        ⟨some 8, .mv (.c (.d (.int .i64 0))), [], [], none, none⟩])
    (.block 0 [] none (g_slices_IndexFunc_Bind.l0)))
   (g_slices_IndexFunc_Bind.c1))
def g_slices_IndexFunc_Bind : AFn := { N := 19, res := [.slot 4], own := [], frz := [], code := g_slices_IndexFunc_Bind.code }
def g_check_kind_1.code : ACode :=
  .seq (.region [1, 2] none none
     [⟨some 2, .box 2 2 (.t 0), [], [], none, none⟩,
      ⟨some 3, .mv (.c (.d (.bool false))), [], [], none, none⟩])
  (.seq (.region [3] none none
      [⟨some 4, .faddr 0 (.t 2), [], [], none, none⟩,
       ⟨some 5, .load none (.t 4), [], [], none, none⟩,
       ⟨some 6, .faddr 1 (.t 1), [], [], none, none⟩,
       ⟨some 7, .load none (.t 6), [], [], none, none⟩,
       ⟨some 8, .bin .eql (.t 5) (.t 7), [], [], none, none⟩,
       ⟨some 3, .mv (.t 8), [], [], none, none⟩])
   (.ret))
def g_check_kind_1 : AFn := { N := 9, res := [.slot 3], own := [], frz := [], code := g_check_kind_1.code }
def g_check_two.o1 : List AOper :=
  [⟨some 14, .pick (.t 11) (.t 13) (.c (.d (.bool false))), [], [], none, none⟩,
     ⟨some 7, .mv (.t 14), [], [], none, none⟩]
def g_check_two.o0 : List AOper :=
  (⟨some 12, .mv (.t 1), [], [], (some (3, 11, true)), none⟩ ::
     ⟨some 13, .bin .neq (.t 12) (.c (.d (.int .i64 0))), [], [], (some (3, 11, true)), (some ([0, 1, 2, 11, 13], (some [])))⟩ ::
     g_check_two.o1)
def g_check_two.o5 : List AOper :=
  [⟨some 27, .pick (.t 20) (.t 26) (.c (.d (.bool false))), [], [], none, none⟩]
def g_check_two.o4 : List AOper :=
  (⟨some 26, .pick (.t 23) (.c (.d (.bool true))) (.t 25), [], [], (some (1, 20, true)), (some ([1, 20, 26], (some [])))⟩ ::
     g_check_two.o5)
def g_check_two.o3 : List AOper :=
  (⟨some 24, .mv (.t 1), [], [], (some (4, 23, false)), none⟩ ::
     ⟨some 25, .bin .eql (.t 24) (.c (.d (.int .i64 3))), [], [], (some (4, 23, false)), (some ([1, 20, 23, 25], (some [])))⟩ ::
     g_check_two.o4)
def g_check_two.o2 : List AOper :=
  (⟨some 21, .mv (.t 1), [], [], (some (1, 20, true)), none⟩ ::
     ⟨some 22, .bin .eql (.t 21) (.c (.d (.int .i64 1))), [], [], (some (1, 20, true)), none⟩ ::
     ⟨some 23, .mv (.t 22), [], [], (some (1, 20, true)), (some ([1, 20, 23], (some [])))⟩ ::
     g_check_two.o3)
def g_check_two.c0 : ACode :=
  .cond (.t 27) (.seq (.region [6] (some []) none
      [⟨some 28, .mv (.t 1), [], [], none, none⟩,
       ⟨some 6, .mv (.t 28), [], [], none, none⟩])
   (.ret))
  (.skip)
def g_check_two.o7 : List AOper :=
  [⟨some 41, .pick (.t 38) (.t 40) (.c (.d (.bool false))), [], [], none, none⟩]
def g_check_two.o6 : List AOper :=
  (⟨some 39, .mv (.t 1), [], [], (some (1, 38, true)), none⟩ ::
     ⟨some 40, .bin .neq (.t 39) (.c (.d (.int .i64 4))), [], [], (some (1, 38, true)), (some ([1, 38, 40], (some [])))⟩ ::
     g_check_two.o7)
def g_check_two.c1 : ACode :=
  .cond (.t 41) (.seq (.region [6] (some []) none
      [⟨some 42, .mv (.t 1), [], [], none, none⟩,
       ⟨some 6, .mv (.t 42), [], [], none, none⟩])
   (.ret))
  (.skip)
def g_check_two.o9 : List AOper :=
  [⟨some 56, .pick (.t 53) (.t 55) (.c (.d (.bool false))), [], [], none, none⟩]
def g_check_two.o8 : List AOper :=
  (⟨some 54, .mv (.t 1), [], [], (some (1, 53, true)), none⟩ ::
     ⟨some 55, .bin .neq (.t 54) (.c (.d (.int .i64 4))), [], [], (some (1, 53, true)), (some ([53, 55], (some [])))⟩ ::
     g_check_two.o9)
def g_check_two.c2 : ACode :=
  .cond (.t 56) (.seq (.region [6] (some []) none
      [⟨some 6, .mv (.c (.d (.int .i64 4))), [], [], none, none⟩])
   (.ret))
  (.skip)
def g_check_two.c3 : ACode :=
  .cond (.t 47) (.seq (.region [56] (some []) none
      (⟨some 52, .mv (.t 7), [], [], none, none⟩ ::
       ⟨some 53, .mv (.t 52), [], [], none, (some ([1, 53], (some [])))⟩ ::
       g_check_two.o8))
   (g_check_two.c2))
  (.skip)
def g_check_two.c4 : ACode :=
  .cond (.t 43) (.seq (.region [46] (some []) none
      [⟨some 46, .mv (.t 7), [], [], none, none⟩])
   (.cond (.t 46) (.seq (.region [6] (some []) none
        [⟨some 6, .mv (.c (.d (.int .i64 4))), [], [], none, none⟩])
     (.ret))
    (.skip)))
  (.seq (.seq (.region [1, 7, 15, 47] (some []) none
       [⟨some 48, .bin .eql (.t 15) (.c (.d (.str [60]))), [], [], none, none⟩,
        ⟨some 47, .mv (.t 48), [], [], none, none⟩])
    (.cond (.t 47) (.skip)
     (.seq (.region [1, 7, 15, 47] (some []) none
         [⟨some 49, .bin .eql (.t 15) (.c (.d (.str [60, 61]))), [], [], none, none⟩,
          ⟨some 47, .mv (.t 49), [], [], none, none⟩])
      (.cond (.t 47) (.skip)
       (.seq (.region [1, 7, 15, 47] (some []) none
           [⟨some 50, .bin .eql (.t 15) (.c (.d (.str [62]))), [], [], none, none⟩,
            ⟨some 47, .mv (.t 50), [], [], none, none⟩])
        (.cond (.t 47) (.skip)
         (.region [1, 7, 47] (some []) none
            [⟨some 51, .bin .eql (.t 15) (.c (.d (.str [62, 61]))), [], [], none, none⟩,
             ⟨some 47, .mv (.t 51), [], [], none, none⟩])))))))
   (g_check_two.c3))
def g_check_two.c5 : ACode :=
  .cond (.t 34) (.seq (.region [1, 41] (some []) none
      (⟨some 37, .mv (.t 7), [], [], none, none⟩ ::
       ⟨some 38, .mv (.t 37), [], [], none, (some ([1, 38], (some [])))⟩ ::
       g_check_two.o6))
   (g_check_two.c1))
  (.seq (.seq (.region [1, 7, 15, 43] (some []) none
       [⟨some 44, .bin .eql (.t 15) (.c (.d (.str [61]))), [], [], none, none⟩,
        ⟨some 43, .mv (.t 44), [], [], none, none⟩])
    (.cond (.t 43) (.skip)
     (.region [1, 7, 15, 43] (some []) none
        [⟨some 45, .bin .eql (.t 15) (.c (.d (.str [60, 62]))), [], [], none, none⟩,
         ⟨some 43, .mv (.t 45), [], [], none, none⟩])))
   (g_check_two.c4))
def g_check_two.c6 : ACode :=
  .cond (.t 16) (.seq (.region [1, 27] (some []) none
      (⟨some 19, .mv (.t 7), [], [], none, none⟩ ::
       ⟨some 20, .mv (.t 19), [], [], none, (some ([1, 20], (some [])))⟩ ::
       g_check_two.o2))
   (g_check_two.c0))
  (.seq (.region [1, 2, 7, 15, 29] (some []) none
      [⟨some 30, .bin .eql (.t 15) (.c (.d (.str [42]))), [], [], none, none⟩,
       ⟨some 29, .mv (.t 30), [], [], none, none⟩])
   (.cond (.t 29) (.seq (.region [6] (some []) none
        [⟨some 31, .mv (.t 1), [], [], none, none⟩,
         ⟨some 32, .mv (.t 2), [], [], none, none⟩,
         ⟨some 33, .call 213 [(.t 31), (.t 32)], [], [], none, none⟩,
         ⟨some 6, .mv (.t 33), [], [], none, none⟩])
     (.ret))
    (.seq (.seq (.region [1, 7, 15, 34] (some []) none
         [⟨some 35, .bin .eql (.t 15) (.c (.d (.str [109, 105, 110]))), [], [], none, none⟩,
          ⟨some 34, .mv (.t 35), [], [], none, none⟩])
      (.cond (.t 34) (.skip)
       (.region [1, 7, 15, 34] (some []) none
          [⟨some 36, .bin .eql (.t 15) (.c (.d (.str [109, 97, 120]))), [], [], none, none⟩,
           ⟨some 34, .mv (.t 36), [], [], none, none⟩])))
     (g_check_two.c5))))
def g_check_two.c7 : ACode :=
  .seq (.region [6] (some []) none
     [⟨some 6, .mv (.c (.d (.int .i64 0))), [], [], none, none⟩])
  (.ret)
def g_check_two.c8 : ACode :=
  .seq (.seq (.region [1, 2, 7, 15] (some []) none
      [⟨some 15, .mv (.t 0), [], [], none, none⟩])
   (.block 0 [] (some []) (.seq (.seq (.region [1, 2, 7, 15, 16] (some []) none
         [⟨some 17, .bin .eql (.t 15) (.c (.d (.str [43]))), [], [], none, none⟩,
          ⟨some 16, .mv (.t 17), [], [], none, none⟩])
      (.cond (.t 16) (.skip)
       (.region [1, 2, 7, 15, 16] (some []) none
          [⟨some 18, .bin .eql (.t 15) (.c (.d (.str [45]))), [], [], none, none⟩,
           ⟨some 16, .mv (.t 18), [], [], none, none⟩])))
     (g_check_two.c6))))
  (g_check_two.c7)
def g_check_two.code : ACode :=
  .seq (.region [0, 1, 2] (some []) none
     [⟨some 6, .mv (.c (.d (.int .i64 0))), [], [], none, none⟩])
  (.seq (.region [0, 1, 2, 7] (some []) none
      (⟨some 8, .mv (.t 1), [], [], none, none⟩ ::
       ⟨some 9, .mv (.t 2), [], [], none, none⟩ ::
       ⟨some 10, .bin .eql (.t 8) (.t 9), [], [], none, none⟩ ::
       ⟨some 11, .mv (.t 10), [], [], none, (some ([0, 1, 2, 11], (some [])))⟩ ::
       g_check_two.o0))
   (g_check_two.c8))
def g_check_two : AFn := { N := 57, res := [.slot 6], own := [], frz := [], code := g_check_two.code }
def g_lex_run.o1 : List AOper :=
  [⟨some 19, .pick (.t 13) (.t 18) (.c (.d (.bool false))), [], [], none, none⟩]
def g_lex_run.o0 : List AOper :=
  (⟨some 14, .mv (.t 2), [], [], (some (4, 13, true)), none⟩ ::
     ⟨some 15, .mv (.t 0), [], [], (some (4, 13, true)), none⟩ ::
     ⟨some 16, .mv (.t 7), [], [], (some (4, 13, true)), none⟩ ::
     ⟨some 17, .idx (.t 15) (.t 16), [], [], (some (4, 13, true)), none⟩ ::
     ⟨some 18, .callv (.t 14) [(.t 17)], [], [], (some (4, 13, true)), (some ([0, 1, 2, 7, 13, 18], none))⟩ ::
     g_lex_run.o1)
def g_lex_run.c0 : ACode :=
  .cond (.t 19) (.skip)
  (.exit 0)
def g_lex_run.c1 : ACode :=
  .block 1 [0, 1, 2, 7] none (.region [0, 1, 2, 7] none none
     [⟨some 20, .mv (.t 7), [], [], none, none⟩,
      ⟨some 21, .bin .add (.t 20) (.c (.d (.int .i64 1))), [], [], none, none⟩,
      ⟨some 7, .mv (.t 21), [], [], none, none⟩])
def g_lex_run.l0 : ACode :=
  .loop [0, 1, 2, 7] none (.seq (.seq (.region [0, 1, 2, 7, 19] none none
      (⟨some 9, .mv (.t 7), [], [], none, none⟩ ::
       ⟨some 10, .mv (.t 0), [], [], none, none⟩ ::
       ⟨some 11, .lenS (.t 10), [], [], none, none⟩ ::
       ⟨some 12, .bin .lss (.t 9) (.t 11), [], [], none, none⟩ ::
       ⟨some 13, .mv (.t 12), [], [], none, (some ([0, 1, 2, 7, 13], none))⟩ ::
       g_lex_run.o0))
   (g_lex_run.c0))
  (g_lex_run.c1))
def g_lex_run.c2 : ACode :=
  .seq (.region [6] none none
     [⟨some 22, .mv (.t 7), [], [], none, none⟩,
      ⟨some 23, .mv (.t 1), [], [], none, none⟩,
      ⟨some 24, .bin .sub (.t 22) (.t 23), [], [], none, none⟩,
      ⟨some 6, .mv (.t 24), [], [], none, none⟩])
  (.ret)
def g_lex_run.code : ACode :=
  .seq (.region [0, 1, 2] none none
     [⟨some 6, .mv (.c (.d (.int .i64 0))), [], [], none, none⟩])
  (.seq (.region [0, 1, 2, 7] none none
      [⟨some 8, .mv (.t 1), [], [], none, none⟩,
       ⟨some 7, .mv (.t 8), [], [], none, none⟩])
   (.seq (.block 0 [1, 7] none (g_lex_run.l0))
    (g_lex_run.c2)))
def g_lex_run : AFn := { N := 25, res := [.slot 6], own := [], frz := [], code := g_lex_run.code }
def g_lex_All_1.code : ACode :=
  .seq (.region [0] (some []) none
     [⟨some 2, .mv (.c (.d (.bool false))), [], [], none, none⟩])
  (.seq (.region [2] (some []) none
      [⟨some 3, .mv (.t 0), [], [], none, none⟩,
       ⟨some 4, .bin .neq (.t 3) (.c (.d (.int .u8 10))), [], [], none, none⟩,
       ⟨some 2, .mv (.t 4), [], [], none, none⟩])
   (.ret))
def g_lex_All_1 : AFn := { N := 5, res := [.slot 2], own := [], frz := [], code := g_lex_All_1.code }
def g_lex_one.c0 : ACode :=
  .seq (.region [4, 5] (some []) none
     [⟨some 21, .mv (.t 7), [], [], none, none⟩,
      ⟨some 4, .mv (.c (.d (.int .i64 1))), [], [], none, none⟩,
      ⟨some 5, .mv (.t 21), [], [], none, none⟩])
  (.ret)
def g_lex_one.c1 : ACode :=
  .seq (.seq (.region [7, 20] (some []) none
      [⟨some 19, .mv (.t 7), [], [], none, none⟩,
       ⟨some 20, .bin .gtr (.t 19) (.c (.d (.int .i64 12))), [], [], none, none⟩])
   (.cond (.t 20) (.seq (.region [4, 5] (some []) none
        [⟨some 4, .mv (.c (.d (.int .i64 0))), [], [], none, none⟩,
         ⟨some 5, .mv (.c (.d (.int .i64 0))), [], [], none, none⟩])
     (.ret))
    (.skip)))
  (g_lex_one.c0)
def g_lex_one.c2 : ACode :=
  .seq (.region [4, 5] (some []) none
     [⟨some 28, .mv (.t 0), [], [], none, none⟩,
      ⟨some 29, .mv (.t 1), [], [], none, none⟩,
      ⟨some 30, .mv (.t 1), [], [], none, none⟩,
      ⟨some 31, .mv (.t 8), [], [], none, none⟩,
      ⟨some 32, .bin .add (.t 30) (.t 31), [], [], none, none⟩,
      ⟨some 33, .slcS (.t 28) (some (.t 29)) (some (.t 32)), [], [], none, none⟩,
      ⟨some 34, .call 109 [(.t 33)], [], [], none, none⟩,
      ⟨some 35, .mv (.t 8), [], [], none, none⟩,
      ⟨some 4, .mv (.t 34), [], [], none, none⟩,
      ⟨some 5, .mv (.t 35), [], [], none, none⟩])
  (.ret)
def g_lex_one.c3 : ACode :=
  .block 0 [0, 1] (some []) (.seq (.region [0, 1, 6, 13] (some []) none
      [⟨some 14, .mv (.t 6), [], [], none, none⟩,
       ⟨some 15, .call 105 [(.t 14)], [], [], none, none⟩,
       ⟨some 13, .mv (.t 15), [], [], none, none⟩])
   (.cond (.t 13) (.seq (.region [7] (some []) none
        [⟨some 16, .mv (.t 0), [], [], none, none⟩,
         ⟨some 17, .mv (.t 1), [], [], none, none⟩,
         ⟨some 18, .call 102 [(.t 16), (.t 17), (.f 106)], [], [], none, none⟩,
         ⟨some 7, .mv (.t 18), [], [], none, none⟩])
     (g_lex_one.c1))
    (.seq (.region [0, 1, 22] (some []) none
        [⟨some 23, .mv (.t 6), [], [], none, none⟩,
         ⟨some 24, .call 107 [(.t 23)], [], [], none, none⟩,
         ⟨some 22, .mv (.t 24), [], [], none, none⟩])
     (.cond (.t 22) (.seq (.region [0, 1, 8] (some []) none
          [⟨some 25, .mv (.t 0), [], [], none, none⟩,
           ⟨some 26, .mv (.t 1), [], [], none, none⟩,
           ⟨some 27, .call 102 [(.t 25), (.t 26), (.f 108)], [], [], none, none⟩,
           ⟨some 8, .mv (.t 27), [], [], none, none⟩])
       (g_lex_one.c2))
      (.skip)))))
def g_lex_one.c4 : ACode :=
  .seq (.region [4, 5] (some []) none
     [⟨some 42, .mv (.t 9), [], [], none, none⟩,
      ⟨some 4, .mv (.c (.d (.int .i64 5))), [], [], none, none⟩,
      ⟨some 5, .mv (.t 42), [], [], none, none⟩])
  (.ret)
def g_lex_one.c5 : ACode :=
  .seq (.seq (.region [9, 41] (some []) none
      [⟨some 40, .mv (.t 9), [], [], none, none⟩,
       ⟨some 41, .bin .eql (.t 40) (.c (.d (.int .i64 0))), [], [], none, none⟩])
   (.cond (.t 41) (.seq (.region [4, 5] (some []) none
        [⟨some 4, .mv (.c (.d (.int .i64 0))), [], [], none, none⟩,
         ⟨some 5, .mv (.c (.d (.int .i64 0))), [], [], none, none⟩])
     (.ret))
    (.skip)))
  (g_lex_one.c4)
def g_lex_one.c6 : ACode :=
  .seq (.region [9] (some []) none
     [⟨some 36, .mv (.t 0), [], [], none, none⟩,
      ⟨some 37, .mv (.t 1), [], [], none, none⟩,
      ⟨some 38, .slcS (.t 36) (some (.t 37)) none, [], [], none, none⟩,
      ⟨some 39, .call 110 [(.t 38)], [], [], none, none⟩,
      ⟨some 9, .mv (.t 39), [], [], none, none⟩])
  (g_lex_one.c5)
def g_lex_one.code : ACode :=
  .seq (.region [0, 1] (some []) none
     [⟨some 4, .mv (.c (.d (.int .i64 0))), [], [], none, none⟩,
      ⟨some 5, .mv (.c (.d (.int .i64 0))), [], [], none, none⟩])
  (.seq (.seq (.region [0, 1, 6] (some []) none
       [⟨some 10, .mv (.t 0), [], [], none, none⟩,
        ⟨some 11, .mv (.t 1), [], [], none, none⟩,
        ⟨some 12, .idx (.t 10) (.t 11), [], [], none, none⟩,
        ⟨some 6, .mv (.t 12), [], [], none, none⟩])
    (g_lex_one.c3))
   (g_lex_one.c6))
def g_lex_one : AFn := { N := 43, res := [.slot 4, .slot 5], own := [], frz := [], code := g_lex_one.code }
def g_tree_parser_token.c0 : ACode :=
  .seq (.region [2] none none
     [⟨some 23, .mv (.t 0), [], [], none, none⟩,
      ⟨some 24, .nilc (.t 23), [], [], none, none⟩,
      ⟨some 25, .faddr 1 (.t 24), [], [], none, none⟩,
      ⟨some 26, .load none (.t 25), [], [], none, none⟩,
      ⟨some 27, .build [.d (.int .i64 0), .d (.str []), .d (.int .i64 0)] [(2, 1, (.t 26))], [], [], none, none⟩,
      ⟨none, .store 3 (.t 2) (.t 27), [], [], none, none⟩])
  (.ret)
def g_tree_parser_token.code : ACode :=
  .seq (.region [0, 2] none none
     [⟨some 2, .alloc 2 [.d (.int .i64 0), .d (.str []), .d (.int .i64 0)], [], [], none, none⟩])
  (.seq (.seq (.region [0, 2, 12] none (some ([0, 1, 2, 3, 4, 5, 6, 7, 8, 9], .done))
       [⟨some 3, .mv (.t 0), [], [], none, none⟩,
        ⟨some 4, .nilc (.t 3), [], [0], none, none⟩,
        ⟨some 5, .faddr 2 (.t 4), [], [1], none, none⟩,
        ⟨some 6, .load none (.t 5), [], [2], none, none⟩,
        ⟨some 7, .mv (.t 0), [], [], none, none⟩,
        ⟨some 8, .nilc (.t 7), [], [4], none, none⟩,
        ⟨some 9, .faddr 0 (.t 8), [], [5], none, none⟩,
        ⟨some 10, .load none (.t 9), [], [6], none, none⟩,
        ⟨some 11, .len (.t 10), [], [7], none, none⟩,
        ⟨some 12, .bin .lss (.t 6) (.t 11), [], [3, 8], none, none⟩])
    (.cond (.t 12) (.seq (.region [2] none (some ([0, 1, 2, 3, 4, 5, 6, 7, 8, 9], .one 10 (.done)))
         [⟨some 13, .mv (.t 0), [], [], none, none⟩,
          ⟨some 14, .nilc (.t 13), [], [0], none, none⟩,
          ⟨some 15, .faddr 0 (.t 14), [], [1], none, none⟩,
          ⟨some 16, .load none (.t 15), [], [2], none, none⟩,
          ⟨some 17, .mv (.t 0), [], [], none, none⟩,
          ⟨some 18, .nilc (.t 17), [], [4], none, none⟩,
          ⟨some 19, .faddr 2 (.t 18), [], [5], none, none⟩,
          ⟨some 20, .load none (.t 19), [], [6], none, none⟩,
          ⟨some 21, .iaddr 3 (.t 16) (.t 20), [], [3, 7], none, none⟩,
          ⟨some 22, .load (some 3) (.t 21), [], [8], none, none⟩,
          ⟨none, .store 3 (.t 2) (.t 22), [], [9, 0, 1, 2, 3, 4, 5, 6, 7, 8, 9], none, none⟩])
      (.ret))
     (.skip)))
   (g_tree_parser_token.c0))
def g_tree_parser_token : AFn := { N := 28, res := [.cell 2 (some 3)], own := [], frz := [2], code := g_tree_parser_token.code }
def g_slices_Contains_string.code : ACode :=
  .seq (.region [0, 1] (some []) none
     [⟨some 4, .mv (.c (.d (.bool false))), [], [], none, none⟩])
  (.seq (.region [4] (some []) none
      [⟨some 5, .mv (.t 0), [], [], none, none⟩,
       ⟨some 6, .mv (.t 1), [], [], none, none⟩,
       ⟨some 7, .call 156 [(.t 5), (.t 6)], [], [], none, none⟩,
       ⟨some 8, .bin .geq (.t 7) (.c (.d (.int .i64 0))), [], [], none, none⟩,
       ⟨some 4, .mv (.t 8), [], [], none, none⟩])
   (.ret))
def g_slices_Contains_string : AFn := { N := 9, res := [.slot 4], own := [], frz := [], code := g_slices_Contains_string.code }
def g_tree_kinds.code : ACode :=
  .seq (.region [] (some []) none
     [⟨some 0, .mv (.c (.cap0)), [], [], none, none⟩])
  (.seq (.region [0] (some [1]) none
      [⟨some 1, .bsl (some 1) 1 [] 4 [(0, (.c (.d (.str [101, 97, 114, 110])))), (1, (.c (.d (.str [112, 114, 101, 116, 97, 120])))), (2, (.c (.d (.str [112, 111, 115, 116])))), (3, (.c (.d (.str [108, 101, 116]))))], [], [], none, none⟩,
       ⟨some 0, .mv (.t 1), [], [], none, none⟩])
   (.ret))
def g_tree_kinds : AFn := { N := 2, res := [.slot 0], own := [(0, 1, 1)], frz := [], code := g_tree_kinds.code }
def g_tree_parser_fail.code : ACode :=
  .seq (.region [0, 1, 8] none none
     [⟨some 4, .mv (.t 0), [], [], none, none⟩,
      ⟨some 5, .nilc (.t 4), [], [], none, none⟩,
      ⟨some 6, .faddr 5 (.t 5), [], [], none, none⟩,
      ⟨some 7, .load none (.t 6), [], [], none, none⟩,
      ⟨some 8, .bin .eql (.t 7) (.c (.d (.int .i64 0))), [], [], none, none⟩])
  (.cond (.t 8) (.region [] none none
      [⟨some 9, .mv (.t 0), [], [], none, none⟩,
       ⟨some 10, .mv (.t 0), [], [], none, none⟩,
       ⟨some 11, .mv (.t 1), [], [], none, none⟩,
       ⟨some 12, .mv (.t 0), [], [], none, none⟩,
       ⟨some 13, .call 217 [(.t 12)], [], [], none, none⟩,
       ⟨some 14, .fld 2 none (.t 13), [], [], none, none⟩,
       ⟨some 15, .nilc (.t 9), [], [], none, none⟩,
       ⟨some 16, .faddr 5 (.t 15), [], [], none, none⟩,
       ⟨none, .store 1 (.t 16) (.t 11), [], [], none, none⟩,
       ⟨some 17, .nilc (.t 10), [], [], none, none⟩,
       ⟨some 18, .faddr 6 (.t 17), [], [], none, none⟩,
       ⟨none, .store 1 (.t 18) (.t 14), [], [], none, none⟩])
   (.skip))
def g_tree_parser_fail : AFn := { N := 19, res := [], own := [], frz := [], code := g_tree_parser_fail.code }
def g_tree_parser_take.o5 : List AOper :=
  [⟨some 30, .pick (.t 24) (.c (.d (.bool true))) (.t 29), [], [], none, none⟩]
def g_tree_parser_take.o4 : List AOper :=
  (⟨some 25, .mv (.t 1), [], [], (some (15, 24, false)), none⟩ ::
     ⟨some 26, .faddr 1 (.t 6), [], [], (some (15, 24, false)), none⟩ ::
     ⟨some 27, .load none (.t 26), [], [], (some (15, 24, false)), none⟩ ::
     ⟨some 28, .call 155 [(.t 25), (.t 27)], [], [], (some (15, 24, false)), none⟩ ::
     ⟨some 29, .un .not (.t 28), [], [], (some (15, 24, false)), (some ([0, 6, 24, 29], none))⟩ ::
     g_tree_parser_take.o5)
def g_tree_parser_take.o3 : List AOper :=
  (⟨some 23, .pick (.t 14) (.c (.d (.bool true))) (.t 22), [], [], none, none⟩ ::
     ⟨some 24, .mv (.t 23), [], [], none, (some ([0, 1, 6, 24], none))⟩ ::
     g_tree_parser_take.o4)
def g_tree_parser_take.o2 : List AOper :=
  (⟨some 22, .pick (.t 18) (.t 21) (.c (.d (.bool false))), [], [], (some (5, 14, false)), (some ([0, 1, 6, 14, 22], none))⟩ ::
     g_tree_parser_take.o3)
def g_tree_parser_take.o1 : List AOper :=
  (⟨some 19, .faddr 0 (.t 6), [], [], (some (9, 18, true)), none⟩ ::
     ⟨some 20, .load none (.t 19), [], [], (some (9, 18, true)), none⟩ ::
     ⟨some 21, .bin .neq (.t 20) (.c (.d (.int .i64 5))), [], [], (some (9, 18, true)), (some ([0, 1, 6, 14, 18, 21], none))⟩ ::
     g_tree_parser_take.o2)
def g_tree_parser_take.o0 : List AOper :=
  (⟨some 15, .faddr 0 (.t 6), [], [], (some (5, 14, false)), none⟩ ::
     ⟨some 16, .load none (.t 15), [], [], (some (5, 14, false)), none⟩ ::
     ⟨some 17, .bin .neq (.t 16) (.c (.d (.int .i64 1))), [], [], (some (5, 14, false)), none⟩ ::
     ⟨some 18, .mv (.t 17), [], [], (some (5, 14, false)), (some ([0, 1, 6, 14, 18], none))⟩ ::
     g_tree_parser_take.o1)
def g_tree_parser_take.c0 : ACode :=
  .cond (.t 30) (.seq (.region [4, 5] none none
      [⟨some 4, .mv (.c (.d (.str []))), [], [], none, none⟩,
       ⟨some 5, .mv (.c (.d (.bool false))), [], [], none, none⟩])
   (.ret))
  (.skip)
def g_tree_parser_take.c1 : ACode :=
  .seq (.region [4, 5] none none
     [⟨some 38, .faddr 1 (.t 6), [], [], none, none⟩,
      ⟨some 39, .load none (.t 38), [], [], none, none⟩,
      ⟨some 4, .mv (.t 39), [], [], none, none⟩,
      ⟨some 5, .mv (.c (.d (.bool true))), [], [], none, none⟩])
  (.ret)
def g_tree_parser_take.c2 : ACode :=
  .seq (.region [6] none none
     [⟨some 31, .mv (.t 0), [], [], none, none⟩,
      ⟨some 32, .nilc (.t 31), [], [], none, none⟩,
      ⟨some 33, .faddr 2 (.t 32), [], [], none, none⟩,
      ⟨some 34, .load none (.t 33), [], [], none, none⟩,
      ⟨some 35, .bin .add (.t 34) (.c (.d (.int .i64 1))), [], [], none, none⟩,
      ⟨some 36, .nilc (.t 31), [], [], none, none⟩,
      ⟨some 37, .faddr 2 (.t 36), [], [], none, none⟩,
      ⟨none, .store 1 (.t 37) (.t 35), [], [], none, none⟩])
  (g_tree_parser_take.c1)
def g_tree_parser_take.c3 : ACode :=
  .seq (.seq (.region [0, 6, 30] none none
      (⟨some 9, .mv (.t 0), [], [], none, none⟩ ::
       ⟨some 10, .nilc (.t 9), [], [], none, none⟩ ::
       ⟨some 11, .faddr 5 (.t 10), [], [], none, none⟩ ::
       ⟨some 12, .load none (.t 11), [], [], none, none⟩ ::
       ⟨some 13, .bin .neq (.t 12) (.c (.d (.int .i64 0))), [], [], none, none⟩ ::
       ⟨some 14, .mv (.t 13), [], [], none, (some ([0, 1, 6, 14], none))⟩ ::
       g_tree_parser_take.o0))
   (g_tree_parser_take.c0))
  (g_tree_parser_take.c2)
def g_tree_parser_take.code : ACode :=
  .seq (.region [0, 1] none none
     [⟨some 4, .mv (.c (.d (.str []))), [], [], none, none⟩,
      ⟨some 5, .mv (.c (.d (.bool false))), [], [], none, none⟩])
  (.seq (.region [0, 1, 6] none none
      [⟨some 7, .mv (.t 0), [], [], none, none⟩,
       ⟨some 8, .call 217 [(.t 7)], [], [], none, none⟩,
       ⟨some 6, .alloc 6 [.d (.int .i64 0), .d (.str []), .d (.int .i64 0)], [], [], none, none⟩,
       ⟨none, .store 3 (.t 6) (.t 8), [], [], none, none⟩])
   (g_tree_parser_take.c3))
def g_tree_parser_take : AFn := { N := 40, res := [.slot 4, .slot 5], own := [], frz := [], code := g_tree_parser_take.code }
def g_tree_named.code : ACode :=
  .seq (.region [0] (some []) none
     [⟨some 2, .mv (.c (.d (.bool false))), [], [], none, none⟩])
  (.seq (.region [2] (some []) none
      [⟨some 3, .call 157 [], [], [], none, none⟩,
       ⟨some 4, .bsl none 1 [] 5 [(0, (.c (.d (.str [105, 102])))), (1, (.c (.d (.str [116, 104, 101, 110])))), (2, (.c (.d (.str [101, 108, 115, 101])))), (3, (.c (.d (.str [109, 105, 110])))), (4, (.c (.d (.str [109, 97, 120]))))], [], [], none, none⟩,
       ⟨some 5, .app none 1 16 (.t 3) (.t 4), [], [], none, none⟩,
       ⟨some 6, .mv (.t 0), [], [], none, none⟩,
       ⟨some 7, .call 155 [(.t 5), (.t 6)], [], [], none, none⟩,
       ⟨some 8, .un .not (.t 7), [], [], none, none⟩,
       ⟨some 2, .mv (.t 8), [], [], none, none⟩])
   (.ret))
def g_tree_named : AFn := { N := 9, res := [.slot 2], own := [], frz := [], code := g_tree_named.code }
def g_tree_parser_need.c0 : ACode :=
  .seq (.region [0, 14] none none
     [⟨some 13, .mv (.t 5), [], [], none, none⟩,
      ⟨some 14, .un .not (.t 13), [], [], none, none⟩])
  (.cond (.t 14) (.region [] none none
      [⟨some 15, .mv (.t 0), [], [], none, none⟩,
       ⟨some 16, .call 218 [(.t 15), (.c (.d (.int .i64 2)))], [], [], none, none⟩])
   (.skip))
def g_tree_parser_need.code : ACode :=
  .seq (.region [0, 5] none none
     [⟨some 7, .mv (.t 0), [], [], none, none⟩,
      ⟨some 8, .mv (.t 1), [], [], none, none⟩,
      ⟨some 9, .bsl none 1 [] 1 [(0, (.t 8))], [], [], none, none⟩,
      ⟨some 10, .call 219 [(.t 7), (.t 9)], [], [], none, none⟩,
      ⟨some 6, .mv (.t 10), [], [], none, none⟩,
      ⟨some 11, .ext (.t 6) 0, [], [], none, none⟩,
      ⟨some 12, .ext (.t 6) 1, [], [], none, none⟩,
      ⟨some 4, .mv (.t 11), [], [], none, none⟩,
      ⟨some 5, .mv (.t 12), [], [], none, none⟩])
  (g_tree_parser_need.c0)
def g_tree_parser_need : AFn := { N := 17, res := [], own := [], frz := [], code := g_tree_parser_need.code }
def g_tree_parser_expression.c0 : ACode :=
  .seq (.region [4] none none
     [⟨some 46, .mv (.t 0), [], [], none, none⟩,
      ⟨some 47, .mv (.t 7), [], [], none, none⟩,
      ⟨some 48, .mv (.t 8), [], [], none, none⟩,
      ⟨some 49, .mv (.t 9), [], [], none, none⟩,
      ⟨some 50, .build [.d (.str []), .d (.str []), .d (.int .i64 0), .d (.int .i64 0), .d (.int .i64 0), .d (.int .i64 0)] [(0, 1, (.c (.d (.str [105, 102])))), (3, 1, (.t 47)), (4, 1, (.t 48)), (5, 1, (.t 49))], [], [], none, none⟩,
      ⟨some 51, .call 222 [(.t 46), (.t 50)], [], [], none, none⟩,
      ⟨some 4, .mv (.t 51), [], [], none, none⟩])
  (.ret)
def g_tree_parser_expression.c1 : ACode :=
  .seq (.region [0, 1, 7, 8] none none
     [⟨some 40, .mv (.t 0), [], [], none, none⟩,
      ⟨some 41, .call 220 [(.t 40), (.c (.d (.str [101, 108, 115, 101])))], [], [], none, none⟩])
  (.seq (.region [0, 7, 8, 9] none none
      [⟨some 42, .mv (.t 0), [], [], none, none⟩,
       ⟨some 43, .mv (.t 1), [], [], none, none⟩,
       ⟨some 44, .bin .add (.t 43) (.c (.d (.int .i64 1))), [], [], none, none⟩,
       ⟨some 45, .call 221 [(.t 42), (.t 44)], [], [], none, none⟩,
       ⟨some 9, .mv (.t 45), [], [], none, none⟩])
   (g_tree_parser_expression.c0))
def g_tree_parser_expression.c2 : ACode :=
  .seq (.region [0, 1, 7] none none
     [⟨some 34, .mv (.t 0), [], [], none, none⟩,
      ⟨some 35, .call 220 [(.t 34), (.c (.d (.str [116, 104, 101, 110])))], [], [], none, none⟩])
  (.seq (.region [0, 1, 7, 8] none none
      [⟨some 36, .mv (.t 0), [], [], none, none⟩,
       ⟨some 37, .mv (.t 1), [], [], none, none⟩,
       ⟨some 38, .bin .add (.t 37) (.c (.d (.int .i64 1))), [], [], none, none⟩,
       ⟨some 39, .call 221 [(.t 36), (.t 38)], [], [], none, none⟩,
       ⟨some 8, .mv (.t 39), [], [], none, none⟩])
   (g_tree_parser_expression.c1))
def g_tree_parser_expression.c3 : ACode :=
  .seq (.region [0, 1, 29] none none
     [⟨some 29, .mv (.t 6), [], [], none, none⟩])
  (.cond (.t 29) (.seq (.region [0, 1, 7] none none
       [⟨some 30, .mv (.t 0), [], [], none, none⟩,
        ⟨some 31, .mv (.t 1), [], [], none, none⟩,
        ⟨some 32, .bin .add (.t 31) (.c (.d (.int .i64 1))), [], [], none, none⟩,
        ⟨some 33, .call 221 [(.t 30), (.t 32)], [], [], none, none⟩,
        ⟨some 7, .mv (.t 33), [], [], none, none⟩])
    (g_tree_parser_expression.c2))
   (.skip))
def g_tree_parser_expression.c4 : ACode :=
  .seq (.region [4] none none
     [⟨some 65, .mv (.t 0), [], [], none, none⟩,
      ⟨some 66, .mv (.t 11), [], [], none, none⟩,
      ⟨some 67, .mv (.t 10), [], [], none, none⟩,
      ⟨some 68, .mv (.t 13), [], [], none, none⟩,
      ⟨some 69, .build [.d (.str []), .d (.str []), .d (.int .i64 0), .d (.int .i64 0), .d (.int .i64 0), .d (.int .i64 0)] [(0, 1, (.t 66)), (3, 1, (.t 67)), (4, 1, (.t 68))], [], [], none, none⟩,
      ⟨some 70, .call 222 [(.t 65), (.t 69)], [], [], none, none⟩,
      ⟨some 4, .mv (.t 70), [], [], none, none⟩])
  (.ret)
def g_tree_parser_expression.c5 : ACode :=
  .seq (.region [0, 1, 10, 11, 61] none none
     [⟨some 61, .mv (.t 12), [], [], none, none⟩])
  (.cond (.t 61) (.seq (.region [0, 10, 11, 13] none none
       [⟨some 62, .mv (.t 0), [], [], none, none⟩,
        ⟨some 63, .mv (.t 1), [], [], none, none⟩,
        ⟨some 64, .call 223 [(.t 62), (.t 63)], [], [], none, none⟩,
        ⟨some 13, .mv (.t 64), [], [], none, none⟩])
    (g_tree_parser_expression.c4))
   (.skip))
def g_tree_parser_expression.c6 : ACode :=
  .seq (.region [4] none none
     [⟨some 71, .mv (.t 10), [], [], none, none⟩,
      ⟨some 4, .mv (.t 71), [], [], none, none⟩])
  (.ret)
def g_tree_parser_expression.c7 : ACode :=
  .seq (.seq (.region [0, 1, 10, 11, 12] none none
      [⟨some 56, .mv (.t 0), [], [], none, none⟩,
       ⟨some 57, .bsl none 1 [] 6 [(0, (.c (.d (.str [60])))), (1, (.c (.d (.str [60, 61])))), (2, (.c (.d (.str [61])))), (3, (.c (.d (.str [60, 62])))), (4, (.c (.d (.str [62])))), (5, (.c (.d (.str [62, 61]))))], [], [], none, none⟩,
       ⟨some 58, .call 219 [(.t 56), (.t 57)], [], [], none, none⟩,
       ⟨some 55, .mv (.t 58), [], [], none, none⟩,
       ⟨some 59, .ext (.t 55) 0, [], [], none, none⟩,
       ⟨some 60, .ext (.t 55) 1, [], [], none, none⟩,
       ⟨some 11, .mv (.t 59), [], [], none, none⟩,
       ⟨some 12, .mv (.t 60), [], [], none, none⟩])
   (g_tree_parser_expression.c5))
  (g_tree_parser_expression.c6)
def g_tree_parser_expression.c8 : ACode :=
  .seq (.region [0, 1, 10] none none
     [⟨some 52, .mv (.t 0), [], [], none, none⟩,
      ⟨some 53, .mv (.t 1), [], [], none, none⟩,
      ⟨some 54, .call 223 [(.t 52), (.t 53)], [], [], none, none⟩,
      ⟨some 10, .mv (.t 54), [], [], none, none⟩])
  (g_tree_parser_expression.c7)
def g_tree_parser_expression.c9 : ACode :=
  .seq (.seq (.region [0, 1, 6] none none
      [⟨some 24, .mv (.t 0), [], [], none, none⟩,
       ⟨some 25, .bsl none 1 [] 1 [(0, (.c (.d (.str [105, 102]))))], [], [], none, none⟩,
       ⟨some 26, .call 219 [(.t 24), (.t 25)], [], [], none, none⟩,
       ⟨some 23, .mv (.t 26), [], [], none, none⟩,
       ⟨some 27, .ext (.t 23) 0, [], [], none, none⟩,
       ⟨some 28, .ext (.t 23) 1, [], [], none, none⟩,
       ⟨some 5, .mv (.t 27), [], [], none, none⟩,
       ⟨some 6, .mv (.t 28), [], [], none, none⟩])
   (g_tree_parser_expression.c3))
  (g_tree_parser_expression.c8)
def g_tree_parser_expression.c10 : ACode :=
  .seq (.seq (.region [0, 1, 22] none none
      [⟨some 18, .mv (.t 0), [], [], none, none⟩,
       ⟨some 19, .nilc (.t 18), [], [], none, none⟩,
       ⟨some 20, .faddr 5 (.t 19), [], [], none, none⟩,
       ⟨some 21, .load none (.t 20), [], [], none, none⟩,
       ⟨some 22, .bin .neq (.t 21) (.c (.d (.int .i64 0))), [], [], none, none⟩])
   (.cond (.t 22) (.seq (.region [4] none none
        [⟨some 4, .mv (.c (.d (.int .i64 0))), [], [], none, none⟩])
     (.ret))
    (.skip)))
  (g_tree_parser_expression.c9)
def g_tree_parser_expression.code : ACode :=
  .seq (.region [0, 1] none none
     [⟨some 4, .mv (.c (.d (.int .i64 0))), [], [], none, none⟩])
  (.seq (.seq (.region [0, 1, 15] none none
       [⟨some 14, .mv (.t 1), [], [], none, none⟩,
        ⟨some 15, .bin .gtr (.t 14) (.c (.d (.int .i64 20))), [], [], none, none⟩])
    (.cond (.t 15) (.region [0, 1] none none
        [⟨some 16, .mv (.t 0), [], [], none, none⟩,
         ⟨some 17, .call 218 [(.t 16), (.c (.d (.int .i64 9)))], [], [], none, none⟩])
     (.skip)))
   (g_tree_parser_expression.c10))
def g_tree_parser_expression : AFn := { N := 72, res := [.slot 4], own := [], frz := [], code := g_tree_parser_expression.code }
def g_check_product.o1 : List AOper :=
  [⟨some 11, .pick (.t 8) (.t 10) (.c (.d (.bool false))), [], [], none, none⟩,
     ⟨some 5, .mv (.t 11), [], [], none, none⟩]
def g_check_product.o0 : List AOper :=
  (⟨some 9, .mv (.t 1), [], [], (some (2, 8, true)), none⟩ ::
     ⟨some 10, .bin .eql (.t 9) (.c (.d (.int .i64 3))), [], [], (some (2, 8, true)), (some ([0, 1, 8, 10], (some [])))⟩ ::
     g_check_product.o1)
def g_check_product.o5 : List AOper :=
  [⟨some 22, .pick (.t 15) (.t 21) (.c (.d (.bool false))), [], [], none, none⟩,
     ⟨some 12, .mv (.t 22), [], [], none, none⟩]
def g_check_product.o4 : List AOper :=
  (⟨some 21, .pick (.t 18) (.c (.d (.bool true))) (.t 20), [], [], (some (2, 15, true)), (some ([0, 1, 15, 21], (some [])))⟩ ::
     g_check_product.o5)
def g_check_product.o3 : List AOper :=
  (⟨some 19, .mv (.t 1), [], [], (some (5, 18, false)), none⟩ ::
     ⟨some 20, .bin .eql (.t 19) (.c (.d (.int .i64 2))), [], [], (some (5, 18, false)), (some ([0, 1, 15, 18, 20], (some [])))⟩ ::
     g_check_product.o4)
def g_check_product.o2 : List AOper :=
  (⟨some 16, .mv (.t 1), [], [], (some (2, 15, true)), none⟩ ::
     ⟨some 17, .bin .eql (.t 16) (.c (.d (.int .i64 3))), [], [], (some (2, 15, true)), none⟩ ::
     ⟨some 18, .mv (.t 17), [], [], (some (2, 15, true)), (some ([0, 1, 15, 18], (some [])))⟩ ::
     g_check_product.o3)
def g_check_product.o9 : List AOper :=
  [⟨some 32, .pick (.t 25) (.t 31) (.c (.d (.bool false))), [], [], none, none⟩,
     ⟨some 12, .mv (.t 32), [], [], none, none⟩]
def g_check_product.o8 : List AOper :=
  (⟨some 31, .pick (.t 28) (.c (.d (.bool true))) (.t 30), [], [], (some (2, 25, true)), (some ([25, 31], (some [])))⟩ ::
     g_check_product.o9)
def g_check_product.o7 : List AOper :=
  (⟨some 29, .mv (.t 0), [], [], (some (5, 28, false)), none⟩ ::
     ⟨some 30, .bin .eql (.t 29) (.c (.d (.int .i64 2))), [], [], (some (5, 28, false)), (some ([25, 28, 30], (some [])))⟩ ::
     g_check_product.o8)
def g_check_product.o6 : List AOper :=
  (⟨some 26, .mv (.t 0), [], [], (some (2, 25, true)), none⟩ ::
     ⟨some 27, .bin .eql (.t 26) (.c (.d (.int .i64 3))), [], [], (some (2, 25, true)), none⟩ ::
     ⟨some 28, .mv (.t 27), [], [], (some (2, 25, true)), (some ([0, 25, 28], (some [])))⟩ ::
     g_check_product.o7)
def g_check_product.c0 : ACode :=
  .cond (.t 12) (.skip)
  (.region [12] (some []) none
     (⟨some 23, .mv (.t 1), [], [], none, none⟩ ::
      ⟨some 24, .bin .eql (.t 23) (.c (.d (.int .i64 1))), [], [], none, none⟩ ::
      ⟨some 25, .mv (.t 24), [], [], none, (some ([0, 25], (some [])))⟩ ::
      g_check_product.o6))
def g_check_product.c1 : ACode :=
  .cond (.t 12) (.seq (.region [4] (some []) none
      [⟨some 4, .mv (.c (.d (.int .i64 1))), [], [], none, none⟩])
   (.ret))
  (.skip)
def g_check_product.c2 : ACode :=
  .cond (.t 5) (.seq (.region [4] (some []) none
      [⟨some 4, .mv (.c (.d (.int .i64 3))), [], [], none, none⟩])
   (.ret))
  (.seq (.seq (.region [0, 1, 12] (some []) none
       (⟨some 13, .mv (.t 0), [], [], none, none⟩ ::
        ⟨some 14, .bin .eql (.t 13) (.c (.d (.int .i64 1))), [], [], none, none⟩ ::
        ⟨some 15, .mv (.t 14), [], [], none, (some ([0, 1, 15], (some [])))⟩ ::
        g_check_product.o2))
    (g_check_product.c0))
   (g_check_product.c1))
def g_check_product.c3 : ACode :=
  .seq (.region [4] (some []) none
     [⟨some 4, .mv (.c (.d (.int .i64 0))), [], [], none, none⟩])
  (.ret)
def g_check_product.code : ACode :=
  .seq (.region [0, 1] (some []) none
     [⟨some 4, .mv (.c (.d (.int .i64 0))), [], [], none, none⟩])
  (.seq (.block 0 [] (some []) (.seq (.region [0, 1, 5] (some []) none
        (⟨some 6, .mv (.t 0), [], [], none, none⟩ ::
         ⟨some 7, .bin .eql (.t 6) (.c (.d (.int .i64 3))), [], [], none, none⟩ ::
         ⟨some 8, .mv (.t 7), [], [], none, (some ([0, 1, 8], (some [])))⟩ ::
         g_check_product.o0))
     (g_check_product.c2)))
   (g_check_product.c3))
def g_check_product : AFn := { N := 33, res := [.slot 4], own := [], frz := [], code := g_check_product.code }
def g_lex_letter.o1 : List AOper :=
  [⟨some 8, .pick (.t 5) (.t 7) (.c (.d (.bool false))), [], [], none, none⟩,
     ⟨some 2, .mv (.t 8), [], [], none, none⟩]
def g_lex_letter.o0 : List AOper :=
  (⟨some 6, .mv (.t 0), [], [], (some (2, 5, true)), none⟩ ::
     ⟨some 7, .bin .leq (.t 6) (.c (.d (.int .u8 122))), [], [], (some (2, 5, true)), (some ([5, 7], (some [])))⟩ ::
     g_lex_letter.o1)
def g_lex_letter.c0 : ACode :=
  .ret
def g_lex_letter.code : ACode :=
  .seq (.region [0] (some []) none
     [⟨some 2, .mv (.c (.d (.bool false))), [], [], none, none⟩])
  (.seq (.region [2] (some []) none
      (⟨some 3, .mv (.t 0), [], [], none, none⟩ ::
       ⟨some 4, .bin .geq (.t 3) (.c (.d (.int .u8 97))), [], [], none, none⟩ ::
       ⟨some 5, .mv (.t 4), [], [], none, (some ([0, 5], (some [])))⟩ ::
       g_lex_letter.o0))
   (g_lex_letter.c0))
def g_lex_letter : AFn := { N := 9, res := [.slot 2], own := [], frz := [], code := g_lex_letter.code }
def g_lex_one_1.o1 : List AOper :=
  [⟨some 8, .pick (.t 5) (.c (.d (.bool true))) (.t 7), [], [], none, none⟩,
     ⟨some 2, .mv (.t 8), [], [], none, none⟩]
def g_lex_one_1.o0 : List AOper :=
  (⟨some 6, .mv (.t 0), [], [], (some (2, 5, false)), none⟩ ::
     ⟨some 7, .call 107 [(.t 6)], [], [], (some (2, 5, false)), (some ([5, 7], (some [])))⟩ ::
     g_lex_one_1.o1)
def g_lex_one_1.c0 : ACode :=
  .ret
def g_lex_one_1.code : ACode :=
  .seq (.region [0] (some []) none
     [⟨some 2, .mv (.c (.d (.bool false))), [], [], none, none⟩])
  (.seq (.region [2] (some []) none
      (⟨some 3, .mv (.t 0), [], [], none, none⟩ ::
       ⟨some 4, .call 105 [(.t 3)], [], [], none, none⟩ ::
       ⟨some 5, .mv (.t 4), [], [], none, (some ([0, 5], (some [])))⟩ ::
       g_lex_one_1.o0))
   (g_lex_one_1.c0))
def g_lex_one_1 : AFn := { N := 9, res := [.slot 2], own := [], frz := [], code := g_lex_one_1.code }
def g_lex_digit.o1 : List AOper :=
  [⟨some 8, .pick (.t 5) (.t 7) (.c (.d (.bool false))), [], [], none, none⟩,
     ⟨some 2, .mv (.t 8), [], [], none, none⟩]
def g_lex_digit.o0 : List AOper :=
  (⟨some 6, .mv (.t 0), [], [], (some (2, 5, true)), none⟩ ::
     ⟨some 7, .bin .leq (.t 6) (.c (.d (.int .u8 57))), [], [], (some (2, 5, true)), (some ([5, 7], (some [])))⟩ ::
     g_lex_digit.o1)
def g_lex_digit.c0 : ACode :=
  .ret
def g_lex_digit.code : ACode :=
  .seq (.region [0] (some []) none
     [⟨some 2, .mv (.c (.d (.bool false))), [], [], none, none⟩])
  (.seq (.region [2] (some []) none
      (⟨some 3, .mv (.t 0), [], [], none, none⟩ ::
       ⟨some 4, .bin .geq (.t 3) (.c (.d (.int .u8 48))), [], [], none, none⟩ ::
       ⟨some 5, .mv (.t 4), [], [], none, (some ([0, 5], (some [])))⟩ ::
       g_lex_digit.o0))
   (g_lex_digit.c0))
def g_lex_digit : AFn := { N := 9, res := [.slot 2], own := [], frz := [], code := g_lex_digit.code }
def g_lex_one_2.o3 : List AOper :=
  [⟨some 12, .pick (.t 9) (.c (.d (.bool true))) (.t 11), [], [], none, none⟩,
     ⟨some 2, .mv (.t 12), [], [], none, none⟩]
def g_lex_one_2.o2 : List AOper :=
  (⟨some 10, .mv (.t 0), [], [], (some (6, 9, false)), none⟩ ::
     ⟨some 11, .bin .eql (.t 10) (.c (.d (.int .u8 37))), [], [], (some (6, 9, false)), (some ([9, 11], (some [])))⟩ ::
     g_lex_one_2.o3)
def g_lex_one_2.o1 : List AOper :=
  (⟨some 8, .pick (.t 5) (.c (.d (.bool true))) (.t 7), [], [], none, none⟩ ::
     ⟨some 9, .mv (.t 8), [], [], none, (some ([0, 9], (some [])))⟩ ::
     g_lex_one_2.o2)
def g_lex_one_2.o0 : List AOper :=
  (⟨some 6, .mv (.t 0), [], [], (some (2, 5, false)), none⟩ ::
     ⟨some 7, .bin .eql (.t 6) (.c (.d (.int .u8 46))), [], [], (some (2, 5, false)), (some ([0, 5, 7], (some [])))⟩ ::
     g_lex_one_2.o1)
def g_lex_one_2.c0 : ACode :=
  .ret
def g_lex_one_2.code : ACode :=
  .seq (.region [0] (some []) none
     [⟨some 2, .mv (.c (.d (.bool false))), [], [], none, none⟩])
  (.seq (.region [2] (some []) none
      (⟨some 3, .mv (.t 0), [], [], none, none⟩ ::
       ⟨some 4, .call 107 [(.t 3)], [], [], none, none⟩ ::
       ⟨some 5, .mv (.t 4), [], [], none, (some ([0, 5], (some [])))⟩ ::
       g_lex_one_2.o0))
   (g_lex_one_2.c0))
def g_lex_one_2 : AFn := { N := 13, res := [.slot 2], own := [], frz := [], code := g_lex_one_2.code }
def g_lex_figure.c0 : ACode :=
  .seq (.region [0, 12] (some []) none
     [⟨some 12, .mv (.t 4), [], [], none, none⟩])
  (.cond (.t 12) (.seq (.region [2] (some []) none
       [⟨some 2, .mv (.c (.d (.int .i64 3))), [], [], none, none⟩])
    (.ret))
   (.skip))
def g_lex_figure.c1 : ACode :=
  .seq (.region [0, 18] (some []) none
     [⟨some 18, .mv (.t 6), [], [], none, none⟩])
  (.cond (.t 18) (.seq (.region [2] (some []) none
       [⟨some 2, .mv (.c (.d (.int .i64 4))), [], [], none, none⟩])
    (.ret))
   (.skip))
def g_lex_figure.o5 : List AOper :=
  [⟨some 37, .pick (.t 29) (.t 36) (.c (.d (.bool false))), [], [], none, none⟩]
def g_lex_figure.o4 : List AOper :=
  (⟨some 36, .pick (.t 32) (.c (.d (.bool true))) (.t 35), [], [], (some (10, 29, true)), (some ([29, 36], (some [])))⟩ ::
     g_lex_figure.o5)
def g_lex_figure.o3 : List AOper :=
  (⟨some 33, .mv (.t 0), [], [], (some (13, 32, false)), none⟩ ::
     ⟨some 34, .idx (.t 33) (.c (.d (.int .i64 0))), [], [], (some (13, 32, false)), none⟩ ::
     ⟨some 35, .bin .neq (.t 34) (.c (.d (.int .u8 48))), [], [], (some (13, 32, false)), (some ([29, 32, 35], (some [])))⟩ ::
     g_lex_figure.o4)
def g_lex_figure.o2 : List AOper :=
  (⟨some 30, .mv (.t 0), [], [], (some (10, 29, true)), none⟩ ::
     ⟨some 31, .bin .eql (.t 30) (.c (.d (.str [48]))), [], [], (some (10, 29, true)), none⟩ ::
     ⟨some 32, .mv (.t 31), [], [], (some (10, 29, true)), (some ([0, 29, 32], (some [])))⟩ ::
     g_lex_figure.o3)
def g_lex_figure.o1 : List AOper :=
  (⟨some 28, .pick (.t 22) (.t 27) (.c (.d (.bool false))), [], [], none, none⟩ ::
     ⟨some 29, .mv (.t 28), [], [], none, (some ([0, 29], (some [])))⟩ ::
     g_lex_figure.o2)
def g_lex_figure.o0 : List AOper :=
  (⟨some 23, .mv (.t 0), [], [], (some (3, 22, true)), none⟩ ::
     ⟨some 24, .call 102 [(.t 23), (.c (.d (.int .i64 0))), (.f 107)], [], [], (some (3, 22, true)), none⟩ ::
     ⟨some 25, .mv (.t 0), [], [], (some (3, 22, true)), none⟩ ::
     ⟨some 26, .lenS (.t 25), [], [], (some (3, 22, true)), none⟩ ::
     ⟨some 27, .bin .eql (.t 24) (.t 26), [], [], (some (3, 22, true)), (some ([0, 22, 27], (some [])))⟩ ::
     g_lex_figure.o1)
def g_lex_figure.c2 : ACode :=
  .cond (.t 37) (.seq (.region [2] (some []) none
      [⟨some 2, .mv (.c (.d (.int .i64 2))), [], [], none, none⟩])
   (.ret))
  (.skip)
def g_lex_figure.c3 : ACode :=
  .seq (.region [2] (some []) none
     [⟨some 2, .mv (.c (.d (.int .i64 0))), [], [], none, none⟩])
  (.ret)
def g_lex_figure.c4 : ACode :=
  .seq (.seq (.region [37] (some []) none
      (⟨some 19, .mv (.t 0), [], [], none, none⟩ ::
       ⟨some 20, .lenS (.t 19), [], [], none, none⟩ ::
       ⟨some 21, .bin .leq (.t 20) (.c (.d (.int .i64 9))), [], [], none, none⟩ ::
       ⟨some 22, .mv (.t 21), [], [], none, (some ([0, 22], (some [])))⟩ ::
       g_lex_figure.o0))
   (g_lex_figure.c2))
  (g_lex_figure.c3)
def g_lex_figure.c5 : ACode :=
  .seq (.seq (.region [0, 6] (some []) none
      [⟨some 14, .mv (.t 0), [], [], none, none⟩,
       ⟨some 15, .call 92 [(.t 14)], [], [], none, none⟩,
       ⟨some 13, .mv (.t 15), [], [], none, none⟩,
       ⟨some 16, .ext (.t 13) 0, [], [], none, none⟩,
       ⟨some 17, .ext (.t 13) 1, [], [], none, none⟩,
       ⟨some 5, .mv (.t 16), [], [], none, none⟩,
       ⟨some 6, .mv (.t 17), [], [], none, none⟩])
   (g_lex_figure.c1))
  (g_lex_figure.c4)
def g_lex_figure.code : ACode :=
  .seq (.region [0] (some []) none
     [⟨some 2, .mv (.c (.d (.int .i64 0))), [], [], none, none⟩])
  (.seq (.seq (.region [0, 4] (some []) none
       [⟨some 8, .mv (.t 0), [], [], none, none⟩,
        ⟨some 9, .call 51 [(.t 8)], [], [], none, none⟩,
        ⟨some 7, .mv (.t 9), [], [], none, none⟩,
        ⟨some 10, .ext (.t 7) 0, [], [], none, none⟩,
        ⟨some 11, .ext (.t 7) 1, [], [], none, none⟩,
        ⟨some 3, .mv (.t 10), [], [], none, none⟩,
        ⟨some 4, .mv (.t 11), [], [], none, none⟩])
    (g_lex_figure.c0))
   (g_lex_figure.c5))
def g_lex_figure : AFn := { N := 38, res := [.slot 2], own := [], frz := [], code := g_lex_figure.code }
def g_lex_sign.c0 : ACode :=
  .region [0, 5, 6, 7] (some []) none
    [⟨some 16, .bin .add (.t 7) (.c (.d (.int .i64 1))), [], [], none, none⟩,
     ⟨some 7, .mv (.t 16), [], [], none, none⟩]
def g_lex_sign.l0 : ACode :=
  .loop [0, 5, 6, 7] (some []) (.seq (.region [0, 5, 6, 7, 8] (some []) none
     [⟨some 8, .bin .lss (.t 7) (.t 6), [], [], none, none⟩])
  (.seq (.cond (.t 8) (.skip)
    (.exit 0))
   (.seq (.block 1 [0, 5, 6, 7] (some []) (.seq (.region [0, 4, 5, 6, 7] (some []) none
         [⟨some 9, .iaddr 1 (.t 5) (.t 7), [], [], none, none⟩,
          ⟨some 10, .load none (.t 9), [], [], none, none⟩,
          ⟨some 4, .mv (.t 10), [], [], none, none⟩])
      (.seq (.region [0, 4, 5, 6, 7, 13] (some []) none
          [⟨some 11, .mv (.t 0), [], [], none, none⟩,
           ⟨some 12, .mv (.t 4), [], [], none, none⟩,
           ⟨some 13, .call 123 [(.t 11), (.t 12)], [], [], none, none⟩])
       (.cond (.t 13) (.seq (.region [2] (some []) none
            [⟨some 14, .mv (.t 4), [], [], none, none⟩,
             ⟨some 15, .lenS (.t 14), [], [], none, none⟩,
             ⟨some 2, .mv (.t 15), [], [], none, none⟩])
         (.ret))
        (.skip)))))
    (g_lex_sign.c0))))
def g_lex_sign.c1 : ACode :=
  .seq (.region [2] (some []) none
     [⟨some 2, .mv (.c (.d (.int .i64 0))), [], [], none, none⟩])
  (.ret)
def g_lex_sign.c2 : ACode :=
  .seq (.seq (.region [20] (some []) none
      [⟨some 17, .mv (.t 0), [], [], none, none⟩,
       ⟨some 18, .idx (.t 17) (.c (.d (.int .i64 0))), [], [], none, none⟩,
       ⟨some 19, .call 124 [(.c (.d (.str [61, 60, 62, 43, 45, 42, 40, 41, 44, 59]))), (.t 18)], [], [], none, none⟩,
       ⟨some 20, .bin .geq (.t 19) (.c (.d (.int .i64 0))), [], [], none, none⟩])
   (.cond (.t 20) (.seq (.region [2] (some []) none
        [⟨some 2, .mv (.c (.d (.int .i64 1))), [], [], none, none⟩])
     (.ret))
    (.skip)))
  (g_lex_sign.c1)
def g_lex_sign.code : ACode :=
  .seq (.region [0] (some []) none
     [⟨some 2, .mv (.c (.d (.int .i64 0))), [], [], none, none⟩])
  (.seq (.seq (.region [0, 5, 6, 7] (some []) none
       [⟨some 5, .bsl none 1 [] 3 [(0, (.c (.d (.str [60, 61])))), (1, (.c (.d (.str [62, 61])))), (2, (.c (.d (.str [60, 62]))))], [], [], none, none⟩,
        ⟨some 6, .len (.t 5), [], [], none, none⟩,
        ⟨some 7, .mv (.c (.d (.int .i64 0))), [], [], none, none⟩])
    (.block 0 [0] (some []) (g_lex_sign.l0)))
   (g_lex_sign.c2))
def g_lex_sign : AFn := { N := 21, res := [.slot 2], own := [], frz := [], code := g_lex_sign.code }
def g_slices_Index_string.c0 : ACode :=
  .region [0, 1, 7, 8] (some []) none
    [⟨some 18, .bin .add (.t 8) (.c (.d (.int .i64 1))), [], [], none, none⟩,
     ⟨some 8, .mv (.t 18), [], [], none, none⟩]
def g_slices_Index_string.l0 : ACode :=
  .loop [0, 1, 7, 8] (some []) (.seq (.region [0, 1, 7, 8, 9] (some []) none
     [⟨some 9, .bin .lss (.t 8) (.t 7), [], [], none, none⟩])
  (.seq (.cond (.t 9) (.skip)
    (.exit 0))
   (.seq (.block 1 [0, 1, 7, 8] (some []) (.seq (.region [0, 1, 5, 7, 8] (some []) none
         [⟨some 10, .mv (.t 8), [], [], none, none⟩,
          ⟨some 5, .mv (.t 10), [], [], none, none⟩])
      (.seq (.region [0, 1, 5, 7, 8, 16] (some []) none
          [⟨some 11, .mv (.t 1), [], [], none, none⟩,
           ⟨some 12, .mv (.t 0), [], [], none, none⟩,
           ⟨some 13, .mv (.t 5), [], [], none, none⟩,
           ⟨some 14, .iaddr 1 (.t 12) (.t 13), [], [], none, none⟩,
           ⟨some 15, .load none (.t 14), [], [], none, none⟩,
           ⟨some 16, .bin .eql (.t 11) (.t 15), [], [], none, none⟩])
       (.cond (.t 16) (.seq (.region [4] (some []) none
            [⟨some 17, .mv (.t 5), [], [], none, none⟩,
             ⟨some 4, .mv (.t 17), [], [], none, none⟩])
         (.ret))
        (.skip)))))
    (g_slices_Index_string.c0))))
def g_slices_Index_string.c1 : ACode :=
  .seq (.region [4] (some []) none
     [⟨some 4, .mv (.c (.d (.int .i64 (-1)))), [], [], none, none⟩])
  (.ret)
def g_slices_Index_string.code : ACode :=
  .seq (.region [0, 1] (some []) none
     [⟨some 4, .mv (.c (.d (.int .i64 0))), [], [], none, none⟩])
  (.seq (.seq (.region [0, 1, 7, 8] (some []) none
       [⟨some 6, .mv (.t 0), [], [], none, none⟩,
        ⟨some 7, .len (.t 6), [], [], none, none⟩,
        ⟨some 8, .mv (.c (.d (.int .i64 0))), [], [], none, none⟩])
    (.block 0 [] (some []) (g_slices_Index_string.l0)))
   (g_slices_Index_string.c1))
def g_slices_Index_string : AFn := { N := 19, res := [.slot 4], own := [], frz := [], code := g_slices_Index_string.code }
def g_tree_parser_put.a0 : List AOper :=
  [⟨some 5, .mv (.t 0), [], [], none, none⟩,
     ⟨some 6, .mv (.t 0), [], [], none, none⟩,
     ⟨some 7, .nilc (.t 6), [], [1], none, none⟩,
     ⟨some 8, .faddr 3 (.t 7), [], [2], none, none⟩,
     ⟨some 9, .faddr 1 (.t 8), [], [3], none, none⟩,
     ⟨some 10, .load none (.t 9), [], [4], none, none⟩,
     ⟨some 11, .load (some 6) (.t 3), [], [], none, none⟩,
     ⟨some 12, .bsl none 6 [] 1 [(0, (.t 11))], [], [6], none, none⟩,
     ⟨some 13, .app (some 13) 6 64 (.t 10) (.t 12), [], [5, 7], none, (some ([], none))⟩,
     ⟨some 14, .nilc (.t 5), [], [0, 0, 1, 2, 3, 4, 5, 6, 7, 8], none, none⟩,
     ⟨some 15, .faddr 3 (.t 14), [], [9, 0, 1, 2, 3, 4, 5, 6, 7, 8], none, none⟩,
     ⟨some 16, .faddr 1 (.t 15), [], [10, 0, 1, 2, 3, 4, 5, 6, 7, 8], none, none⟩,
     ⟨none, .store 1 (.t 16) (.t 13), [], [11, 8, 8, 0, 1, 2, 3, 4, 5, 6, 7, 8], none, none⟩]
def g_tree_parser_put.t5 : Tr := .one 12 .done
def g_tree_parser_put.t6 : Tr := .one 11 g_tree_parser_put.t5
def g_tree_parser_put.t7 : Tr := .one 10 g_tree_parser_put.t6
def g_tree_parser_put.t8 : Tr := .one 9 g_tree_parser_put.t7
def g_tree_parser_put.t9 : Tr := .one 8 g_tree_parser_put.t8
def g_tree_parser_put.t10 : Tr := .one 7 g_tree_parser_put.t9
def g_tree_parser_put.t11 : Tr := .one 6 g_tree_parser_put.t10
def g_tree_parser_put.t12 : Tr := .one 5 g_tree_parser_put.t9
def g_tree_parser_put.t13 : Tr := .one 7 g_tree_parser_put.t12
def g_tree_parser_put.t14 : Tr := .two 5 g_tree_parser_put.t10 g_tree_parser_put.t13
def g_tree_parser_put.t15 : Tr := .one 6 g_tree_parser_put.t14
def g_tree_parser_put.t16 : Tr := .two 5 g_tree_parser_put.t11 g_tree_parser_put.t15
def g_tree_parser_put.i4 : List Nat := 4 :: []
def g_tree_parser_put.i3 : List Nat := 3 :: g_tree_parser_put.i4
def g_tree_parser_put.i2 : List Nat := 2 :: g_tree_parser_put.i3
def g_tree_parser_put.i1 : List Nat := 1 :: g_tree_parser_put.i2
def g_tree_parser_put.c0 : ACode :=
  .seq (.region [4] none none
     [⟨some 17, .mv (.t 0), [], [], none, none⟩,
      ⟨some 18, .nilc (.t 17), [], [], none, none⟩,
      ⟨some 19, .faddr 3 (.t 18), [], [], none, none⟩,
      ⟨some 20, .faddr 1 (.t 19), [], [], none, none⟩,
      ⟨some 21, .load none (.t 20), [], [], none, none⟩,
      ⟨some 22, .len (.t 21), [], [], none, none⟩,
      ⟨some 23, .bin .sub (.t 22) (.c (.d (.int .i64 1))), [], [], none, none⟩,
      ⟨some 4, .mv (.t 23), [], [], none, none⟩])
  (.ret)
def g_tree_parser_put.code : ACode :=
  .seq (.region [0, 3] none none
     [⟨some 3, .box 3 6 (.t 1), [], [], none, none⟩,
      ⟨some 4, .mv (.c (.d (.int .i64 0))), [], [], none, none⟩])
  (.seq (.region [0] none (some (0 :: g_tree_parser_put.i1, g_tree_parser_put.t16)) g_tree_parser_put.a0)
   (g_tree_parser_put.c0))
def g_tree_parser_put : AFn := { N := 24, res := [.slot 4], own := [], frz := [], code := g_tree_parser_put.code }
def g_tree_parser_sum.c0 : ACode :=
  .region [0, 1, 5] none none
    [⟨some 24, .mv (.t 0), [], [], none, none⟩,
     ⟨some 25, .mv (.t 6), [], [], none, none⟩,
     ⟨some 26, .mv (.t 5), [], [], none, none⟩,
     ⟨some 27, .mv (.t 8), [], [], none, none⟩,
     ⟨some 28, .build [.d (.str []), .d (.str []), .d (.int .i64 0), .d (.int .i64 0), .d (.int .i64 0), .d (.int .i64 0)] [(0, 1, (.t 25)), (3, 1, (.t 26)), (4, 1, (.t 27))], [], [], none, none⟩,
     ⟨some 29, .call 222 [(.t 24), (.t 28)], [], [], none, none⟩,
     ⟨some 5, .mv (.t 29), [], [], none, none⟩]
def g_tree_parser_sum.c1 : ACode :=
  .seq (.region [0, 1, 5, 6, 8] none none
     [⟨some 21, .mv (.t 0), [], [], none, none⟩,
      ⟨some 22, .mv (.t 1), [], [], none, none⟩,
      ⟨some 23, .call 224 [(.t 21), (.t 22)], [], [], none, none⟩,
      ⟨some 8, .mv (.t 23), [], [], none, none⟩])
  (g_tree_parser_sum.c0)
def g_tree_parser_sum.c2 : ACode :=
  .seq (.seq (.region [0, 1, 5, 6, 19] none none
      [⟨some 18, .mv (.t 7), [], [], none, none⟩,
       ⟨some 19, .un .not (.t 18), [], [], none, none⟩])
   (.cond (.t 19) (.seq (.region [4] none none
        [⟨some 20, .mv (.t 5), [], [], none, none⟩,
         ⟨some 4, .mv (.t 20), [], [], none, none⟩])
     (.ret))
    (.skip)))
  (g_tree_parser_sum.c1)
def g_tree_parser_sum.l0 : ACode :=
  .loop [0, 1, 5] none (.block 1 [0, 1, 5] none (.seq (.region [0, 1, 5, 6, 7] none none
      [⟨some 13, .mv (.t 0), [], [], none, none⟩,
       ⟨some 14, .bsl none 1 [] 2 [(0, (.c (.d (.str [43])))), (1, (.c (.d (.str [45]))))], [], [], none, none⟩,
       ⟨some 15, .call 219 [(.t 13), (.t 14)], [], [], none, none⟩,
       ⟨some 12, .mv (.t 15), [], [], none, none⟩,
       ⟨some 16, .ext (.t 12) 0, [], [], none, none⟩,
       ⟨some 17, .ext (.t 12) 1, [], [], none, none⟩,
       ⟨some 6, .mv (.t 16), [], [], none, none⟩,
       ⟨some 7, .mv (.t 17), [], [], none, none⟩])
   (g_tree_parser_sum.c2)))
def g_tree_parser_sum.c3 : ACode :=
  .block 0 [4] none (g_tree_parser_sum.l0)
def g_tree_parser_sum.code : ACode :=
  .seq (.region [0, 1] none none
     [⟨some 4, .mv (.c (.d (.int .i64 0))), [], [], none, none⟩])
  (.seq (.region [0, 1, 5] none none
      [⟨some 9, .mv (.t 0), [], [], none, none⟩,
       ⟨some 10, .mv (.t 1), [], [], none, none⟩,
       ⟨some 11, .call 224 [(.t 9), (.t 10)], [], [], none, none⟩,
       ⟨some 5, .mv (.t 11), [], [], none, none⟩])
   (g_tree_parser_sum.c3))
def g_tree_parser_sum : AFn := { N := 30, res := [.slot 4], own := [], frz := [], code := g_tree_parser_sum.code }
def g_money_Parse.o1 : List AOper :=
  [⟨some 20, .pick (.t 16) (.c (.d (.bool true))) (.t 19), [], [], none, none⟩]
def g_money_Parse.o0 : List AOper :=
  (⟨some 17, .mv (.t 4), [], [], (some (2, 16, false)), none⟩ ::
     ⟨some 18, .call 58 [(.t 17)], [], [], (some (2, 16, false)), none⟩ ::
     ⟨some 19, .un .not (.t 18), [], [], (some (2, 16, false)), (some ([0, 4, 16, 19], (some [])))⟩ ::
     g_money_Parse.o1)
def g_money_Parse.c0 : ACode :=
  .cond (.t 20) (.seq (.region [2, 3] (some []) none
      [⟨some 2, .mv (.c (.d (.int .i64 0))), [], [], none, none⟩,
       ⟨some 3, .mv (.c (.d (.bool false))), [], [], none, none⟩])
   (.ret))
  (.skip)
def g_money_Parse.c1 : ACode :=
  .seq (.region [4, 28] (some []) none
     [⟨some 26, .mv (.t 6), [], [], none, none⟩,
      ⟨some 27, .mv (.t 0), [], [], none, none⟩,
      ⟨some 28, .bin .neq (.t 26) (.t 27), [], [], none, none⟩])
  (.cond (.t 28) (.seq (.region [2, 3] (some []) none
       [⟨some 2, .mv (.c (.d (.int .i64 0))), [], [], none, none⟩,
        ⟨some 3, .mv (.c (.d (.bool false))), [], [], none, none⟩])
    (.ret))
   (.skip))
def g_money_Parse.c2 : ACode :=
  .seq (.region [2, 3] (some []) none
     [⟨some 29, .mv (.t 4), [], [], none, none⟩,
      ⟨some 2, .mv (.t 29), [], [], none, none⟩,
      ⟨some 3, .mv (.c (.d (.bool true))), [], [], none, none⟩])
  (.ret)
def g_money_Parse.c3 : ACode :=
  .seq (.seq (.region [0, 4, 6] (some []) none
      [⟨some 22, .mv (.t 4), [], [], none, none⟩,
       ⟨some 23, .call 50 [(.t 22)], [], [], none, none⟩,
       ⟨some 21, .mv (.t 23), [], [], none, none⟩,
       ⟨some 24, .ext (.t 21) 0, [], [], none, none⟩,
       ⟨some 25, .ext (.t 21) 1, [], [], none, none⟩,
       ⟨some 6, .mv (.t 24), [], [], none, none⟩,
       ⟨some 7, .mv (.t 25), [], [], none, none⟩])
   (g_money_Parse.c1))
  (g_money_Parse.c2)
def g_money_Parse.c4 : ACode :=
  .seq (.seq (.region [0, 4, 20] (some []) none
      (⟨some 14, .mv (.t 5), [], [], none, none⟩ ::
       ⟨some 15, .nilE true (.t 14), [], [], none, none⟩ ::
       ⟨some 16, .mv (.t 15), [], [], none, (some ([0, 4, 16], (some [])))⟩ ::
       g_money_Parse.o0))
   (g_money_Parse.c0))
  (g_money_Parse.c3)
def g_money_Parse.code : ACode :=
  .seq (.region [0] (some []) none
     [⟨some 2, .mv (.c (.d (.int .i64 0))), [], [], none, none⟩,
      ⟨some 3, .mv (.c (.d (.bool false))), [], [], none, none⟩])
  (.seq (.region [0, 4, 5] (some []) none
      [⟨some 9, .mv (.t 0), [], [], none, none⟩,
       ⟨some 10, .call 69 [(.t 9), (.c (.d (.str [46]))), (.c (.d (.str []))), (.c (.d (.int .i64 1)))], [], [], none, none⟩,
       ⟨some 11, .call 70 [(.t 10)], [], [], none, none⟩,
       ⟨some 8, .mv (.t 11), [], [], none, none⟩,
       ⟨some 12, .ext (.t 8) 0, [], [], none, none⟩,
       ⟨some 13, .ext (.t 8) 1, [], [], none, none⟩,
       ⟨some 4, .mv (.t 12), [], [], none, none⟩,
       ⟨some 5, .mv (.t 13), [], [], none, none⟩])
   (g_money_Parse.c4))
def g_money_Parse : AFn := { N := 30, res := [.slot 2, .slot 3], own := [], frz := [], code := g_money_Parse.code }
def g_rate_Parse.o3 : List AOper :=
  [⟨some 28, .pick (.t 24) (.c (.d (.bool true))) (.t 27), [], [], none, none⟩]
def g_rate_Parse.o2 : List AOper :=
  (⟨some 25, .mv (.t 6), [], [], (some (6, 24, false)), none⟩ ::
     ⟨some 26, .call 88 [(.t 25)], [], [], (some (6, 24, false)), none⟩ ::
     ⟨some 27, .un .not (.t 26), [], [], (some (6, 24, false)), (some ([6, 24, 27], (some [])))⟩ ::
     g_rate_Parse.o3)
def g_rate_Parse.o1 : List AOper :=
  (⟨some 23, .pick (.t 20) (.c (.d (.bool true))) (.t 22), [], [], none, none⟩ ::
     ⟨some 24, .mv (.t 23), [], [], none, (some ([6, 24], (some [])))⟩ ::
     g_rate_Parse.o2)
def g_rate_Parse.o0 : List AOper :=
  (⟨some 21, .mv (.t 7), [], [], (some (2, 20, false)), none⟩ ::
     ⟨some 22, .un .not (.t 21), [], [], (some (2, 20, false)), (some ([6, 20, 22], (some [])))⟩ ::
     g_rate_Parse.o1)
def g_rate_Parse.c0 : ACode :=
  .cond (.t 28) (.seq (.region [2, 3] (some []) none
      [⟨some 2, .mv (.c (.d (.int .i64 0))), [], [], none, none⟩,
       ⟨some 3, .mv (.c (.d (.bool false))), [], [], none, none⟩])
   (.ret))
  (.skip)
def g_rate_Parse.c1 : ACode :=
  .seq (.region [2, 3] (some []) none
     [⟨some 29, .mv (.t 6), [], [], none, none⟩,
      ⟨some 2, .mv (.t 29), [], [], none, none⟩,
      ⟨some 3, .mv (.c (.d (.bool true))), [], [], none, none⟩])
  (.ret)
def g_rate_Parse.c2 : ACode :=
  .seq (.seq (.region [6, 28] (some []) none
      (⟨some 18, .mv (.t 5), [], [], none, none⟩ ::
       ⟨some 19, .un .not (.t 18), [], [], none, none⟩ ::
       ⟨some 20, .mv (.t 19), [], [], none, (some ([6, 7, 20], (some [])))⟩ ::
       g_rate_Parse.o0))
   (g_rate_Parse.c0))
  (g_rate_Parse.c1)
def g_rate_Parse.c3 : ACode :=
  .seq (.region [5, 6, 7] (some []) none
     [⟨some 14, .mv (.t 4), [], [], none, none⟩,
      ⟨some 15, .call 51 [(.t 14)], [], [], none, none⟩,
      ⟨some 13, .mv (.t 15), [], [], none, none⟩,
      ⟨some 16, .ext (.t 13) 0, [], [], none, none⟩,
      ⟨some 17, .ext (.t 13) 1, [], [], none, none⟩,
      ⟨some 6, .mv (.t 16), [], [], none, none⟩,
      ⟨some 7, .mv (.t 17), [], [], none, none⟩])
  (g_rate_Parse.c2)
def g_rate_Parse.code : ACode :=
  .seq (.region [0] (some []) none
     [⟨some 2, .mv (.c (.d (.int .i64 0))), [], [], none, none⟩,
      ⟨some 3, .mv (.c (.d (.bool false))), [], [], none, none⟩])
  (.seq (.region [4, 5] (some []) none
      [⟨some 9, .mv (.t 0), [], [], none, none⟩,
       ⟨some 10, .call 101 [(.t 9), (.c (.d (.str [37])))], [], [], none, none⟩,
       ⟨some 8, .mv (.t 10), [], [], none, none⟩,
       ⟨some 11, .ext (.t 8) 0, [], [], none, none⟩,
       ⟨some 12, .ext (.t 8) 1, [], [], none, none⟩,
       ⟨some 4, .mv (.t 11), [], [], none, none⟩,
       ⟨some 5, .mv (.t 12), [], [], none, none⟩])
   (g_rate_Parse.c3))
def g_rate_Parse : AFn := { N := 30, res := [.slot 2, .slot 3], own := [], frz := [], code := g_rate_Parse.code }
def g_strings_HasPrefix.code : ACode :=
  .seq (.region [0, 1] (some []) none
     [⟨some 4, .mv (.c (.d (.bool false))), [], [], none, none⟩])
  (.seq (.region [4] (some []) none
      [⟨some 5, .mv (.t 0), [], [], none, none⟩,
       ⟨some 6, .mv (.t 1), [], [], none, none⟩,
       ⟨some 7, .call 131 [(.t 5), (.t 6)], [], [], none, none⟩,
       ⟨some 4, .mv (.t 7), [], [], none, none⟩])
   (.ret))
def g_strings_HasPrefix : AFn := { N := 8, res := [.slot 4], own := [], frz := [], code := g_strings_HasPrefix.code }
def g_tree_parser_product.c0 : ACode :=
  .seq (.region [0, 1, 5, 19] none none
     [⟨some 18, .mv (.t 7), [], [], none, none⟩,
      ⟨some 19, .un .not (.t 18), [], [], none, none⟩])
  (.cond (.t 19) (.seq (.region [4] none none
       [⟨some 20, .mv (.t 5), [], [], none, none⟩,
        ⟨some 4, .mv (.t 20), [], [], none, none⟩])
    (.ret))
   (.skip))
def g_tree_parser_product.c1 : ACode :=
  .region [0, 1, 5] none none
    [⟨some 24, .mv (.t 0), [], [], none, none⟩,
     ⟨some 25, .mv (.t 5), [], [], none, none⟩,
     ⟨some 26, .mv (.t 8), [], [], none, none⟩,
     ⟨some 27, .build [.d (.str []), .d (.str []), .d (.int .i64 0), .d (.int .i64 0), .d (.int .i64 0), .d (.int .i64 0)] [(0, 1, (.c (.d (.str [42])))), (3, 1, (.t 25)), (4, 1, (.t 26))], [], [], none, none⟩,
     ⟨some 28, .call 222 [(.t 24), (.t 27)], [], [], none, none⟩,
     ⟨some 5, .mv (.t 28), [], [], none, none⟩]
def g_tree_parser_product.c2 : ACode :=
  .seq (.region [0, 1, 5, 8] none none
     [⟨some 21, .mv (.t 0), [], [], none, none⟩,
      ⟨some 22, .mv (.t 1), [], [], none, none⟩,
      ⟨some 23, .call 225 [(.t 21), (.t 22)], [], [], none, none⟩,
      ⟨some 8, .mv (.t 23), [], [], none, none⟩])
  (g_tree_parser_product.c1)
def g_tree_parser_product.l0 : ACode :=
  .loop [0, 1, 5] none (.block 1 [0, 1, 5] none (.seq (.seq (.region [0, 1, 5, 7] none none
       [⟨some 13, .mv (.t 0), [], [], none, none⟩,
        ⟨some 14, .bsl none 1 [] 1 [(0, (.c (.d (.str [42]))))], [], [], none, none⟩,
        ⟨some 15, .call 219 [(.t 13), (.t 14)], [], [], none, none⟩,
        ⟨some 12, .mv (.t 15), [], [], none, none⟩,
        ⟨some 16, .ext (.t 12) 0, [], [], none, none⟩,
        ⟨some 17, .ext (.t 12) 1, [], [], none, none⟩,
        ⟨some 6, .mv (.t 16), [], [], none, none⟩,
        ⟨some 7, .mv (.t 17), [], [], none, none⟩])
    (g_tree_parser_product.c0))
   (g_tree_parser_product.c2)))
def g_tree_parser_product.c3 : ACode :=
  .block 0 [4] none (g_tree_parser_product.l0)
def g_tree_parser_product.code : ACode :=
  .seq (.region [0, 1] none none
     [⟨some 4, .mv (.c (.d (.int .i64 0))), [], [], none, none⟩])
  (.seq (.region [0, 1, 5] none none
      [⟨some 9, .mv (.t 0), [], [], none, none⟩,
       ⟨some 10, .mv (.t 1), [], [], none, none⟩,
       ⟨some 11, .call 225 [(.t 9), (.t 10)], [], [], none, none⟩,
       ⟨some 5, .mv (.t 11), [], [], none, none⟩])
   (g_tree_parser_product.c3))
def g_tree_parser_product : AFn := { N := 29, res := [.slot 4], own := [], frz := [], code := g_tree_parser_product.code }
def g_money_Text.c0 : ACode :=
  .seq (.region [2, 3] (some []) (some ([0, 1, 2, 3, 4, 5, 6, 7, 8, 9, 10], .done))
     [⟨some 17, .mv (.t 4), [], [], none, none⟩,
      ⟨some 18, .mv (.t 0), [], [], none, none⟩,
      ⟨some 19, .bin .quo (.t 18) (.c (.d (.int .i64 100))), [], [1], none, none⟩,
      ⟨some 20, .call 68 [(.t 19)], [], [2], none, none⟩,
      ⟨some 21, .bin .add (.t 17) (.t 20), [], [0, 3], none, none⟩,
      ⟨some 22, .bin .add (.t 21) (.c (.d (.str [46]))), [], [4], none, none⟩,
      ⟨some 23, .mv (.t 5), [], [], none, none⟩,
      ⟨some 24, .slcS (.t 23) (some (.c (.d (.int .i64 1)))) none, [], [6], none, none⟩,
      ⟨some 25, .bin .add (.t 22) (.t 24), [], [5, 7], none, none⟩,
      ⟨some 2, .mv (.t 25), [], [8, 3, 0, 1, 2, 3, 4, 5, 6, 7, 8], none, none⟩,
      ⟨some 3, .mv (.c (.d (.int .i64 0))), [], [9, 0, 1, 2, 3, 4, 5, 6, 7, 8, 9], none, none⟩])
  (.ret)
def g_money_Text.c1 : ACode :=
  .seq (.region [0, 4, 5] (some []) none
     [⟨some 13, .mv (.t 0), [], [], none, none⟩,
      ⟨some 14, .bin .rem (.t 13) (.c (.d (.int .i64 100))), [], [], none, none⟩,
      ⟨some 15, .bin .add (.c (.d (.int .i64 100))) (.t 14), [], [], none, none⟩,
      ⟨some 16, .call 68 [(.t 15)], [], [], none, none⟩,
      ⟨some 5, .mv (.t 16), [], [], none, none⟩])
  (g_money_Text.c0)
def g_money_Text.c2 : ACode :=
  .seq (.region [0, 4] (some []) none
     [⟨some 4, .mv (.c (.d (.str []))), [], [], none, none⟩])
  (.seq (.seq (.region [0, 4, 10] (some []) none
       [⟨some 9, .mv (.t 0), [], [], none, none⟩,
        ⟨some 10, .bin .lss (.t 9) (.c (.d (.int .i64 0))), [], [], none, none⟩])
    (.cond (.t 10) (.region [0, 4] (some []) none
        [⟨some 11, .mv (.t 0), [], [], none, none⟩,
         ⟨some 12, .un .neg (.t 11), [], [], none, none⟩,
         ⟨some 4, .mv (.c (.d (.str [45]))), [], [], none, none⟩,
         ⟨some 0, .mv (.t 12), [], [], none, none⟩])
     (.skip)))
   (g_money_Text.c1))
def g_money_Text.code : ACode :=
  .seq (.region [0] (some []) none
     [⟨some 2, .mv (.c (.d (.str []))), [], [], none, none⟩,
      ⟨some 3, .mv (.c (.d (.int .i64 0))), [], [], none, none⟩])
  (.seq (.seq (.region [0, 8] (some []) none
       [⟨some 6, .mv (.t 0), [], [], none, none⟩,
        ⟨some 7, .call 58 [(.t 6)], [], [], none, none⟩,
        ⟨some 8, .un .not (.t 7), [], [], none, none⟩])
    (.cond (.t 8) (.seq (.region [2, 3] (some []) none
         [⟨some 2, .mv (.c (.d (.str []))), [], [], none, none⟩,
          ⟨some 3, .mv (.c (.d (.int .i64 3))), [], [], none, none⟩])
      (.ret))
     (.skip)))
   (g_money_Text.c2))
def g_money_Text : AFn := { N := 26, res := [.slot 2, .slot 3], own := [], frz := [], code := g_money_Text.code }
def g_money_Right.code : ACode :=
  .seq (.region [0] (some []) none
     [⟨some 2, .mv (.c (.d (.bool false))), [], [], none, none⟩])
  (.seq (.region [2] (some []) none
      [⟨some 3, .mv (.t 0), [], [], none, none⟩,
       ⟨some 4, .bin .geq (.t 3) (.c (.d (.int .i64 (-9223372036854775807)))), [], [], none, none⟩,
       ⟨some 2, .mv (.t 4), [], [], none, none⟩])
   (.ret))
def g_money_Right : AFn := { N := 5, res := [.slot 2], own := [], frz := [], code := g_money_Right.code }
def g_strings_CutSuffix.code : ACode :=
  .seq (.region [0, 1] (some []) none
     [⟨some 4, .mv (.c (.d (.str []))), [], [], none, none⟩,
      ⟨some 5, .mv (.c (.d (.bool false))), [], [], none, none⟩])
  (.seq (.region [4, 5] (some []) none
      [⟨some 6, .mv (.t 0), [], [], none, none⟩,
       ⟨some 7, .mv (.t 1), [], [], none, none⟩,
       ⟨some 8, .call 122 [(.t 6), (.t 7)], [], [], none, none⟩,
       ⟨some 9, .ext (.t 8) 0, [], [], none, none⟩,
       ⟨some 10, .ext (.t 8) 1, [], [], none, none⟩,
       ⟨some 4, .mv (.t 9), [], [], none, none⟩,
       ⟨some 5, .mv (.t 10), [], [], none, none⟩])
   (.ret))
def g_strings_CutSuffix : AFn := { N := 11, res := [.slot 4, .slot 5], own := [], frz := [], code := g_strings_CutSuffix.code }
def g_rate_Right.o1 : List AOper :=
  [⟨some 8, .pick (.t 5) (.t 7) (.c (.d (.bool false))), [], [], none, none⟩,
     ⟨some 2, .mv (.t 8), [], [], none, none⟩]
def g_rate_Right.o0 : List AOper :=
  (⟨some 6, .mv (.t 0), [], [], (some (2, 5, true)), none⟩ ::
     ⟨some 7, .bin .leq (.t 6) (.c (.d (.int .i64 10000))), [], [], (some (2, 5, true)), (some ([5, 7], (some [])))⟩ ::
     g_rate_Right.o1)
def g_rate_Right.c0 : ACode :=
  .ret
def g_rate_Right.code : ACode :=
  .seq (.region [0] (some []) none
     [⟨some 2, .mv (.c (.d (.bool false))), [], [], none, none⟩])
  (.seq (.region [2] (some []) none
      (⟨some 3, .mv (.t 0), [], [], none, none⟩ ::
       ⟨some 4, .bin .geq (.t 3) (.c (.d (.int .i64 0))), [], [], none, none⟩ ::
       ⟨some 5, .mv (.t 4), [], [], none, (some ([0, 5], (some [])))⟩ ::
       g_rate_Right.o0))
   (g_rate_Right.c0))
def g_rate_Right : AFn := { N := 9, res := [.slot 2], own := [], frz := [], code := g_rate_Right.code }
def g_internal_stringslite_HasPrefix.o1 : List AOper :=
  [⟨some 17, .pick (.t 10) (.t 16) (.c (.d (.bool false))), [], [], none, none⟩,
     ⟨some 4, .mv (.t 17), [], [], none, none⟩]
def g_internal_stringslite_HasPrefix.o0 : List AOper :=
  (⟨some 11, .mv (.t 0), [], [], (some (5, 10, true)), none⟩ ::
     ⟨some 12, .mv (.t 1), [], [], (some (5, 10, true)), none⟩ ::
     ⟨some 13, .lenS (.t 12), [], [], (some (5, 10, true)), none⟩ ::
     ⟨some 14, .slcS (.t 11) none (some (.t 13)), [], [], (some (5, 10, true)), none⟩ ::
     ⟨some 15, .mv (.t 1), [], [], (some (5, 10, true)), none⟩ ::
     ⟨some 16, .bin .eql (.t 14) (.t 15), [], [], (some (5, 10, true)), (some ([10, 16], (some [])))⟩ ::
     g_internal_stringslite_HasPrefix.o1)
def g_internal_stringslite_HasPrefix.c0 : ACode :=
  .ret
def g_internal_stringslite_HasPrefix.code : ACode :=
  .seq (.region [0, 1] (some []) none
     [⟨some 4, .mv (.c (.d (.bool false))), [], [], none, none⟩])
  (.seq (.region [4] (some []) none
      (⟨some 5, .mv (.t 0), [], [], none, none⟩ ::
       ⟨some 6, .lenS (.t 5), [], [], none, none⟩ ::
       ⟨some 7, .mv (.t 1), [], [], none, none⟩ ::
       ⟨some 8, .lenS (.t 7), [], [], none, none⟩ ::
       ⟨some 9, .bin .geq (.t 6) (.t 8), [], [], none, none⟩ ::
       ⟨some 10, .mv (.t 9), [], [], none, (some ([0, 1, 10], (some [])))⟩ ::
       g_internal_stringslite_HasPrefix.o0))
   (g_internal_stringslite_HasPrefix.c0))
def g_internal_stringslite_HasPrefix : AFn := { N := 18, res := [.slot 4], own := [], frz := [], code := g_internal_stringslite_HasPrefix.code }
def g_tree_parser_factor.c0 : ACode :=
  .seq (.region [0, 1, 27] none none
     [⟨some 27, .mv (.t 6), [], [], none, none⟩])
  (.cond (.t 27) (.seq (.region [4] none none
       [⟨some 28, .mv (.t 0), [], [], none, none⟩,
        ⟨some 29, .mv (.t 0), [], [], none, none⟩,
        ⟨some 30, .mv (.t 1), [], [], none, none⟩,
        ⟨some 31, .bin .add (.t 30) (.c (.d (.int .i64 1))), [], [], none, none⟩,
        ⟨some 32, .call 225 [(.t 29), (.t 31)], [], [], none, none⟩,
        ⟨some 33, .build [.d (.str []), .d (.str []), .d (.int .i64 0), .d (.int .i64 0), .d (.int .i64 0), .d (.int .i64 0)] [(0, 1, (.c (.d (.str [110, 101, 103])))), (3, 1, (.t 32))], [], [], none, none⟩,
        ⟨some 34, .call 222 [(.t 28), (.t 33)], [], [], none, none⟩,
        ⟨some 4, .mv (.t 34), [], [], none, none⟩])
    (.ret))
   (.skip))
def g_tree_parser_factor.c1 : ACode :=
  .seq (.region [0, 1, 7, 41] none none
     [⟨some 41, .mv (.t 8), [], [], none, none⟩])
  (.cond (.t 41) (.seq (.region [4] none none
       [⟨some 42, .mv (.t 0), [], [], none, none⟩,
        ⟨some 43, .mv (.t 7), [], [], none, none⟩,
        ⟨some 44, .mv (.t 1), [], [], none, none⟩,
        ⟨some 45, .call 226 [(.t 42), (.t 43), (.t 44)], [], [], none, none⟩,
        ⟨some 4, .mv (.t 45), [], [], none, none⟩])
    (.ret))
   (.skip))
def g_tree_parser_factor.c2 : ACode :=
  .seq (.region [11] none none
     [⟨some 57, .mv (.t 0), [], [], none, none⟩,
      ⟨some 58, .call 220 [(.t 57), (.c (.d (.str [41])))], [], [], none, none⟩])
  (.seq (.region [4] none none
      [⟨some 59, .mv (.t 11), [], [], none, none⟩,
       ⟨some 4, .mv (.t 59), [], [], none, none⟩])
   (.ret))
def g_tree_parser_factor.c3 : ACode :=
  .seq (.region [0, 1, 52] none none
     [⟨some 52, .mv (.t 10), [], [], none, none⟩])
  (.cond (.t 52) (.seq (.region [0, 11] none none
       [⟨some 53, .mv (.t 0), [], [], none, none⟩,
        ⟨some 54, .mv (.t 1), [], [], none, none⟩,
        ⟨some 55, .bin .add (.t 54) (.c (.d (.int .i64 1))), [], [], none, none⟩,
        ⟨some 56, .call 221 [(.t 53), (.t 55)], [], [], none, none⟩,
        ⟨some 11, .mv (.t 56), [], [], none, none⟩])
    (g_tree_parser_factor.c2))
   (.skip))
def g_tree_parser_factor.c4 : ACode :=
  .seq (.region [4] none none
     [⟨some 60, .mv (.t 0), [], [], none, none⟩,
      ⟨some 61, .call 227 [(.t 60)], [], [], none, none⟩,
      ⟨some 4, .mv (.t 61), [], [], none, none⟩])
  (.ret)
def g_tree_parser_factor.c5 : ACode :=
  .seq (.seq (.region [0, 1, 10] none none
      [⟨some 47, .mv (.t 0), [], [], none, none⟩,
       ⟨some 48, .bsl none 1 [] 1 [(0, (.c (.d (.str [40]))))], [], [], none, none⟩,
       ⟨some 49, .call 219 [(.t 47), (.t 48)], [], [], none, none⟩,
       ⟨some 46, .mv (.t 49), [], [], none, none⟩,
       ⟨some 50, .ext (.t 46) 0, [], [], none, none⟩,
       ⟨some 51, .ext (.t 46) 1, [], [], none, none⟩,
       ⟨some 9, .mv (.t 50), [], [], none, none⟩,
       ⟨some 10, .mv (.t 51), [], [], none, none⟩])
   (g_tree_parser_factor.c3))
  (g_tree_parser_factor.c4)
def g_tree_parser_factor.c6 : ACode :=
  .seq (.seq (.region [0, 1, 7, 8] none none
      [⟨some 36, .mv (.t 0), [], [], none, none⟩,
       ⟨some 37, .bsl none 1 [] 2 [(0, (.c (.d (.str [109, 105, 110])))), (1, (.c (.d (.str [109, 97, 120]))))], [], [], none, none⟩,
       ⟨some 38, .call 219 [(.t 36), (.t 37)], [], [], none, none⟩,
       ⟨some 35, .mv (.t 38), [], [], none, none⟩,
       ⟨some 39, .ext (.t 35) 0, [], [], none, none⟩,
       ⟨some 40, .ext (.t 35) 1, [], [], none, none⟩,
       ⟨some 7, .mv (.t 39), [], [], none, none⟩,
       ⟨some 8, .mv (.t 40), [], [], none, none⟩])
   (g_tree_parser_factor.c1))
  (g_tree_parser_factor.c5)
def g_tree_parser_factor.c7 : ACode :=
  .seq (.seq (.region [0, 1, 6] none none
      [⟨some 22, .mv (.t 0), [], [], none, none⟩,
       ⟨some 23, .bsl none 1 [] 1 [(0, (.c (.d (.str [45]))))], [], [], none, none⟩,
       ⟨some 24, .call 219 [(.t 22), (.t 23)], [], [], none, none⟩,
       ⟨some 21, .mv (.t 24), [], [], none, none⟩,
       ⟨some 25, .ext (.t 21) 0, [], [], none, none⟩,
       ⟨some 26, .ext (.t 21) 1, [], [], none, none⟩,
       ⟨some 5, .mv (.t 25), [], [], none, none⟩,
       ⟨some 6, .mv (.t 26), [], [], none, none⟩])
   (g_tree_parser_factor.c0))
  (g_tree_parser_factor.c6)
def g_tree_parser_factor.c8 : ACode :=
  .seq (.seq (.region [0, 1, 20] none none
      [⟨some 16, .mv (.t 0), [], [], none, none⟩,
       ⟨some 17, .nilc (.t 16), [], [], none, none⟩,
       ⟨some 18, .faddr 5 (.t 17), [], [], none, none⟩,
       ⟨some 19, .load none (.t 18), [], [], none, none⟩,
       ⟨some 20, .bin .neq (.t 19) (.c (.d (.int .i64 0))), [], [], none, none⟩])
   (.cond (.t 20) (.seq (.region [4] none none
        [⟨some 4, .mv (.c (.d (.int .i64 0))), [], [], none, none⟩])
     (.ret))
    (.skip)))
  (g_tree_parser_factor.c7)
def g_tree_parser_factor.code : ACode :=
  .seq (.region [0, 1] none none
     [⟨some 4, .mv (.c (.d (.int .i64 0))), [], [], none, none⟩])
  (.seq (.seq (.region [0, 1, 13] none none
       [⟨some 12, .mv (.t 1), [], [], none, none⟩,
        ⟨some 13, .bin .gtr (.t 12) (.c (.d (.int .i64 20))), [], [], none, none⟩])
    (.cond (.t 13) (.region [0, 1] none none
        [⟨some 14, .mv (.t 0), [], [], none, none⟩,
         ⟨some 15, .call 218 [(.t 14), (.c (.d (.int .i64 9)))], [], [], none, none⟩])
     (.skip)))
   (g_tree_parser_factor.c8))
def g_tree_parser_factor : AFn := { N := 62, res := [.slot 4], own := [], frz := [], code := g_tree_parser_factor.code }
def g_internal_stringslite_CutSuffix.c0 : ACode :=
  .seq (.region [4, 5] (some []) none
     [⟨some 11, .mv (.t 0), [], [], none, none⟩,
      ⟨some 12, .mv (.t 0), [], [], none, none⟩,
      ⟨some 13, .lenS (.t 12), [], [], none, none⟩,
      ⟨some 14, .mv (.t 1), [], [], none, none⟩,
      ⟨some 15, .lenS (.t 14), [], [], none, none⟩,
      ⟨some 16, .bin .sub (.t 13) (.t 15), [], [], none, none⟩,
      ⟨some 17, .slcS (.t 11) none (some (.t 16)), [], [], none, none⟩,
      ⟨some 4, .mv (.t 17), [], [], none, none⟩,
      ⟨some 5, .mv (.c (.d (.bool true))), [], [], none, none⟩])
  (.ret)
def g_internal_stringslite_CutSuffix.code : ACode :=
  .seq (.region [0, 1] (some []) none
     [⟨some 4, .mv (.c (.d (.str []))), [], [], none, none⟩,
      ⟨some 5, .mv (.c (.d (.bool false))), [], [], none, none⟩])
  (.seq (.seq (.region [0, 1, 9] (some []) none
       [⟨some 6, .mv (.t 0), [], [], none, none⟩,
        ⟨some 7, .mv (.t 1), [], [], none, none⟩,
        ⟨some 8, .call 141 [(.t 6), (.t 7)], [], [], none, none⟩,
        ⟨some 9, .un .not (.t 8), [], [], none, none⟩])
    (.cond (.t 9) (.seq (.region [4, 5] (some []) none
         [⟨some 10, .mv (.t 0), [], [], none, none⟩,
          ⟨some 4, .mv (.t 10), [], [], none, none⟩,
          ⟨some 5, .mv (.c (.d (.bool false))), [], [], none, none⟩])
      (.ret))
     (.skip)))
   (g_internal_stringslite_CutSuffix.c0))
def g_internal_stringslite_CutSuffix : AFn := { N := 18, res := [.slot 4, .slot 5], own := [], frz := [], code := g_internal_stringslite_CutSuffix.code }
def g_tree_parser_pair.c0 : ACode :=
  .seq (.region [0, 1, 7, 8] none none
     [⟨some 21, .mv (.t 0), [], [], none, none⟩,
      ⟨some 22, .call 220 [(.t 21), (.c (.d (.str [41])))], [], [], none, none⟩])
  (.seq (.region [6] none none
      [⟨some 23, .mv (.t 0), [], [], none, none⟩,
       ⟨some 24, .mv (.t 1), [], [], none, none⟩,
       ⟨some 25, .mv (.t 7), [], [], none, none⟩,
       ⟨some 26, .mv (.t 8), [], [], none, none⟩,
       ⟨some 27, .build [.d (.str []), .d (.str []), .d (.int .i64 0), .d (.int .i64 0), .d (.int .i64 0), .d (.int .i64 0)] [(0, 1, (.t 24)), (3, 1, (.t 25)), (4, 1, (.t 26))], [], [], none, none⟩,
       ⟨some 28, .call 222 [(.t 23), (.t 27)], [], [], none, none⟩,
       ⟨some 6, .mv (.t 28), [], [], none, none⟩])
   (.ret))
def g_tree_parser_pair.c1 : ACode :=
  .seq (.region [0, 1, 2, 7] none none
     [⟨some 15, .mv (.t 0), [], [], none, none⟩,
      ⟨some 16, .call 220 [(.t 15), (.c (.d (.str [44])))], [], [], none, none⟩])
  (.seq (.region [0, 1, 7, 8] none none
      [⟨some 17, .mv (.t 0), [], [], none, none⟩,
       ⟨some 18, .mv (.t 2), [], [], none, none⟩,
       ⟨some 19, .bin .add (.t 18) (.c (.d (.int .i64 1))), [], [], none, none⟩,
       ⟨some 20, .call 221 [(.t 17), (.t 19)], [], [], none, none⟩,
       ⟨some 8, .mv (.t 20), [], [], none, none⟩])
   (g_tree_parser_pair.c0))
def g_tree_parser_pair.code : ACode :=
  .seq (.region [0, 1, 2] none none
     [⟨some 6, .mv (.c (.d (.int .i64 0))), [], [], none, none⟩])
  (.seq (.region [0, 1, 2] none none
      [⟨some 9, .mv (.t 0), [], [], none, none⟩,
       ⟨some 10, .call 220 [(.t 9), (.c (.d (.str [40])))], [], [], none, none⟩])
   (.seq (.region [0, 1, 2, 7] none none
       [⟨some 11, .mv (.t 0), [], [], none, none⟩,
        ⟨some 12, .mv (.t 2), [], [], none, none⟩,
        ⟨some 13, .bin .add (.t 12) (.c (.d (.int .i64 1))), [], [], none, none⟩,
        ⟨some 14, .call 221 [(.t 11), (.t 13)], [], [], none, none⟩,
        ⟨some 7, .mv (.t 14), [], [], none, none⟩])
    (g_tree_parser_pair.c1)))
def g_tree_parser_pair : AFn := { N := 29, res := [.slot 6], own := [], frz := [], code := g_tree_parser_pair.code }
def g_tree_parser_leaf.c0 : ACode :=
  .region [0, 3, 4] none none
    [⟨some 24, .mv (.t 5), [], [], none, none⟩,
     ⟨some 25, .build [.d (.str []), .d (.str []), .d (.int .i64 0), .d (.int .i64 0), .d (.int .i64 0), .d (.int .i64 0)] [(0, 1, (.c (.d (.str [119, 104, 111, 108, 101])))), (2, 1, (.t 24))], [], [], none, none⟩,
     ⟨none, .store 6 (.t 4) (.t 25), [], [], none, none⟩]
def g_tree_parser_leaf.c1 : ACode :=
  .region [0, 3, 4] none none
    [⟨some 34, .mv (.t 7), [], [], none, none⟩,
     ⟨some 35, .build [.d (.str []), .d (.str []), .d (.int .i64 0), .d (.int .i64 0), .d (.int .i64 0), .d (.int .i64 0)] [(0, 1, (.c (.d (.str [97, 109, 111, 117, 110, 116])))), (2, 1, (.t 34))], [], [], none, none⟩,
     ⟨none, .store 6 (.t 4) (.t 35), [], [], none, none⟩]
def g_tree_parser_leaf.c2 : ACode :=
  .region [0, 3, 4] none none
    [⟨some 44, .mv (.t 9), [], [], none, none⟩,
     ⟨some 45, .build [.d (.str []), .d (.str []), .d (.int .i64 0), .d (.int .i64 0), .d (.int .i64 0), .d (.int .i64 0)] [(0, 1, (.c (.d (.str [114, 97, 116, 101])))), (2, 1, (.t 44))], [], [], none, none⟩,
     ⟨none, .store 6 (.t 4) (.t 45), [], [], none, none⟩]
def g_tree_parser_leaf.o3 : List AOper :=
  [⟨some 64, .pick (.t 54) (.c (.d (.bool true))) (.t 63), [], [], none, none⟩]
def g_tree_parser_leaf.o2 : List AOper :=
  (⟨some 63, .pick (.t 58) (.t 62) (.c (.d (.bool false))), [], [], (some (3, 54, false)), (some ([0, 4, 54, 63], none))⟩ ::
     g_tree_parser_leaf.o3)
def g_tree_parser_leaf.o1 : List AOper :=
  (⟨some 59, .faddr 1 (.t 3), [], [], (some (7, 58, true)), none⟩ ::
     ⟨some 60, .load none (.t 59), [], [], (some (7, 58, true)), none⟩ ::
     ⟨some 61, .call 158 [(.t 60)], [], [], (some (7, 58, true)), none⟩ ::
     ⟨some 62, .un .not (.t 61), [], [], (some (7, 58, true)), (some ([0, 4, 54, 58, 62], none))⟩ ::
     g_tree_parser_leaf.o2)
def g_tree_parser_leaf.o0 : List AOper :=
  (⟨some 55, .faddr 0 (.t 4), [], [], (some (3, 54, false)), none⟩ ::
     ⟨some 56, .load none (.t 55), [], [], (some (3, 54, false)), none⟩ ::
     ⟨some 57, .bin .eql (.t 56) (.c (.d (.str [110, 97, 109, 101]))), [], [], (some (3, 54, false)), none⟩ ::
     ⟨some 58, .mv (.t 57), [], [], (some (3, 54, false)), (some ([0, 3, 4, 54, 58], none))⟩ ::
     g_tree_parser_leaf.o1)
def g_tree_parser_leaf.c3 : ACode :=
  .cond (.t 64) (.seq (.region [] none none
      [⟨some 65, .mv (.t 0), [], [], none, none⟩,
       ⟨some 66, .call 218 [(.t 65), (.c (.d (.int .i64 2)))], [], [], none, none⟩])
   (.seq (.region [2] none none
       [⟨some 2, .mv (.c (.d (.int .i64 0))), [], [], none, none⟩])
    (.ret)))
  (.skip)
def g_tree_parser_leaf.c4 : ACode :=
  .seq (.region [2] none none
     [⟨some 74, .mv (.t 0), [], [], none, none⟩,
      ⟨some 75, .load (some 6) (.t 4), [], [], none, none⟩,
      ⟨some 76, .call 222 [(.t 74), (.t 75)], [], [], none, none⟩,
      ⟨some 2, .mv (.t 76), [], [], none, none⟩])
  (.ret)
def g_tree_parser_leaf.c5 : ACode :=
  .seq (.region [0, 4] none none
     [⟨some 67, .mv (.t 0), [], [], none, none⟩,
      ⟨some 68, .nilc (.t 67), [], [], none, none⟩,
      ⟨some 69, .faddr 2 (.t 68), [], [], none, none⟩,
      ⟨some 70, .load none (.t 69), [], [], none, none⟩,
      ⟨some 71, .bin .add (.t 70) (.c (.d (.int .i64 1))), [], [], none, none⟩,
      ⟨some 72, .nilc (.t 67), [], [], none, none⟩,
      ⟨some 73, .faddr 2 (.t 72), [], [], none, none⟩,
      ⟨none, .store 1 (.t 73) (.t 71), [], [], none, none⟩])
  (g_tree_parser_leaf.c4)
def g_tree_parser_leaf.c6 : ACode :=
  .seq (.seq (.region [0, 4, 64] none none
      (⟨some 51, .faddr 0 (.t 4), [], [], none, none⟩ ::
       ⟨some 52, .load none (.t 51), [], [], none, none⟩ ::
       ⟨some 53, .bin .eql (.t 52) (.c (.d (.str []))), [], [], none, none⟩ ::
       ⟨some 54, .mv (.t 53), [], [], none, (some ([0, 3, 4, 54], none))⟩ ::
       g_tree_parser_leaf.o0))
   (g_tree_parser_leaf.c3))
  (g_tree_parser_leaf.c5)
def g_tree_parser_leaf.c7 : ACode :=
  .seq (.region [0, 3, 4] none none
     [⟨some 13, .build [.d (.str []), .d (.str []), .d (.int .i64 0), .d (.int .i64 0), .d (.int .i64 0), .d (.int .i64 0)] [], [], [], none, none⟩,
      ⟨some 4, .alloc 4 [.d (.str []), .d (.str []), .d (.int .i64 0), .d (.int .i64 0), .d (.int .i64 0), .d (.int .i64 0)], [], [], none, none⟩,
      ⟨none, .store 6 (.t 4) (.t 13), [], [], none, none⟩])
  (.seq (.seq (.region [0, 3, 4, 15] none none
       [⟨some 14, .faddr 0 (.t 3), [], [], none, none⟩,
        ⟨some 15, .load none (.t 14), [], [], none, none⟩])
    (.block 0 [0, 3, 4] none (.seq (.region [0, 3, 4, 15, 16] none none
         [⟨some 17, .bin .eql (.t 15) (.c (.d (.int .i64 2))), [], [], none, none⟩,
          ⟨some 16, .mv (.t 17), [], [], none, none⟩])
      (.cond (.t 16) (.seq (.region [0, 3, 4, 5] none none
           [⟨some 19, .faddr 1 (.t 3), [], [], none, none⟩,
            ⟨some 20, .load none (.t 19), [], [], none, none⟩,
            ⟨some 21, .call 70 [(.t 20)], [], [], none, none⟩,
            ⟨some 18, .mv (.t 21), [], [], none, none⟩,
            ⟨some 22, .ext (.t 18) 0, [], [], none, none⟩,
            ⟨some 23, .ext (.t 18) 1, [], [], none, none⟩,
            ⟨some 5, .mv (.t 22), [], [], none, none⟩,
            ⟨some 6, .mv (.t 23), [], [], none, none⟩])
        (g_tree_parser_leaf.c0))
       (.seq (.region [0, 3, 4, 15, 26] none none
           [⟨some 27, .bin .eql (.t 15) (.c (.d (.int .i64 3))), [], [], none, none⟩,
            ⟨some 26, .mv (.t 27), [], [], none, none⟩])
        (.cond (.t 26) (.seq (.region [0, 3, 4, 7] none none
             [⟨some 29, .faddr 1 (.t 3), [], [], none, none⟩,
              ⟨some 30, .load none (.t 29), [], [], none, none⟩,
              ⟨some 31, .call 51 [(.t 30)], [], [], none, none⟩,
              ⟨some 28, .mv (.t 31), [], [], none, none⟩,
              ⟨some 32, .ext (.t 28) 0, [], [], none, none⟩,
              ⟨some 33, .ext (.t 28) 1, [], [], none, none⟩,
              ⟨some 7, .mv (.t 32), [], [], none, none⟩,
              ⟨some 8, .mv (.t 33), [], [], none, none⟩])
          (g_tree_parser_leaf.c1))
         (.seq (.region [0, 3, 4, 15, 36] none none
             [⟨some 37, .bin .eql (.t 15) (.c (.d (.int .i64 4))), [], [], none, none⟩,
              ⟨some 36, .mv (.t 37), [], [], none, none⟩])
          (.cond (.t 36) (.seq (.region [0, 3, 4, 9] none none
               [⟨some 39, .faddr 1 (.t 3), [], [], none, none⟩,
                ⟨some 40, .load none (.t 39), [], [], none, none⟩,
                ⟨some 41, .call 92 [(.t 40)], [], [], none, none⟩,
                ⟨some 38, .mv (.t 41), [], [], none, none⟩,
                ⟨some 42, .ext (.t 38) 0, [], [], none, none⟩,
                ⟨some 43, .ext (.t 38) 1, [], [], none, none⟩,
                ⟨some 9, .mv (.t 42), [], [], none, none⟩,
                ⟨some 10, .mv (.t 43), [], [], none, none⟩])
            (g_tree_parser_leaf.c2))
           (.seq (.region [0, 3, 4, 46] none none
               [⟨some 47, .bin .eql (.t 15) (.c (.d (.int .i64 1))), [], [], none, none⟩,
                ⟨some 46, .mv (.t 47), [], [], none, none⟩])
            (.cond (.t 46) (.region [0, 3, 4] none none
                [⟨some 48, .faddr 1 (.t 3), [], [], none, none⟩,
                 ⟨some 49, .load none (.t 48), [], [], none, none⟩,
                 ⟨some 50, .build [.d (.str []), .d (.str []), .d (.int .i64 0), .d (.int .i64 0), .d (.int .i64 0), .d (.int .i64 0)] [(0, 1, (.c (.d (.str [110, 97, 109, 101])))), (1, 1, (.t 49))], [], [], none, none⟩,
                 ⟨none, .store 6 (.t 4) (.t 50), [], [], none, none⟩])
             (.skip)))))))))))
   (g_tree_parser_leaf.c6))
def g_tree_parser_leaf.code : ACode :=
  .seq (.region [0] none none
     [⟨some 2, .mv (.c (.d (.int .i64 0))), [], [], none, none⟩])
  (.seq (.region [0, 3] none none
      [⟨some 11, .mv (.t 0), [], [], none, none⟩,
       ⟨some 12, .call 217 [(.t 11)], [], [], none, none⟩,
       ⟨some 3, .alloc 3 [.d (.int .i64 0), .d (.str []), .d (.int .i64 0)], [], [], none, none⟩,
       ⟨none, .store 3 (.t 3) (.t 12), [], [], none, none⟩])
   (g_tree_parser_leaf.c7))
def g_tree_parser_leaf : AFn := { N := 77, res := [.slot 2], own := [], frz := [], code := g_tree_parser_leaf.code }
def g_internal_stringslite_HasSuffix.o1 : List AOper :=
  [⟨some 20, .pick (.t 10) (.t 19) (.c (.d (.bool false))), [], [], none, none⟩,
     ⟨some 4, .mv (.t 20), [], [], none, none⟩]
def g_internal_stringslite_HasSuffix.o0 : List AOper :=
  (⟨some 11, .mv (.t 0), [], [], (some (5, 10, true)), none⟩ ::
     ⟨some 12, .mv (.t 0), [], [], (some (5, 10, true)), none⟩ ::
     ⟨some 13, .lenS (.t 12), [], [], (some (5, 10, true)), none⟩ ::
     ⟨some 14, .mv (.t 1), [], [], (some (5, 10, true)), none⟩ ::
     ⟨some 15, .lenS (.t 14), [], [], (some (5, 10, true)), none⟩ ::
     ⟨some 16, .bin .sub (.t 13) (.t 15), [], [], (some (5, 10, true)), none⟩ ::
     ⟨some 17, .slcS (.t 11) (some (.t 16)) none, [], [], (some (5, 10, true)), none⟩ ::
     ⟨some 18, .mv (.t 1), [], [], (some (5, 10, true)), none⟩ ::
     ⟨some 19, .bin .eql (.t 17) (.t 18), [], [], (some (5, 10, true)), (some ([10, 19], (some [])))⟩ ::
     g_internal_stringslite_HasSuffix.o1)
def g_internal_stringslite_HasSuffix.c0 : ACode :=
  .ret
def g_internal_stringslite_HasSuffix.code : ACode :=
  .seq (.region [0, 1] (some []) none
     [⟨some 4, .mv (.c (.d (.bool false))), [], [], none, none⟩])
  (.seq (.region [4] (some []) none
      (⟨some 5, .mv (.t 0), [], [], none, none⟩ ::
       ⟨some 6, .lenS (.t 5), [], [], none, none⟩ ::
       ⟨some 7, .mv (.t 1), [], [], none, none⟩ ::
       ⟨some 8, .lenS (.t 7), [], [], none, none⟩ ::
       ⟨some 9, .bin .geq (.t 6) (.t 8), [], [], none, none⟩ ::
       ⟨some 10, .mv (.t 9), [], [], none, (some ([0, 1, 10], (some [])))⟩ ::
       g_internal_stringslite_HasSuffix.o0))
   (g_internal_stringslite_HasSuffix.c0))
def g_internal_stringslite_HasSuffix : AFn := { N := 21, res := [.slot 4], own := [], frz := [], code := g_internal_stringslite_HasSuffix.code }

end Pay
